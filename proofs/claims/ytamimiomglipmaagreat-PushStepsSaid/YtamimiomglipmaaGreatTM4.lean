/- Plain: what the printed references of counts answer (right, total, log). -/
import Derived.Test.YtamimiomglipmaaGreatTS1
import Derived.Test.YtamimiomglipmaaGreatTM1
import Derived.Test.YtamimiomglipmaaGreatTM0
import Derived.Deep.LoopGhost
import Derived.Laws.Rows
import Derived.Deep.DeepCutAuto
import Derived.Deep.RegionHeld3
import Derived.Test.YtamimiomglipmaaGreatTM2
import Derived.BigQuiet
import Derived.Laws.BitsAllLaws
import Derived.RangeFuncRecord
import Derived.RangeFuncSeq
import Derived.WalkKit
import Derived.OwnWalkIn
import Derived.TacticsInMore
import Derived.BigFrameIn
import Derived.LoopNIn
import Derived.LoopIn
import Derived.Maps.OwnIn
import Derived.Maps.AppendAt
import Derived.RangeFuncBox
import Derived.OwnWalk
import Derived.Deep.QuietTactic
import Derived.Deep.MidRow
import Derived.Deep.RegionLaw
import Derived.WalkMore
namespace Go.Proofs.YtamimiomglipmaaGreat
open Go.RowKit Go.Proofs.YtamimiomglipmaaGreatW.PrintWords Go.Proofs.YtamimiomglipmaaGreatW.PrintLast Go.Proofs.YtamimiomglipmaaGreatW.PrintMore
theorem a3I {c : List Int} {i : Nat} (h : i < c.length) : c.getD i 0 ∈ c:=by
 rw [List.getD_eq_getElem?_getD,List.getElem?_eq_getElem h]; exact List.getElem_mem h
def mapR (f : Nat -> Int) : List Int:=(List.range 256).map f
theorem a1Z (f : Nat -> Int) : (mapR f).length = 256:=by simp [mapR]
theorem a4m (f : Nat -> Int) {v : Nat} (h : v < 256) : (mapR f).getD v 0 = f v:=by
 unfold mapR; rw [List.getD_eq_getElem?_getD,List.getElem?_map,List.getElem?_range h]; rfl
theorem a5e {f g : Nat -> Int} (h : ∀ v,v < 256 -> f v = g v) : mapR f = mapR g:=by
 unfold mapR; exact List.map_congr_left (λ v hv=>h v (List.mem_range.1 hv))
theorem a8J (f : Nat -> Int) {v : Nat} (_ : v < 256) (y : Int) : (mapR f).set v y = mapR (λ u=>if u = v then y else f u):=by
 apply List.ext_getElem
 · simp [mapR]
 · intro i h1 h2
   rw [List.getElem_set]
   simp only [mapR,List.getElem_map,List.getElem_range]
   by_cases e : v = i
   · rw [if_pos e,if_pos e.symm]
   · rw [if_neg e,if_neg (λ x=>e x.symm)]
theorem a8K {f : Nat -> Int} {x : Int} (h : x ∈ mapR f) : ∃ v,v < 256 /\ x = f v:=by
 unfold mapR at h
 obtain ⟨v,hv,rfl⟩:=List.mem_map.1 h
 exact ⟨v,List.mem_range.1 hv,rfl⟩
def histL (b : List Int) : List Int:=mapR (λ v=>(b.count (v : Int) : Int))
def posC (c : List Int) (k : Nat) : Nat:=(c.take k).countP (λ x=>decide (0 < x))
def manyC (c : List Int) : Nat:=if a0Z c then c.countP (λ x=>decide (0 < x)) else 0
theorem b3G (c : List Int) (i : Nat) (h : i < c.length) : posC c (i + 1) = posC c i + (if 0 < c.getD i 0 then 1 else 0):=by
 unfold posC
 rw [List.take_succ_eq_append_getElem h,List.countP_append,List.getD_eq_getElem?_getD,List.getElem?_eq_getElem h,Option.getD_some]
 congr 1
 by_cases e : 0 < c[i] <;> simp [e]
def pkL (b : List Int) (c : Int) (k : Nat) : List Int:=((List.range k).filter (λ j=>decide (ctxI b (j : Nat) = c))).map (λ j=>b.getD j 0)
def a0j (b : List Int) (c : Int) : List Int:=pkL b c b.length
theorem b3H {b : List Int} {c : Int} {k : Nat} (h : ctxI b (k : Nat) = c) : pkL b c (k + 1) = pkL b c k ++ [b.getD k 0]:=by
 unfold pkL; rw [List.range_succ,List.filter_append,List.map_append]; congr 1
 simp only [List.filter_cons,List.filter_nil,h,decide_true]; rfl
theorem b3I {b : List Int} {c : Int} {k : Nat} (h : ctxI b (k : Nat) ≠ c) : pkL b c (k + 1) = pkL b c k:=by
 unfold pkL; rw [List.range_succ,List.filter_append,List.map_append]
 simp only [List.filter_cons,List.filter_nil,h,decide_false]; simp
theorem a5f (b : List Int) (c : Int) (k : Nat) : (pkL b c k).length <= k:=by
 unfold pkL; rw [List.length_map]; exact Nat.le_trans (List.length_filter_le _ _) (by simp)
theorem b3J {b : List Int} (hb : Bytes b) (c : Int) (k : Nat) : Bytes (pkL b c k):=by
 intro x hx
 unfold pkL at hx
 obtain ⟨j,_,rfl⟩:=List.mem_map.1 hx
 exact hb.get j
theorem c2o (l : List Int) {y : Nat} (hy : y < 256) : histL (l ++ [(y : Int)]) = (histL l).set y ((l.count (y : Int) : Int) + 1):=by
 unfold histL
 rw [a8J _ hy]
 refine a5e (λ u _=>?_)
 rw [List.count_append,List.count_singleton]
 by_cases e : u = y
 · subst e; rw [if_pos rfl]; simp
 · rw [if_neg e]
   have : ¬ (y : Int) = (u : Int):=by omega
   simp [this]
theorem a6K (l : List Int) {y : Nat} (hy : y < 256) : (histL l).getD y 0 = (l.count (y : Int) : Int):=by unfold histL; rw [a4m _ hy]
def widN (b : List Int) : Nat -> Nat
 | 0=>0
 | k + 1=>max (widN b k) (manyC (histL (a0j b (k : Nat))))
theorem a5g (c : List Int) : manyC c <= 256:=by
 unfold manyC
 split
 · rename_i h
   have:=List.countP_le_length (p:=λ x=>decide (0 < x)) (l:=c); have:=(rightC_iff.1 h).1; omega
 · omega
theorem a8L (b : List Int) : ∀ k,widN b k <= 256
 | 0=>by simp [widN]
 | k + 1=>by
  have:=a8L b k; have:=a5g (histL (a0j b (k : Nat)))
  simp only [widN]; omega
def presN (b : List Int) (k : Nat) : List Int:=((List.range k).filter (λ (c : Nat)=>decide (0 < (a0j b (c : Int)).length))).map (λ (c : Nat)=>(c : Int))
theorem b3K (b : List Int) (k : Nat) : presN b (k + 1) = if 0 < (a0j b (k : Int)).length then presN b k ++ [(k : Int)] else presN b k:=by
 unfold presN; rw [List.range_succ,List.filter_append,List.map_append]
 by_cases h : 0 < (a0j b (k : Int)).length
 · rw [if_pos h]; congr 1; simp only [List.filter_cons,List.filter_nil,h,decide_true]; rfl
 · rw [if_neg h]; simp only [List.filter_cons,List.filter_nil,h,decide_false]; simp
theorem a6L (b : List Int) (k : Nat) : (presN b k).length <= k:=by
 unfold presN; rw [List.length_map]; exact Nat.le_trans (List.length_filter_le _ _) (by simp)
def ceilI (n : Int) : Nat:=a1V (n - 1)
def pickI (n m : Nat) (most : Int) : Int:=mx (mx (mn ((a0k n : Int) - 2) most) 5) (ceilI m)
theorem c2p (n : Nat) (h : n < 2 ^ 40) : a0k (n : Int) <= 40:=by
 rcases Nat.eq_zero_or_pos n with h0 | h0
 · subst h0; decide
 · have:=(a2K n h0 (by omega)).1
   have a : ¬ 41 <= a0k (n : Int):=λ e=>by
    have:=Nat.pow_le_pow_right (n:=2) (by omega) e; omega
   omega
def needN (rest : List Int) (had : List Bool) : Nat -> Int
 | 0=>-1
 | k + 1=>if had.getD k false = true then needN rest had k else if needN rest had k < 0 then (k : Int) else if rest.getD k 0 > rest.getD (needN rest had k).toNat 0 then (k : Int) else needN rest had k
theorem a5h (rest : List Int) (had : List Bool) : ∀ k,-1 <= needN rest had k /\ needN rest had k < k /\ (0 <= needN rest had k -> had.getD (needN rest had k).toNat false = false)
 | 0=>by simp [needN]
 | k + 1=>by
  obtain ⟨h1,h2,h3⟩:=a5h rest had k
  simp only [needN]
  cases hk : had.getD k false with
  | true=>rw [if_pos rfl]; exact ⟨h1,by omega,h3⟩
  | false=>
   rw [if_neg (by decide)]
   split
   · exact ⟨by omega,by omega,λ _=>by rw [Int.toNat_natCast]; exact hk⟩
   · split
     · exact ⟨by omega,by omega,λ _=>by rw [Int.toNat_natCast]; exact hk⟩
     · exact ⟨h1,by omega,h3⟩
theorem a8M (rest : List Int) (had : List Bool) {s : Nat} (hs : had.getD s false = false) : ∀ k,s < k -> 0 <= needN rest had k
 | 0,h=>by omega
 | k + 1,h=>by
  simp only [needN]
  by_cases e : s = k
  · subst e
    rw [hs,if_neg (by decide)]
    split
    · omega
    · split <;> omega
  · have ih:=a8M rest had hs k (by omega)
    split
    · exact ih
    · rw [if_neg (by omega)]
      split <;> omega
def richN (q c : List Int) : Nat -> Nat
 | 0=>0
 | k + 1=>if q.getD k 0 > q.getD (richN q c k) 0 \/ q.getD k 0 = q.getD (richN q c k) 0 /\ c.getD k 0 <= c.getD (richN q c k) 0 then k else richN q c k
theorem a6M (q c : List Int) : ∀ k,richN q c k <= k - 1
 | 0=>by simp [richN]
 | k + 1=>by
  have:=a6M q c k
  simp only [richN]; split <;> omega
theorem b3L (q c : List Int) : ∀ k,∀ s,s < k -> q.getD s 0 <= q.getD (richN q c k) 0
 | 0,s,h=>by omega
 | k + 1,s,h=>by
  have ih:=b3L q c k
  simp only [richN]
  split
  · rename_i hc
    by_cases e : s = k
    · subst e; exact Int.le_refl _
    · have:=ih s (by omega); omega
  · rename_i hc
    by_cases e : s = k
    · subst e; omega
    · exact ih s (by omega)
end Go.Proofs.YtamimiomglipmaaGreat
namespace Go.Proofs.YtamimiomglipmaaGreat
open Go.RowKit
theorem a6N (q : List Int) (s : Nat) (y : Int) (h : s < q.length) : (q.set s y).sum = q.sum - q.getD s 0 + y:=by
 induction q generalizing s with
 | nil=>simp at h
 | cons a q ih=>
  cases s with
  | zero=>simp; omega
  | succ s=>
   have:=ih s (by simpa using h)
   simp only [List.set_cons_succ,List.sum_cons,List.getD_cons_succ,this]; omega
theorem a3k (q : List Int) (s t : Nat) (y : Int) (h : s < q.length) : (q.set s y).getD t 0 = if t = s then y else q.getD t 0:=by
 rw [List.getD_eq_getElem?_getD,List.getElem?_set]
 by_cases e : s = t
 · subst e; rw [if_pos rfl,if_pos h,if_pos rfl]; rfl
 · rw [if_neg e,if_neg (λ x=>e x.symm),List.getD_eq_getElem?_getD]
def q0F (c : List Int) (P n : Int) (s : Nat) : Int:=if c.getD s 0 * P / n = 0 then min (c.getD s 0) 1 else c.getD s 0 * P / n
def q0L (c : List Int) (P n : Int) : List Int:=mapR (q0F c P n)
def restL (c : List Int) (P n : Int) : List Int:=mapR (λ s=>c.getD s 0 * P % n)
def hadL (c : List Int) (P n : Int) : List Bool:=(List.range 256).map (λ s=>decide (c.getD s 0 * P / n = 0))
def a0R (rest : List Int) : Nat -> List Int × List Bool -> List Int × List Bool
 | 0,st=>st
 | m + 1,st=>let r:=a0R rest m st; (r.1.set (needN rest r.2 256).toNat (r.1.getD (needN rest r.2 256).toNat 0 + 1),r.2.set (needN rest r.2 256).toNat true)
def a0M (c : List Int) : Nat -> List Int -> List Int
 | 0,q=>q
 | m + 1,q=>let r:=a0M c m q; r.set (richN r c 256) (r.getD (richN r c 256) 0 - 1)
def giveM (c : List Int) (P n : Int) : Nat:=(P - (q0L c P n).sum).toNat
def normL (c : List Int) (r : Nat) : List Int:=
 let P : Int:=2 ^ r
 let n:=c.sum
 let g:=(a0R (restL c P n) (giveM c P n) (q0L c P n,hadL c P n)).1
 a0M c (g.sum - P).toNat g
theorem c2q {f g : Nat -> Int} (h : ∀ s,s < 256 -> f s <= g s) : (mapR f).sum <= (mapR g).sum:=by
 unfold mapR
 have key : ∀ l : List Nat,(∀ s ∈ l,f s <= g s) -> (l.map f).sum <= (l.map g).sum:=by
  intro l
  induction l with
  | nil=>intro _; simp
  | cons a l ih=>
   intro hl
   have:=ih (λ s hs=>hl s (by simp [hs])); have:=hl a (by simp)
   simp only [List.map_cons,List.sum_cons]; omega
 exact key _ (λ s hs=>h s (List.mem_range.1 hs))
theorem b3M {c : List Int} (h : c.length = 256) : mapR (λ s=>c.getD s 0) = c:=by
 apply List.ext_getElem
 · rw [a1Z,h]
 · intro i h1 h2; simp [mapR,List.getElem?_eq_getElem h2]
theorem b3N (f : Nat -> Int) (k : Int) : (mapR (λ s=>f s * k)).sum = (mapR f).sum * k:=by
 unfold mapR
 induction List.range 256 with
 | nil=>simp
 | cons a l ih=>simp only [List.map_cons,List.sum_cons,ih,Int.add_mul]
theorem c2r (f g : Nat -> Int) : (mapR (λ s=>f s + g s)).sum = (mapR f).sum + (mapR g).sum:=by
 unfold mapR
 induction List.range 256 with
 | nil=>simp
 | cons a l ih=>simp only [List.map_cons,List.sum_cons,ih]; omega
def freeN (had : List Bool) : Nat:=had.countP (λ b=>!b)
theorem c2s (c : List Int) (P n : Int) : ((freeN (hadL c P n) : Nat) : Int) = (mapR (λ s=>if c.getD s 0 * P / n = 0 then 0 else 1)).sum:=by
 unfold freeN hadL mapR
 induction List.range 256 with
 | nil=>simp
 | cons a l ih=>
  have e1 : ((if (!decide (c.getD a 0 * P / n = 0)) = true then 1 else 0 : Nat) : Int) = if c.getD a 0 * P / n = 0 then 0 else 1:=by
   by_cases e : c.getD a 0 * P / n = 0
   · rw [if_pos e,decide_eq_true e]; rfl
   · rw [if_neg e,decide_eq_false e]; rfl
  rw [List.map_cons,List.map_cons,List.countP_cons,List.sum_cons,Int.natCast_add,ih,e1]; omega
structure Can (c : List Int) (r : Nat) : Prop where
 len : c.length = 256
 nonneg : ∀ x ∈ c,0 <= x
 pos : 0 < c.sum
 le : c.sum <= 1073741824
 r1 : 1 <= r
 r12 : r <= 12
 many : c.countP (λ x=>decide (0 < x)) <= 2 ^ r
theorem Can.get {c : List Int} {r : Nat} (h : Can c r) (s : Nat) : 0 <= c.getD s 0 /\ c.getD s 0 <= c.sum:=by
 by_cases hs : s < c.length
 · exact ⟨h.nonneg _ (a3I hs),b1V h.nonneg (a3I hs)⟩
 · rw [List.getD_eq_getElem?_getD,List.getElem?_eq_none (by omega)]; have:=h.pos; simp; omega
theorem Can.q0 {c : List Int} {r : Nat} (h : Can c r) (s : Nat) : 0 <= q0F c (2 ^ r) c.sum s /\ q0F c (2 ^ r) c.sum s <= 4096 /\ (0 < q0F c (2 ^ r) c.sum s ↔ 0 < c.getD s 0) /\ c.getD s 0 * 2 ^ r <= (q0F c (2 ^ r) c.sum s + (if c.getD s 0 * 2 ^ r / c.sum = 0 then 0 else 1)) * c.sum:=by
 have hg:=h.get s
 have hp:=h.pos
 have h2:=a1H h.r12
 have hm0 : 0 <= c.getD s 0 * 2 ^ r:=Int.mul_nonneg hg.1 (by omega)
 have hd0 : 0 <= c.getD s 0 * 2 ^ r / c.sum:=Int.ediv_nonneg hm0 (by omega)
 have hdm:=Int.mul_ediv_add_emod (c.getD s 0 * 2 ^ r) c.sum
 have hml:=Int.emod_lt_of_pos (c.getD s 0 * 2 ^ r) hp
 have hmn:=Int.emod_nonneg (c.getD s 0 * 2 ^ r) (b:=c.sum) (by omega)
 have hle : c.getD s 0 * 2 ^ r / c.sum <= 2 ^ r:=by
  refine Int.ediv_le_of_le_mul hp ?_
  rw [Int.mul_comm]; exact Int.mul_le_mul_of_nonneg_left hg.2 (by omega)
 unfold q0F
 by_cases e : c.getD s 0 * 2 ^ r / c.sum = 0
 · rw [if_pos e,if_pos e]
   rw [e,Int.mul_zero,Int.zero_add] at hdm
   refine ⟨by omega,by omega,by omega,?_⟩
   by_cases e2 : c.getD s 0 = 0
   · rw [e2,show min (0 : Int) 1 = 0 by decide]; simp
   · rw [show min (c.getD s 0) 1 = 1 by omega]; omega
 · rw [if_neg e,if_neg e]
   refine ⟨hd0,by omega,⟨λ _=>?_,λ _=>by omega⟩,?_⟩
   · by_cases e2 : c.getD s 0 = 0
     · rw [e2] at e; simp at e
     · omega
   · rw [Int.add_mul,Int.one_mul,Int.mul_comm (c.getD s 0 * 2 ^ r / c.sum)]; omega
theorem Can.enough {c : List Int} {r : Nat} (h : Can c r) : (2 : Int) ^ r <= (q0L c (2 ^ r) c.sum).sum + freeN (hadL c (2 ^ r) c.sum):=by
 have h1 : (mapR (λ s=>c.getD s 0 * 2 ^ r)).sum <= (mapR (λ s=>(q0F c (2 ^ r) c.sum s + (if c.getD s 0 * 2 ^ r / c.sum = 0 then 0 else 1)) * c.sum)).sum:=c2q (λ s _=>(h.q0 s).2.2.2)
 rw [b3N,b3N,c2r,b3M h.len,<- c2s,Int.mul_comm c.sum] at h1
 exact Int.le_of_mul_le_mul_right h1 h.pos
theorem a8N {had : List Bool} (hl : had.length = 256) (h : 0 < freeN had) : ∃ s,s < 256 /\ had.getD s false = false:=by
 unfold freeN at h
 obtain ⟨b,hb,hbf⟩:=List.countP_pos_iff.1 h
 obtain ⟨s,hs,rfl⟩:=List.getElem_of_mem hb
 refine ⟨s,by omega,?_⟩
 rw [List.getD_eq_getElem?_getD,List.getElem?_eq_getElem hs]; simpa using hbf
theorem b3O {had : List Bool} {s : Nat} (hs : s < had.length) (h : had.getD s false = false) : freeN (had.set s true) + 1 = freeN had:=by
 unfold freeN
 induction had generalizing s with
 | nil=>simp at hs
 | cons a l ih=>
  cases s with
  | zero=>simp at h; subst h; simp
  | succ s=>
   have:=ih (s:=s) (by simpa using hs) (by simpa using h)
   simp only [List.set_cons_succ,List.countP_cons]; omega
structure Way (c q : List Int) : Prop where
 len : q.length = 256
 rng : ∀ s,0 <= q.getD s 0 /\ q.getD s 0 <= 100000
 iff : ∀ s,0 < q.getD s 0 ↔ 0 < c.getD s 0
theorem a5i {c : List Int} {r : Nat} (h : Can c r) : ∀ m,m <= giveM c (2 ^ r) c.sum ->
    let st:=a0R (restL c (2 ^ r) c.sum) m (q0L c (2 ^ r) c.sum,hadL c (2 ^ r) c.sum)
    st.1.length = 256 /\ st.2.length = 256 /\ (∀ s,0 <= st.1.getD s 0 /\ st.1.getD s 0 <= 4096 + m) /\ (∀ s,0 < st.1.getD s 0 ↔ 0 < c.getD s 0) /\ st.1.sum = (q0L c (2 ^ r) c.sum).sum + m /\ freeN st.2 + m = freeN (hadL c (2 ^ r) c.sum) /\
     (∀ s,s < 256 -> st.2.getD s false = false -> 0 < c.getD s 0)
 | 0,_=>by
  have hlen : (q0L c (2 ^ r) c.sum).length = 256:=a1Z _
  refine ⟨hlen,by simp [a0R,hadL],λ s=>?_,λ s=>?_,by simp [a0R],rfl,λ s hs hf=>?_⟩
  · show 0 <= (q0L c (2 ^ r) c.sum).getD s 0 /\ (q0L c (2 ^ r) c.sum).getD s 0 <= 4096 + ((0 : Nat) : Int)
    by_cases hs : s < 256
    · unfold q0L; rw [a4m _ hs]; have:=h.q0 s; exact ⟨this.1,by have:=this.2.1; omega⟩
    · rw [List.getD_eq_getElem?_getD,List.getElem?_eq_none (by omega)]; simp
  · show 0 < (q0L c (2 ^ r) c.sum).getD s 0 ↔ _
    by_cases hs : s < 256
    · unfold q0L; rw [a4m _ hs]; exact (h.q0 s).2.2.1
    · rw [List.getD_eq_getElem?_getD,List.getElem?_eq_none (by omega),List.getD_eq_getElem?_getD,List.getElem?_eq_none (by have:=h.len; omega)]
  · have hf2 : (hadL c (2 ^ r) c.sum).getD s false = false:=hf
    unfold hadL at hf2
    rw [List.getD_eq_getElem?_getD,List.getElem?_map,List.getElem?_range hs] at hf2
    simp only [Option.map_some,Option.getD_some,decide_eq_false_iff_not] at hf2
    have:=(h.get s).1
    by_cases e2 : c.getD s 0 = 0
    · rw [e2] at hf2; simp at hf2
    · omega
 | m + 1,hm=>by
  obtain ⟨h1,h2,h3,h4,h5,h6,h7⟩:=a5i h m (by omega)
  have hen:=h.enough
  obtain ⟨st,hst⟩ : ∃ st,st = a0R (restL c (2 ^ r) c.sum) m (q0L c (2 ^ r) c.sum,hadL c (2 ^ r) c.sum):=⟨_,rfl⟩
  simp only [a0R]
  rw [<- hst] at h1 h2 h3 h4 h5 h6 h7 ⊢
  have hM : (m : Int) + 1 <= 2 ^ r - (q0L c (2 ^ r) c.sum).sum:=by unfold giveM at hm; omega
  obtain ⟨s0,hs0,hf0⟩:=a8N h2 (by omega)
  have hn0:=a8M (restL c (2 ^ r) c.sum) st.2 hf0 256 hs0
  have hnl:=a5h (restL c (2 ^ r) c.sum) st.2 256
  obtain ⟨t,ht⟩ : ∃ t : Nat,needN (restL c (2 ^ r) c.sum) st.2 256 = t:=⟨_,(Int.toNat_of_nonneg hn0).symm⟩
  rw [ht] at hnl ⊢
  have htf:=hnl.2.2 (by omega)
  rw [Int.toNat_natCast] at htf ⊢
  have ht256 : t < 256:=by omega
  have hct:=h7 t ht256 htf
  have hg:=h3 t
  refine ⟨by rw [List.length_set]; exact h1,by rw [List.length_set]; exact h2,λ s=>?_,λ s=>?_,?_,?_,λ s hs hf=>?_⟩
  · rw [a3k _ _ _ _ (by omega)]
    have:=h3 s
    split <;> omega
  · rw [a3k _ _ _ _ (by omega)]
    by_cases e : s = t
    · subst e; rw [if_pos rfl]; exact ⟨λ _=>hct,λ _=>by omega⟩
    · rw [if_neg e]; exact h4 s
  · rw [a6N _ _ _ (by omega),h5]; omega
  · have:=b3O (had:=st.2) (s:=t) (by omega) htf; omega
  · refine h7 s hs ?_
    by_cases e : s = t
    · subst e; exact htf
    · rw [List.getD_eq_getElem?_getD,List.getElem?_set_ne (λ x=>e x.symm),<- List.getD_eq_getElem?_getD] at hf; exact hf
theorem c2t {q : List Int} (h : ∀ x ∈ q,0 <= x /\ x <= 1) : q.sum <= (q.countP (λ x=>decide (0 < x)) : Nat):=by
 induction q with
 | nil=>simp
 | cons a l ih=>
  have:=ih (λ x hx=>h x (by simp [hx]))
  have ha:=h a (by simp)
  rw [List.sum_cons,List.countP_cons]
  by_cases e : 0 < a
  · simp [e]; omega
  · simp [e]; omega
theorem c2u {c q : List Int} (hc : c.length = 256) (hq : q.length = 256) (h : ∀ s,0 < q.getD s 0 ↔ 0 < c.getD s 0) : q.countP (λ x=>decide (0 < x)) = c.countP (λ x=>decide (0 < x)):=by
 have e : ∀ l : List Int,l.length = 256 -> l.countP (λ x=>decide (0 < x)) = (List.range 256).countP (λ s=>decide (0 < l.getD s 0)):=by
  intro l hl
  have:=b3M hl
  conv=>lhs; rw [<- this]
  unfold mapR
  rw [List.countP_map]; rfl
 rw [e q hq,e c hc]
 exact List.countP_congr (λ s _=>by simp only [decide_eq_true_eq]; exact h s)
theorem a8O {c : List Int} {r : Nat} (h : Can c r) {q : List Int} (hq : Way c q) : ∀ m,m <= (q.sum - 2 ^ r).toNat ->
    Way c (a0M c m q) /\ (a0M c m q).sum = q.sum - m
 | 0,_=>⟨hq,by simp [a0M]⟩
 | m + 1,hm=>by
  obtain ⟨h1,h2⟩:=a8O h hq m (by omega)
  simp only [a0M]
  obtain ⟨t,ht⟩ : ∃ t,t = a0M c m q:=⟨_,rfl⟩
  rw [<- ht] at h1 h2 ⊢
  obtain ⟨b,hb⟩ : ∃ b,b = richN t c 256:=⟨_,rfl⟩
  have hbl:=a6M t c 256
  have hmax:=b3L t c 256
  rw [<- hb] at hbl hmax ⊢
  have hlen:=h1.len
  have hbig : 2 <= t.getD b 0:=by
   by_cases e : 2 <= t.getD b 0
   · exact e
   · exfalso
     have hle : t.sum <= (t.countP (λ x=>decide (0 < x)) : Nat):=c2t (λ x hx=>by
      obtain ⟨s,hs,rfl⟩:=List.getElem_of_mem hx
      have a:=hmax s (by omega); have a2:=h1.rng s
      rw [List.getD_eq_getElem?_getD,List.getElem?_eq_getElem hs,Option.getD_some] at a a2
      omega)
     rw [c2u h.len hlen h1.iff] at hle
     have hmny:=h.many
     have e2 : (2 : Int) ^ r = ((2 ^ r : Nat) : Int):=by simp
     have hmI : (m : Int) + 1 <= q.sum - 2 ^ r:=by omega
     rw [e2] at hmI; omega
  have hrb:=h1.rng b
  have hib:=h1.iff b
  refine ⟨⟨by rw [List.length_set]; exact hlen,λ s=>?_,λ s=>?_⟩,?_⟩
  · rw [a3k _ _ _ _ (by omega)]
    have:=h1.rng s
    split <;> omega
  · rw [a3k _ _ _ _ (by omega)]
    by_cases e : s = b
    · subst e; rw [if_pos rfl]; exact ⟨λ _=>hib.1 (by omega),λ _=>by omega⟩
    · rw [if_neg e]; exact h1.iff s
  · rw [a6N _ _ _ (by omega),h2]; omega
theorem b3P {c : List Int} {r : Nat} (h : Can c r) : Way c (a0R (restL c (2 ^ r) c.sum) (giveM c (2 ^ r) c.sum) (q0L c (2 ^ r) c.sum,hadL c (2 ^ r) c.sum)).1 /\ 2 ^ r <= (a0R (restL c (2 ^ r) c.sum) (giveM c (2 ^ r) c.sum) (q0L c (2 ^ r) c.sum,hadL c (2 ^ r) c.sum)).1.sum:=by
 obtain ⟨h1,h2,h3,h4,h5,h6,h7⟩:=a5i h _ (Nat.le_refl _)
 have h0 : 0 <= (q0L c (2 ^ r) c.sum).sum:=a3d (λ x hx=>by
  obtain ⟨v,hv,rfl⟩:=a8K hx; exact (h.q0 v).1)
 have hp:=a1H h.r12
 have hM : giveM c (2 ^ r) c.sum <= 4096:=by unfold giveM; omega
 refine ⟨⟨h1,λ s=>⟨(h3 s).1,by have:=(h3 s).2; omega⟩,h4⟩,?_⟩
 rw [h5]; unfold giveM; omega
theorem a4n {c : List Int} {r : Nat} (h : Can c r) : Good (normL c r) /\ (normL c r).sum = 2 ^ r /\ ∀ s,0 < (normL c r).getD s 0 ↔ 0 < c.getD s 0:=by
 obtain ⟨hw,hs⟩:=b3P h
 obtain ⟨h1,h2⟩:=a8O h hw _ (Nat.le_refl _)
 have hp:=a1H h.r12
 have e : normL c r = a0M c ((a0R (restL c (2 ^ r) c.sum) (giveM c (2 ^ r) c.sum) (q0L c (2 ^ r) c.sum,hadL c (2 ^ r) c.sum)).1.sum - 2 ^ r).toNat (a0R (restL c (2 ^ r) c.sum) (giveM c (2 ^ r) c.sum) (q0L c (2 ^ r) c.sum,hadL c (2 ^ r) c.sum)).1:=rfl
 rw [<- e] at h1 h2
 have hsum : (normL c r).sum = 2 ^ r:=by rw [h2]; omega
 refine ⟨⟨h1.len,λ x hx=>?_,by omega⟩,hsum,h1.iff⟩
 obtain ⟨s,hs,rfl⟩:=List.getElem_of_mem hx
 have:=h1.rng s
 rw [List.getD_eq_getElem?_getD,List.getElem?_eq_getElem hs] at this; exact this.1
theorem b3Q {c : List Int} {r : Nat} (h : Can c r) : logC (normL c r) = r:=by
 obtain ⟨h1,h2,_⟩:=a4n h
 have hp:=a1H h.r12
 have hr : a0Z (normL c r) = true:=rightC_iff.2 ⟨h1.len,h1.nonneg,by omega⟩
 unfold logC a1g
 rw [if_pos hr,h2]
 exact a7U h.r1 h.r12 rfl
open Go.IntWalk Go.Proofs.YtamimiomglipmaaGreatW.PrintWords Go.Proofs.YtamimiomglipmaaGreatW.PrintLast Go.Proofs.YtamimiomglipmaaGreatW.PrintMore
theorem b3R (n : Nat) (hn : n <= 1000000) (w : World) : (Instr.makeSlice 128 (.int .i64 n) (.int .i64 n)).run Tryz.prog w = .ok (.slice (some ⟨w.heap.size,0,none⟩) n n) (w.alloc (.cells (madeCells #[.int .i64 0] n) 3)):=by
 obtain ⟨i0,hi,hzz⟩:=Option.map_eq_some_iff.1 a3Y
 simp only [Prod.mk.injEq] at hzz
 obtain ⟨hz0,hz1,hz2⟩:=hzz
 have hr:=run_make (P:=Tryz.prog) w 128 3 i0 (.int .i64 0) Tryz.underlying128 hi hz0 .i64 .i64 (n : Int) (n : Int) (by omega) (by omega) (by rw [hz2]; omega) (by omega)
 rw [hz1] at hr
 simpa [Value.cells] using hr
end Go.Proofs.YtamimiomglipmaaGreat
namespace Go.Proofs.YtamimiomglipmaaGreat
open Go.RowKit Go.IntWalk Go.Proofs.YtamimiomglipmaaGreatW.PrintWords
def qTo (c : List Int) (P n : Int) (k : Nat) : List Int:=mapR (λ s=>if s < k then q0F c P n s else 0)
def rTo (c : List Int) (P n : Int) (k : Nat) : List Int:=mapR (λ s=>if s < k then c.getD s 0 * P % n else 0)
def hTo (c : List Int) (P n : Int) (k : Nat) : List Bool:=(List.range 256).map (λ s=>if s < k then decide (c.getD s 0 * P / n = 0) else false)
theorem b3S (c : List Int) (P n : Int) : qTo c P n 0 = List.replicate 256 0 /\ rTo c P n 0 = List.replicate 256 0 /\ hTo c P n 0 = List.replicate 256 false:=by
 have e : ∀ {α : Type} (z : α) (f : Nat -> α),(∀ s,f s = z) -> (List.range 256).map f = List.replicate 256 z:=λ z f h=>by
  rw [show f = λ _=>z from funext h,List.map_const',List.length_range]
 exact ⟨e 0 (λ s=>if s < 0 then q0F c P n s else 0) (λ s=>by rw [if_neg (by omega)]),e 0 (λ s=>if s < 0 then c.getD s 0 * P % n else 0) (λ s=>by rw [if_neg (by omega)]),e false (λ s=>if s < 0 then decide (c.getD s 0 * P / n = 0) else false) (λ s=>by rw [if_neg (by omega)])⟩
theorem b3T (c : List Int) (P n : Int) : qTo c P n 256 = q0L c P n /\ rTo c P n 256 = restL c P n /\ hTo c P n 256 = hadL c P n:=
 ⟨a5e (λ s h=>by rw [if_pos h]),a5e (λ s h=>by rw [if_pos h]),List.map_congr_left (λ s h=>by rw [if_pos (List.mem_range.1 h)])⟩
theorem a6P (f : Nat -> Int) {k : Nat} (hk : k < 256) : (mapR (λ s=>if s < k then f s else 0)).set k (f k) = mapR (λ s=>if s < k + 1 then f s else 0):=by
 rw [a8J _ hk]
 refine a5e (λ s _=>?_)
 by_cases e : s = k
 · subst e; rw [if_pos rfl,if_pos (by omega)]
 · rw [if_neg e]
   by_cases e2 : s < k
   · rw [if_pos e2,if_pos (by omega)]
   · rw [if_neg e2,if_neg (by omega)]
theorem b3V (q : List Int) (k : Nat) (x y : Int) : (q.set k x).set k y = q.set k y:=by simp
def c2x (c : List Int) (r : Nat) (w : World) (e : Ending) (w' : World) : Prop:=∃ v,e = .returned (.tuple #[v,.int .i64 0]) /\ (Kd.int .i64).R 3 w' w.heap.size (λ _=>True) v (normL c r) /\ Below w.heap.size w w'
end Go.Proofs.YtamimiomglipmaaGreat
namespace Go.Proofs.YtamimiomglipmaaGreat
open Go.RowKit Go.Proofs.YtamimiomglipmaaGreatW.PrintWords Go.Proofs.YtamimiomglipmaaGreatW.PrintLast Go.Proofs.YtamimiomglipmaaGreatW.PrintMore
theorem a8P (b : List Int) (hb : Bytes b) : (histL b).sum = b.length:=by
 induction b with
 | nil=>
  unfold histL mapR
  have : ∀ l : List Nat,(l.map (λ (v : Nat)=>(((([] : List Int).count (v : Int)) : Nat) : Int))).sum = 0:=by
   intro l; induction l with
   | nil=>rfl
   | cons a l ih=>rw [List.map_cons,List.sum_cons,ih]; simp
  exact this _
 | cons x l ih=>
  have hx:=hb x (by simp)
  have ih2:=ih (λ y hy=>hb y (by simp [hy]))
  obtain ⟨v,rfl⟩ : ∃ v : Nat,x = v:=⟨x.toNat,by omega⟩
  have e : histL ((v : Int) :: l) = (histL l).set v ((l.count (v : Int) : Int) + 1):=by
   unfold histL
   rw [a8J _ (by omega)]
   refine a5e (λ u _=>?_)
   rw [List.count_cons]
   by_cases e : u = v
   · subst e; rw [if_pos rfl]; simp
   · rw [if_neg e]
     have : ¬ (v : Int) = (u : Int):=by omega
     simp [this]
  rw [e,a6N _ _ _ (by unfold histL; rw [a1Z]; omega),a6K _ (by omega),ih2,List.length_cons]
  omega
theorem a8Q (b : List Int) {s : Nat} (hs : s < 256) : 0 < (histL b).getD s 0 ↔ (s : Int) ∈ b:=by
 rw [a6K _ hs,<- List.count_pos_iff]; omega
theorem c2y (m : Nat) (h : m <= 256) : ceilI m <= 8 /\ m <= 2 ^ ceilI m:=by
 unfold ceilI a1V
 rcases Nat.lt_or_ge m 2 with h2 | h2
 · rw [show ((m : Int) - 1).toNat = 0 by omega]
   exact ⟨by decide,by have : Lib.bitLen 0 = 0:=by decide
                       rw [this]; omega⟩
 · obtain ⟨y,hy⟩ : ∃ y,y = m - 1:=⟨_,rfl⟩
   rw [show ((m : Int) - 1).toNat = y by omega]
   obtain ⟨a,b,c⟩:=a3i y (by omega) (by omega)
   have:=Lib.bitLen_le8' (y : Int) (by omega) (by omega)
   rw [Int.toNat_natCast] at this
   exact ⟨this,by omega⟩
theorem b3W (n m : Nat) (most : Nat) (h : m <= 256) (h8 : 8 <= most) (h12 : most <= 12) : ∃ r : Nat,pickI n m most = r /\ 5 <= r /\ r <= most /\ m <= 2 ^ r:=by
 obtain ⟨c1,c2⟩:=c2y m h
 have hr : 5 <= pickI n m most /\ pickI n m most <= most /\ (ceilI m : Int) <= pickI n m most:=by
  unfold pickI mx mn
  split <;> (split <;> (split <;> omega))
 refine ⟨(pickI n m most).toNat,by omega,by omega,by omega,?_⟩
 have : 2 ^ ceilI m <= 2 ^ (pickI n m most).toNat:=Nat.pow_le_pow_right (by omega) (by omega)
 omega
theorem b3X {c : List Int} (h : a0Z c = true) : manyC c = c.countP (λ x=>decide (0 < x)):=by unfold manyC; rw [if_pos h]
theorem a5j (b : List Int) (hb : Bytes b) (hl : b.length <= 1000000) : a0Z (histL b) = true:=
 rightC_iff.2 ⟨a1Z _,λ x hx=>by obtain ⟨v,_,rfl⟩:=a8K hx; omega,by rw [a8P b hb]; omega⟩
theorem b3Y {b : List Int} {r : Nat} (hb : Bytes b) (hl : b.length <= 1000000) (h0 : 0 < b.length) (h1 : 1 <= r) (h12 : r <= 12) (hm : manyC (histL b) <= 2 ^ r) : Can (histL b) r:=
 ⟨a1Z _,λ x hx=>by obtain ⟨v,_,rfl⟩:=a8K hx; omega,by rw [a8P b hb]; omega,by rw [a8P b hb]; omega,h1,h12,by rw [<- b3X (a5j b hb hl)]; exact hm⟩
def zeroR (b : List Int) : Nat:=(pickI b.length (manyC (histL b)) 11).toNat
def zeroQ (b : List Int) : List Int:=normL (histL b) (zeroR b)
theorem a4o (b : List Int) : pickI b.length (manyC (histL b)) 11 = (zeroR b : Int) /\ 5 <= zeroR b /\ zeroR b <= 11 /\ manyC (histL b) <= 2 ^ zeroR b:=by
 obtain ⟨r,h1,h2,h3,h4⟩:=b3W b.length (manyC (histL b)) 11 (a5g _) (by omega) (by omega)
 have e : zeroR b = r:=by unfold zeroR; rw [show ((11 : Nat) : Int) = 11 from rfl] at h1; rw [h1]; simp
 rw [e]; exact ⟨h1,h2,h3,h4⟩
theorem b3Z {lg : Int} {q : List Int} (h : logC q ≠ 0) (h2 : (logC q : Int) = lg) : badQ lg q = false:=by
 unfold badQ; exact decide_eq_false (λ x=>x.2 ⟨h,h2⟩)
theorem c2z (lg : Int) : badQ lg [] = false:=by unfold badQ; exact decide_eq_false (λ x=>by simp at x)
theorem a6Q {b : List Int} (hb : Bytes b) (hl : b.length <= 1000000) (h0 : 0 < b.length) : Can (histL b) (zeroR b):=by
 have:=a4o b
 exact b3Y hb hl h0 (by omega) (by omega) this.2.2.2
theorem c2A {b : List Int} (hb : Bytes b) (hl : b.length <= 1000000) (h0 : 0 < b.length) : a0G (zeroR b) true [zeroQ b] = true:=by
 have hc:=a6Q hb hl h0
 have hz:=a4o b
 have hlog:=b3Q hc
 have hlen:=(a4n hc).1.len
 unfold a0G
 rw [if_neg (by omega),if_neg (by
  simp only [List.any_cons,List.any_nil,Bool.or_false]
  rw [b3Z (q:=zeroQ b) (by unfold zeroQ; omega) (by unfold zeroQ; rw [hlog])]; decide)]
 rw [if_pos rfl,decide_eq_true_eq]
 have h0 : 0 < (normL (histL b) (zeroR b)).length:=by omega
 refine ⟨List.length_singleton,?_⟩
 rw [List.getD_cons_zero]; unfold zeroQ; exact h0
theorem c2B {b : List Int} (hb : Bytes b) (hl : b.length <= 1000000) (h0 : 0 < b.length) : fitsM (zeroR b) true [zeroQ b] b = true:=by
 have hc:=a6Q hb hl h0
 have hn:=a4n hc
 unfold fitsM
 rw [c2A hb hl h0,Bool.true_and,List.all_eq_true]
 intro i hi
 have hi':=List.mem_range.1 hi
 have hg:=hb.get i
 obtain ⟨x,hx⟩ : ∃ x : Nat,b.getD i 0 = x:=⟨(b.getD i 0).toNat,by omega⟩
 unfold fitAt
 rw [decide_eq_true_eq]
 have e0 : ([zeroQ b].getD (listI true (ctxI b i)) []) = normL (histL b) (zeroR b):=by unfold listI; rw [if_pos rfl,List.getD_cons_zero]; rfl
 rw [e0]
 refine ⟨by have:=hn.1.len; omega,?_⟩
 rw [hx,Int.toNat_natCast]
 have h1:=(hn.2.2 x).2 ((a8Q b (by omega)).2 (by rw [<- hx]; exact a3I hi'))
 omega
def a0m (b : List Int) : Nat:=(pickI b.length (widN b 256) 9).toNat
def a0Y (b : List Int) (c : Nat) : List Int:=if 0 < (a0j b (c : Int)).length then normL (histL (a0j b (c : Int))) (a0m b) else []
def a0w (b : List Int) : List (List Int):=(List.range 256).map (a0Y b)
theorem a2M (b : List Int) : pickI b.length (widN b 256) 9 = (a0m b : Int) /\ 5 <= a0m b /\ a0m b <= 9 /\ widN b 256 <= 2 ^ a0m b:=by
 obtain ⟨r,h1,h2,h3,h4⟩:=b3W b.length (widN b 256) 9 (a8L b _) (by omega) (by omega)
 have e : a0m b = r:=by unfold a0m; rw [show ((9 : Nat) : Int) = 9 from rfl] at h1; rw [h1]; simp
 rw [e]; exact ⟨h1,h2,h3,h4⟩
theorem b4a (b : List Int) : ∀ k c,c < k -> manyC (histL (a0j b (c : Nat))) <= widN b k
 | 0,c,h=>by omega
 | k + 1,c,h=>by
  simp only [widN]
  by_cases e : c = k
  · subst e; omega
  · have:=b4a b k c (by omega); omega
theorem c2C (b : List Int) (c : Int) : (a0j b c).length <= b.length:=a5f b c b.length
theorem a6R {b : List Int} (hb : Bytes b) (hl : b.length <= 1000000) {c : Nat} (hc : c < 256) (h0 : 0 < (a0j b (c : Int)).length) : Can (histL (a0j b (c : Int))) (a0m b):=by
 have h1:=a2M b
 have h2:=b4a b 256 c hc
 have h3:=c2C b (c : Int)
 exact b3Y (b3J hb _ _) (by omega) h0 (by omega) (by omega) (by omega)
theorem a8R (b : List Int) : (a0w b).length = 256:=by simp [a0w]
theorem a6S (b : List Int) {c : Nat} (h : c < 256) : (a0w b).getD c [] = a0Y b c:=by
 unfold a0w; rw [List.getD_eq_getElem?_getD,List.getElem?_map,List.getElem?_range h]; rfl
theorem c2D {b : List Int} (hb : Bytes b) (hl : b.length <= 1000000) : a0G (a0m b) false (a0w b) = true:=by
 have hz:=a2M b
 unfold a0G
 rw [if_neg (by omega),if_neg]
 · rw [if_neg (by decide),decide_eq_true_eq]; exact a8R b
 · rw [Bool.not_eq_true,List.any_eq_false]
   intro q hq
   unfold a0w at hq
   obtain ⟨c,hc,rfl⟩:=List.mem_map.1 hq
   unfold a0Y
   split
   · rename_i h0
     have hlog:=b3Q (a6R hb hl (List.mem_range.1 hc) h0)
     rw [b3Z (by omega) (by rw [hlog])]; decide
   · rw [c2z]; decide
theorem c2E {b : List Int} (hb : Bytes b) (hl : b.length <= 1000000) : fitsM (a0m b) false (a0w b) b = true:=by
 unfold fitsM
 rw [c2D hb hl,Bool.true_and,List.all_eq_true]
 intro i hi
 have hi':=List.mem_range.1 hi
 have hg:=hb.get i
 have hcr:=a8h hb i hi'
 obtain ⟨x,hx⟩ : ∃ x : Nat,b.getD i 0 = x:=⟨(b.getD i 0).toNat,by omega⟩
 obtain ⟨c,hc⟩ : ∃ c : Nat,ctxI b i = c:=⟨(ctxI b i).toNat,by omega⟩
 have hmem : b.getD i 0 ∈ a0j b (c : Int):=by
  unfold a0j pkL
  exact List.mem_map.2 ⟨i,List.mem_filter.2 ⟨hi,by rw [decide_eq_true_eq]; exact hc⟩,rfl⟩
 have hpos : 0 < (a0j b (c : Int)).length:=List.length_pos_of_mem hmem
 have hcan:=a6R hb hl (c:=c) (by omega) hpos
 have hn:=a4n hcan
 have e : (a0w b).getD (listI false (ctxI b i)) [] = normL (histL (a0j b (c : Int))) (a0m b):=by
  rw [hc]
  show (a0w b).getD ((c : Int)).toNat [] = _
  rw [Int.toNat_natCast,a6S b (by omega)]
  unfold a0Y; rw [if_pos hpos]
 unfold fitAt
 rw [decide_eq_true_eq,e]
 refine ⟨by have:=hn.1.len; omega,?_⟩
 rw [hx,Int.toNat_natCast]
 have h1:=(hn.2.2 x).2 ((a8Q _ (by omega)).2 (by rw [<- hx]; exact hmem))
 omega
end Go.Proofs.YtamimiomglipmaaGreat
namespace Go.Proofs.YtamimiomglipmaaGreat
open Go.RowKit Go.IntWalk Go.Proofs.YtamimiomglipmaaGreatW.PrintWords
def MadeM (lg : Int) (one : Bool) (qs : List (List Int)) (w : World) (e : Ending) (w' : World) : Prop:=∃ v,e = .returned (.agg #[.int .i64 lg,.bool one,v]) /\ kq.R 128 w' w.heap.size (λ _=>True) v qs /\ Below w.heap.size w w'
theorem cell3 {w : World} {mb : Nat} {a b c : Value} {t : Nat} (h : w.heap[mb]? = some (.cells #[a,b,c] t (0,0))) : (w.cell? ⟨mb,0,none⟩ = some a /\ w.cell? ⟨mb,1,none⟩ = some b /\ w.cell? ⟨mb,2,none⟩ = some c) /\ (w.frozen? ⟨mb,0,none⟩ = false /\ w.frozen? ⟨mb,1,none⟩ = false /\ w.frozen? ⟨mb,2,none⟩ = false):=
 ⟨⟨(a0a h 0).trans rfl,(a0a h 1).trans rfl,(a0a h 2).trans rfl⟩,a0c h 0,a0c h 1,a0c h 2⟩
theorem a8S : (Tryz.prog.info? 119).map (·.size) = some 3:=by kernel_rfl
theorem a6T : (Tryz.prog.info? 128).map (λ i=>(i.zero,i.size,i.bytes)) = some (some (.slice none 0 0),1,24):=by kernel_rfl
theorem a0d {w w1 w2 : World} (h : Below w.heap.size w w1) (k : Below w1.heap.size w1 w2) : Below w.heap.size w w2:=h.trans (k.mono h.size)
theorem a2w (W : World) (a o : Obj) : ((W.alloc a).alloc o).heap[W.heap.size + 1]? = some o:=by
 have:=a0f (W.alloc a) o
 rw [show (W.alloc a).heap.size = W.heap.size + 1 by simp] at this; exact this
theorem a1K {w : World} {mb : Nat} {t : Nat} {a b c : Value} (h : w.heap[mb]? = some (.cells #[a,b,c] t (0,0))) (x y z : Value) : (((w.setCell ⟨mb,0,none⟩ x).setCell ⟨mb,1,none⟩ y).setCell ⟨mb,2,none⟩ z).heap[mb]? = some (.cells #[x,y,z] t (0,0)):=by
 rw [a0h (a0h (a0h h 0 _) 1 _) 2]; rfl
theorem a2N {α : Type} {d : Kd α} {e : Nat} {w : World} {base mb : Nat} {v : Value} {xs : List α} (h : d.R e w base (λ k=>k ≠ mb) v xs) (x y z : Value) : d.R e (((w.setCell ⟨mb,0,none⟩ x).setCell ⟨mb,1,none⟩ y).setCell ⟨mb,2,none⟩ z) base (λ k=>k ≠ mb) v xs:=
 Kd.R_far (p:=⟨mb,2,none⟩) (Kd.R_far (p:=⟨mb,1,none⟩) (Kd.R_far (p:=⟨mb,0,none⟩) h (λ _ hk=>hk) x) (λ _ hk=>hk) y) (λ _ hk=>hk) z
theorem a8V (b : List Int) {i : Nat} (h : i < (presN b 256).length) : ∃ c : Nat,(presN b 256).getD i 0 = c /\ c < 256 /\ 0 < (a0j b (c : Int)).length:=by
 have hm:=a3I h
 obtain ⟨z,hz⟩ : ∃ z,z = (presN b 256).getD i 0:=⟨_,rfl⟩
 rw [<- hz] at hm ⊢
 unfold presN at hm
 obtain ⟨c,hc,rfl⟩:=List.mem_map.1 hm
 obtain ⟨h1,h2⟩:=List.mem_filter.1 hc
 exact ⟨c,rfl,List.mem_range.1 h1,by simpa using h2⟩
def ofR (b : List Int) (one : Bool) : Nat:=if one then zeroR b else a0m b
def ofQ (b : List Int) (one : Bool) : List (List Int):=if one then [zeroQ b] else a0w b
theorem c2M {w W1 wr : World} {lg : Int} {one : Bool} {qs : List (List Int)} {v : Value} (hb : Below w.heap.size w W1) (hlt : w.heap.size < W1.heap.size) (hk : W1.heap[w.heap.size]? = some (.cells #[.int .i64 0,.bool false,.slice none 0 0] 119 (0,0))) (hv : kq.R 128 wr W1.heap.size (λ _=>True) v qs) (hw : Below W1.heap.size W1 wr) :
    (((wr.setCell ⟨w.heap.size,0,none⟩ (.int .i64 lg)).setCell ⟨w.heap.size,1,none⟩ (.bool one)).setCell ⟨w.heap.size,2,none⟩ v).heap[w.heap.size]? = some (.cells #[.int .i64 lg,.bool one,v] 119 (0,0)) /\
    MadeM lg one qs w (.returned (.agg #[.int .i64 lg,.bool one,v])) (((wr.setCell ⟨w.heap.size,0,none⟩ (.int .i64 lg)).setCell ⟨w.heap.size,1,none⟩ (.bool one)).setCell ⟨w.heap.size,2,none⟩ v):=by
 refine ⟨a1K (a0e hk hw) _ _ _,_,rfl,?_,?_⟩
 · have h1 : kq.R 128 wr w.heap.size (λ k=>k ≠ w.heap.size) v qs:=
     Kd.R_mono (Kd.R_lower (Kd.R_bound hv) (Nat.le_of_lt hlt)) (λ k hk=>by have:=hk.2.1; omega)
   exact Kd.R_mono (a2N h1 _ _ _) (λ _ _=>trivial)
 · exact (((hb.trans (hw.mono hb.size)).setCell (Nat.le_refl _) _).setCell (Nat.le_refl _) _).setCell (Nat.le_refl _) _
theorem a4p {b : List Int} {one : Bool} (hb : Bytes b) (hl : b.length <= 131072) (h0 : 0 < b.length) : canM (ofR b one) one (ofQ b one) b = true:=by
 unfold canM
 rw [decide_eq_true hl,Bool.true_and]
 cases one with
 | true=>exact c2B hb (by omega) h0
 | false=>exact c2E hb (by omega)
theorem a2a (κ : IntKind) (e : TypeId) (W : World) (base : Nat) (ok : Nat -> Prop) (hok : ok W.heap.size) (hb : base <= W.heap.size) (xs : List Int) (hl : xs.length <= 1000000) : (Kd.int κ).R e (W.alloc (.cells (xs.map (Value.int κ)).toArray e)) base ok (.slice (some ⟨W.heap.size,0,none⟩) xs.length xs.length) xs:=by
 refine Kd.R_of_own (h1:=λ _=>rfl) ⟨by simp [encs],.inr ⟨W.heap.size,xs.length,_,rfl,hb,a0f W _,Nat.le_refl _,by unfold maxLen; omega,by simp,?_⟩⟩ (λ k hk=>by cases hk; exact hok)
 rw [Nat.mul_one,show (xs.map (Value.int κ)).toArray.toList = encs (Value.int κ) xs from rfl,List.take_of_length_le (by rw [a2B]; exact Nat.le_refl _)]
theorem c2N {a b : List Int} (ha : Bytes a) (hb : Bytes b) : ((strOfNums a).toList == (strOfNums b).toList) = decide (a = b):=by
 have e : ∀ l : List Int,(strOfNums l).toList = l.map (λ x=>UInt8.ofNat x.toNat):=by
  intro l; unfold strOfNums; simp
 rw [e a,e b]
 by_cases h : a = b
 · subst h; simp
 · rw [decide_eq_false h]
   simp only [beq_eq_false_iff_ne,ne_eq]
   intro he
   apply h
   have inj : ∀ (a b : List Int),Bytes a -> Bytes b -> a.map (λ x=>UInt8.ofNat x.toNat) = b.map (λ x=>UInt8.ofNat x.toNat) -> a = b:=by
    intro a
    induction a with
    | nil=>intro b _ _ h; cases b with
     | nil=>rfl
     | cons y b=>simp at h
    | cons x a ih=>
     intro b hxa hyb h
     cases b with
     | nil=>simp at h
     | cons y b=>
      rw [List.map_cons,List.map_cons,List.cons.injEq] at h
      have hx:=hxa x (by simp)
      have hy:=hyb y (by simp)
      have h1:=congrArg UInt8.toNat h.1
      simp only [UInt8.toNat_ofNat'] at h1
      have : x = y:=by omega
      rw [this,ih b (λ z hz=>hxa z (by simp [hz])) (λ z hz=>hyb z (by simp [hz])) h.2]
   exact inj a b ha hb he
theorem c3d : Tryz.zeroCells172 = madeCells #[.int .i64 0] 256:=by kernel_rfl
theorem a9a (n : Nat) (e : TypeId) (W : World) (ok : Nat -> Prop) (hok : ok W.heap.size) (base : Nat) (hb : base <= W.heap.size) (hn : n <= 1000000) : (Kd.int .i64).R e (W.alloc (.cells (madeCells #[.int .i64 0] n) e)) base ok (.slice (some ⟨W.heap.size,0,none⟩) n n) (List.replicate n 0):=by
 have hr:=Kd.reps_made (R:=(Kd.int .i64).M (W.alloc (.cells (madeCells #[.int .i64 0] n) e)) base (λ k=>ok k /\ some k ≠ (Value.slice (some ⟨W.heap.size,0,none⟩) n n).ownBlock)) (z:=.int .i64 0) (size:=1) (z0:=(0 : Int)) rfl Nat.one_pos rfl n
 have e' : (Value.int .i64 0).cells = #[.int .i64 0]:=rfl
 rw [e',Nat.mul_one] at hr
 refine ⟨λ k hk=>by cases hk; exact hok,_,⟨?_,.inr ⟨W.heap.size,n,madeCells #[.int .i64 0] n,by simp,hb,a0f W _,by simp,by unfold maxLen; omega,?_,?_⟩⟩,hr⟩
 · simp [size_madeCells]; exact (Nat.mul_one n).symm
 · rw [size_madeCells]; exact (Nat.mul_one n).symm
 · rw [List.length_replicate]; exact List.take_of_length_le (by simp [size_madeCells]; exact Nat.le_of_eq (Nat.mul_one n).symm)
theorem c3e : histL [] = List.replicate 256 0:=by
 unfold histL mapR
 rw [List.map_congr_left (g:=λ _=>(0 : Int)) (λ _ _=>by simp),List.map_const',List.length_range]
theorem c3f (b : List Int) (k : Nat) (hk : k < b.length) {y : Nat} (hy : b.getD k 0 = y) (h : y < 256) : histL (b.take (k + 1)) = (histL (b.take k)).set y ((histL (b.take k)).getD y 0 + 1):=by
 rw [List.take_succ_eq_append_getElem hk]
 have e : b[k] = (y : Int):=by rw [<- hy,List.getD_eq_getElem?_getD,List.getElem?_eq_getElem hk]; rfl
 rw [e,c2o _ h,a6K _ h]
def c3g (b : List Int) (w : World) (e : Ending) (w' : World) : Prop:=∃ v,e = .returned v /\ (Kd.int .i64).R 3 w' w.heap.size (λ _=>True) v (histL b) /\ Below w.heap.size w w'
set_option maxRecDepth 100000 in
set_option maxHeartbeats 1000000 in
theorem b4m (A : Option Addr) (cp : Nat) (b : List Int) (w : World) (hr : (Kd.int .u8).C w A b.length b) (hl : b.length <= 1000000) (hb : ∀ x ∈ b,0 <= x /\ x < 256) :
    Calls Tryz.prog 104 #[.slice A b.length cp] w (c3g b w):=by
 have HR:=Lib.hid (And.intro hr (And.intro hl hb))
 have HI : Hid ((Kd.int .i64).R 172 (w.alloc (.cells Tryz.zeroCells172 172)) w.heap.size (λ _=>True) (.slice (some ⟨w.heap.size,0,none⟩) 256 256) (histL (b.take 0)) /\ Below w.heap.size w (w.alloc (.cells Tryz.zeroCells172 172))):=by
  rw [c3d,List.take_zero,c3e]
  exact ⟨a9a 256 _ w _ trivial _ (Nat.le_refl _) (by omega),(Below.refl _ _).alloc (Nat.le_refl _) _⟩
 clear hr hb
 go_enter Tryz.func104,Tryz.ntmps104
 go_wp2_with fail
 go_loopw [8] (λ kv wr=>∃ (k : Nat),kv = .int .i64 k /\ k <= b.length /\ Hid ((Kd.int .i64).R 172 wr w.heap.size (λ _=>True) (.slice (some ⟨w.heap.size,0,none⟩) 256 256) (histL (b.take k)) /\ Below w.heap.size w wr)) (λ kv _=>b.length - (intOf kv).toNat)
 case atStart=>exact ⟨0,rfl,by omega,HI⟩
 case round=>
  obtain ⟨k,rfl,hk,H⟩:=hrel
  by_cases hlt : k < b.length
  · obtain ⟨ad,rfl,hcell⟩:=a0u HR.out.1 k hlt
    have hcw:=a0o H.out.2 hcell
    obtain ⟨x,hx⟩ : ∃ x : Nat,b.getD k 0 = x:=by
     have : 0 <= b.getD k 0:=(HR.out.2.2 _ (a3I hlt)).1
     exact ⟨(b.getD k 0).toNat,by omega⟩
    have hx2 : x < 256:=by have:=(HR.out.2.2 _ (a3I hlt)).2; omega
    rw [hx] at hcw
    obtain ⟨hc3,hf3⟩:=a1u H.out.1 x hx2
    obtain ⟨y,hy⟩ : ∃ y,y = (histL (b.take k)).getD x 0:=⟨_,rfl⟩
    have hyr : 0 <= y /\ y <= 1000000:=by
     rw [hy,a6K _ hx2]
     have:=List.count_le_length (a:=(x : Int)) (l:=b.take k)
     rw [List.length_take] at this
     omega
    obtain ⟨hy0,hy1⟩:=hyr
    rw [<- hy] at hc3
    have HY:=Lib.hid (And.intro hy hx)
    have hx256 : (x : Int) < 256:=by omega
    clear hy hx hcell
    go_wp2_with fail
    go_roundw
    case rel=>
     refine ⟨k + 1,by go_num,by omega,?_,H.out.2.setCell (Nat.le_refl _) _⟩
     rw [c3f b k hlt HY.out.2 hx2,<- HY.out.1]
     have:=Kd.R_putn H.out.1 (x : Int) (y + 1)
     rw [Int.toNat_natCast] at this
     exact this
    case measure=>simp [intOf]; omega
  · obtain rfl : k = b.length:=by omega
    rw [List.take_length] at H
    have hrd:=Kd.R_reads' H.out.1
    have hcl : (histL b).length = 256:=a1Z _
    have HE:=Lib.hid (a6n .i64 3 wr w.heap.size (λ _=>True) H.out.2.size trivial)
    have HC : Hid ((Kd.int .i64).C (wr.alloc (.cells #[] 3)) (some ⟨w.heap.size,0,none⟩) 256 (histL b)):=by
     have:=Kd.C_alloc hrd.2.2 (.cells #[] 3)
     rw [hcl] at this; exact this
    have HL : Hid ((([] : List Int).length + (histL b).length) * 8 <= 140737488355328):=by show _ <= _; rw [hcl]; decide
    have HB:=Lib.hid (H.out.2.alloc H.out.2.size (.cells #[] 3))
    have HS : Hid (w.heap.size <= (wr.alloc (.cells #[] 3)).heap.size):=by show _ <= _; have:=H.out.2.size; simp; omega
    clear hrd hcl hlt
    go_wp2_with (at_builtin; refine Kd.R_append_rows (Kd.int .i64) (Rr:=(Kd.int .i64).K (wr.alloc (.cells #[] 3))) (w0:=w) (W:=wr.alloc (.cells #[] 3)) w.heap.size rfl (.tmp 18) (.tmp 19) 128 3 (.int .i64 0) 8 rfl Tryz.underlying128 a3Y rfl (by decide) (by decide) (.slice (some ⟨wr.heap.size,0,none⟩) 0 0) [] (histL b) (some ⟨w.heap.size,0,none⟩) 256 256 (λ _=>True) (λ _=>False) rfl rfl HE.out HC.out (λ _ _ h=>h) (λ _ h=>h.elim) (λ _ _=>trivial) HB.out HS.out HL.out ?_; intro vi w2 hr2 hb2 hg2 hat2; have HR2:=Lib.hid hr2; have HB2:=Lib.hid hb2; clear hr2 hb2 hg2 hat2)
    go_ret
    rw [List.nil_append] at HR2
    exact ⟨_,rfl,HR2.out,HB2.out⟩
end Go.Proofs.YtamimiomglipmaaGreat
namespace Go.Proofs.YtamimiomglipmaaGreat
open Go.RowKit Go.Proofs.YtamimiomglipmaaGreatW.PrintWords HeapL
def a1v (rest : List Int) (s : Nat) : K3:=((s : Int),rest.getD s 0,0)
def candN (rest : List Int) (had : List Bool) (k : Nat) : List K3:=((List.range k).filter (λ s=>!had.getD s false)).map (a1v rest)
def a1k (c q : List Int) (s : Nat) : K3:=((s : Int),q.getD s 0,(1073741824 - c.getD s 0) * 256 + s)
def candT (c q : List Int) (k : Nat) : List K3:=((List.range k).filter (λ s=>decide (0 < c.getD s 0))).map (a1k c q)
theorem a9k (rest : List Int) (had : List Bool) (k : Nat) : candN rest had (k + 1) = if had.getD k false = false then candN rest had k ++ [a1v rest k] else candN rest had k:=by
 unfold candN
 have e : [k].filter (λ s=>!had.getD s false) = if had.getD k false = false then [k] else []:=by
  rw [List.filter_cons,List.filter_nil]; cases had.getD k false <;> rfl
 rw [List.range_succ,List.filter_append,List.map_append,e]
 split
 · rfl
 · rw [List.map_nil,List.append_nil]
theorem b4B (c q : List Int) (k : Nat) : candT c q (k + 1) = if 0 < c.getD k 0 then candT c q k ++ [a1k c q k] else candT c q k:=by
 unfold candT
 rw [List.range_succ,List.filter_append,List.map_append,List.filter_cons,List.filter_nil]
 by_cases h : 0 < c.getD k 0
 · rw [if_pos h,if_pos (decide_eq_true h)]; rfl
 · rw [if_neg h,if_neg (by rw [decide_eq_false h]; decide),List.map_nil,List.append_nil]
theorem a9l (rest : List Int) (had : List Bool) (k : Nat) : (candN rest had k).length <= k:=by
 unfold candN; rw [List.length_map]; exact Nat.le_trans (List.length_filter_le _ _) (by simp)
theorem a9m (c q : List Int) (k : Nat) : (candT c q k).length <= k:=by
 unfold candT; rw [List.length_map]; exact Nat.le_trans (List.length_filter_le _ _) (by simp)
theorem b4C {p : Nat -> Bool} {t : Nat} (ht : t < 256) (hp : p t = true) : ((List.range 256).filter p).Perm (t :: (List.range 256).filter (λ s=>p s && decide (s ≠ t))):=by
 have hm : t ∈ (List.range 256).filter p:=List.mem_filter.2 ⟨List.mem_range.2 ht,hp⟩
 have hn : ((List.range 256).filter p).Nodup:=List.Pairwise.filter _ List.nodup_range
 have e : ((List.range 256).filter p).erase t = (List.range 256).filter (λ s=>p s && decide (s ≠ t)):=by
  rw [hn.erase_eq_filter,List.filter_filter]
  refine List.filter_congr λ s _=>?_
  rw [Bool.and_comm]
  congr 1
  by_cases h : s = t <;> simp [h]
 rw [<- e]
 exact List.perm_cons_erase hm
theorem b4D (rest : List Int) (had : List Bool) : ∀ k s,s < k -> had.getD s false = false -> 0 <= needN rest had k /\ (rest.getD s 0 < rest.getD (needN rest had k).toNat 0 \/ rest.getD s 0 = rest.getD (needN rest had k).toNat 0 /\ needN rest had k <= s)
 | 0,s,h,_=>by omega
 | k + 1,s,h,hs=>by
  have hl:=a5h rest had k
  simp only [needN]
  by_cases e : s = k
  · subst e
    rw [if_neg (by rw [hs]; decide)]
    by_cases h1 : needN rest had s < 0
    · rw [if_pos h1,Int.toNat_natCast]; exact ⟨by omega,.inr ⟨rfl,Int.le_refl _⟩⟩
    · rw [if_neg h1]
      by_cases h2 : rest.getD s 0 > rest.getD (needN rest had s).toNat 0
      · rw [if_pos h2,Int.toNat_natCast]; exact ⟨by omega,.inr ⟨rfl,Int.le_refl _⟩⟩
      · rw [if_neg h2]; exact ⟨by omega,by omega⟩
  · obtain ⟨i1,i2⟩:=b4D rest had k s (by omega) hs
    by_cases h0 : had.getD k false = true
    · rw [if_pos h0]; exact ⟨i1,i2⟩
    · rw [if_neg h0,if_neg (by omega)]
      by_cases h2 : rest.getD k 0 > rest.getD (needN rest had k).toNat 0
      · rw [if_pos h2,Int.toNat_natCast]; exact ⟨by omega,.inl (by omega)⟩
      · rw [if_neg h2]; exact ⟨i1,i2⟩
theorem b4E (q c : List Int) : ∀ k s,s < k -> q.getD s 0 < q.getD (richN q c k) 0 \/ q.getD s 0 = q.getD (richN q c k) 0 /\ (c.getD (richN q c k) 0 < c.getD s 0 \/ c.getD (richN q c k) 0 = c.getD s 0 /\ s <= richN q c k)
 | 0,s,h=>by omega
 | k + 1,s,h=>by
  have hl:=a6M q c k
  by_cases e : s = k
  · subst e
    simp only [richN]
    split
    · exact .inr ⟨rfl,.inr ⟨rfl,Nat.le_refl _⟩⟩
    · omega
  · have ih:=b4E q c k s (by omega)
    simp only [richN]
    split
    · omega
    · exact ih
theorem c3A {rest : List Int} {had : List Bool} {x : K3} (h : x ∈ candN rest had 256) : ∃ s,s < 256 /\ had.getD s false = false /\ x = a1v rest s:=by
 obtain ⟨s,hs,rfl⟩:=List.mem_map.1 h
 obtain ⟨h1,h2⟩:=List.mem_filter.1 hs
 exact ⟨s,List.mem_range.1 h1,by simpa using h2,rfl⟩
theorem b4F {rest : List Int} {had : List Bool} {s : Nat} (h : s < 256) (h2 : had.getD s false = false) : a1v rest s ∈ candN rest had 256:=
 List.mem_map.2 ⟨s,List.mem_filter.2 ⟨List.mem_range.2 h,by show (!had.getD s false) = true; rw [h2]; rfl⟩,rfl⟩
theorem b4G {ys : List K3} {x : K3} (h : x ∈ ys) : ∃ k,k < ys.length /\ ys.getD k z3 = x:=by
 obtain ⟨k,hk,rfl⟩:=List.getElem_of_mem h
 exact ⟨k,hk,by rw [List.getD_eq_getElem?_getD,List.getElem?_eq_getElem hk]; rfl⟩
theorem b4H {ys : List K3} {k : Nat} (h : k < ys.length) : ys.getD k z3 ∈ ys:=by
 rw [List.getD_eq_getElem?_getD,List.getElem?_eq_getElem h]; exact List.getElem_mem _
theorem c3B {rest : List Int} {had : List Bool} {ys : List K3} (hp : ys.Perm (candN rest had 256)) (hh : From lessC z3 ys 0 ys.length) (h0 : 0 < ys.length) :
    ∃ t : Nat,needN rest had 256 = t /\ t < 256 /\ had.getD t false = false /\ ys.getD 0 z3 = a1v rest t:=by
 obtain ⟨s,hs,hsf,e⟩:=c3A (hp.subset (b4H h0))
 obtain ⟨n1,n2⟩:=b4D rest had 256 s hs hsf
 obtain ⟨l1,l2,l3⟩:=a5h rest had 256
 obtain ⟨t,ht⟩ : ∃ t : Nat,needN rest had 256 = t:=⟨_,(Int.toNat_of_nonneg n1).symm⟩
 rw [ht] at n1 n2 l2 l3
 rw [Int.toNat_natCast] at n2 l3
 have hf:=l3 (by omega)
 obtain ⟨k,hk,ek⟩:=b4G (hp.symm.subset (b4F (rest:=rest) (show t < 256 by omega) hf))
 have hr:=From.root ordC hh (Nat.le_refl _) (λ _ _=>trivial) k hk
 rw [ek,e,a6X] at hr
 simp only [a1v,true_and,Int.lt_irrefl,false_or] at hr
 have est : s = t:=by omega
 subst est
 exact ⟨s,ht,hs,hf,e⟩
theorem c3C {rest : List Int} {had : List Bool} {ys zs : List K3} {t : Nat} (hl : had.length = 256) (ht : t < 256) (hf : had.getD t false = false) (hp : ys.Perm (candN rest had 256)) (h : (a1v rest t :: zs).Perm ys) : zs.Perm (candN rest (had.set t true) 256):=by
 have h1:=(b4C (p:=λ s=>!had.getD s false) ht (by show (!had.getD t false) = true; rw [hf]; rfl)).map (a1v rest)
 have h2 : (a1v rest t :: zs).Perm (a1v rest t :: ((List.range 256).filter (λ s=>(!had.getD s false) && decide (s ≠ t))).map (a1v rest)):=(h.trans hp).trans h1
 have h3:=h2.cons_inv
 have e : candN rest (had.set t true) 256 = ((List.range 256).filter (λ s=>(!had.getD s false) && decide (s ≠ t))).map (a1v rest):=by
  unfold candN
  congr 1
  refine List.filter_congr λ s hs=>?_
  rw [List.getD_eq_getElem?_getD,List.getElem?_set]
  by_cases e : t = s
  · subst e; rw [if_pos rfl,if_pos (by omega)]; simp
  · rw [if_neg e,<- List.getD_eq_getElem?_getD]
    have : ¬ s = t:=λ x=>e x.symm
    simp [this]
 rw [e]; exact h3
theorem c3D {c q : List Int} {x : K3} (h : x ∈ candT c q 256) : ∃ s,s < 256 /\ 0 < c.getD s 0 /\ x = a1k c q s:=by
 obtain ⟨s,hs,rfl⟩:=List.mem_map.1 h
 obtain ⟨h1,h2⟩:=List.mem_filter.1 hs
 exact ⟨s,List.mem_range.1 h1,by simpa using h2,rfl⟩
theorem b4I {c q : List Int} {s : Nat} (h : s < 256) (h2 : 0 < c.getD s 0) : a1k c q s ∈ candT c q 256:=
 List.mem_map.2 ⟨s,List.mem_filter.2 ⟨List.mem_range.2 h,decide_eq_true h2⟩,rfl⟩
theorem c3E {c q : List Int} {ys : List K3} (hi : ∀ s,0 < q.getD s 0 ↔ 0 < c.getD s 0) (hp : ys.Perm (candT c q 256)) (hh : From lessC z3 ys 0 ys.length) (h0 : 0 < ys.length) :
    richN q c 256 < 256 /\ 0 < c.getD (richN q c 256) 0 /\ ys.getD 0 z3 = a1k c q (richN q c 256):=by
 obtain ⟨s,hs,hsf,e⟩:=c3D (hp.subset (b4H h0))
 have n2:=b4E q c 256 s hs
 have l2:=a6M q c 256
 obtain ⟨t,ht⟩ : ∃ t : Nat,t = richN q c 256:=⟨_,rfl⟩
 rw [<- ht] at n2 l2 ⊢
 have hqs:=(hi s).2 hsf
 have hct : 0 < c.getD t 0:=(hi t).1 (by omega)
 obtain ⟨k,hk,ek⟩:=b4G (hp.symm.subset (b4I (q:=q) (show t < 256 by omega) hct))
 have hr:=From.root ordC hh (Nat.le_refl _) (λ _ _=>trivial) k hk
 rw [ek,e,a6X] at hr
 simp only [a1k] at hr
 have est : s = t:=by omega
 subst est
 exact ⟨hs,hct,e⟩
theorem c3F {c q : List Int} {ys zs us : List K3} {t : Nat} (hl : q.length = 256) (ht : t < 256) (hf : 0 < c.getD t 0) (hp : ys.Perm (candT c q 256)) (h : (a1k c q t :: zs).Perm ys)
    (hu : us.Perm (((t : Int),q.getD t 0 - 1,(1073741824 - c.getD t 0) * 256 + t) :: zs)) : us.Perm (candT c (q.set t (q.getD t 0 - 1)) 256):=by
 have hpa:=b4C (p:=λ s=>decide (0 < c.getD s 0)) ht (decide_eq_true hf)
 have h2 : (a1k c q t :: zs).Perm (a1k c q t :: ((List.range 256).filter (λ s=>(decide (0 < c.getD s 0)) && decide (s ≠ t))).map (a1k c q)):=(h.trans hp).trans (hpa.map (a1k c q))
 have h3:=h2.cons_inv
 have h4:=hpa.map (a1k c (q.set t (q.getD t 0 - 1)))
 rw [List.map_cons] at h4
 have e1 : a1k c (q.set t (q.getD t 0 - 1)) t = ((t : Int),q.getD t 0 - 1,(1073741824 - c.getD t 0) * 256 + t):=by
  unfold a1k; rw [a3k _ _ _ _ (by omega),if_pos rfl]
 have e2 : ((List.range 256).filter (λ s=>(decide (0 < c.getD s 0)) && decide (s ≠ t))).map (a1k c (q.set t (q.getD t 0 - 1))) = ((List.range 256).filter (λ s=>(decide (0 < c.getD s 0)) && decide (s ≠ t))).map (a1k c q):=by
  refine List.map_congr_left λ s hs=>?_
  have hs2:=(List.mem_filter.1 hs).2
  have : s ≠ t:=by simp at hs2; exact hs2.2
  unfold a1k; rw [a3k _ _ _ _ (by omega),if_neg this]
 rw [e1,e2] at h4
 exact (hu.trans (h3.cons _)).trans h4.symm
open Go.IntWalk
structure GvRel (gq c B : Nat) (w : World) (qs : List Int) (p : Nat) (v : Value) (ys : List K3) (wr : World) : Prop where
 q : (Kd.int .i64).R 3 wr B (λ _=>True) (.slice (some ⟨gq,0,none⟩) 256 c) qs
 h : CKp p B wr v ys
 ne : p ≠ gq /\ v.ownBlock ≠ some gq
 heap : From lessC z3 ys 0 ys.length
 below : Below B w wr
 pB : B <= p
theorem GvRel.start {gq c B : Nat} {w : World} {qs : List Int} {l : Value} {xs : List K3} (hq : (Kd.int .i64).R 3 w B (λ _=>True) (.slice (some ⟨gq,0,none⟩) 256 c) qs)
    (hl : k3.R 215 w B (λ k=>k ≠ gq) l xs) (hB : B <= w.heap.size) :
    CKp w.heap.size B (w.alloc (.cells #[l] 213)) l xs /\ (Kd.int .i64).R 3 (w.alloc (.cells #[l] 213)) B (λ _=>True) (.slice (some ⟨gq,0,none⟩) 256 c) qs /\
     w.heap.size ≠ gq /\ l.ownBlock ≠ some gq /\ Below B w (w.alloc (.cells #[l] 213)):=by
 have h1:=Kd.R_lt hq gq rfl
 refine ⟨⟨a0f _ _,Kd.R_alloc (Kd.R_mono (Kd.R_bound hl) (λ k hk=>by have:=hk.2.2.1; omega)) _⟩,Kd.R_alloc hq _,by omega,λ e=>hl.1 gq e rfl,(Below.refl _ _).alloc hB _⟩
theorem GvRel.of_init {gq c B : Nat} {w w1 w2 : World} {qs : List Int} {p : Nat} {v : Value} {ys : List K3} (hq : (Kd.int .i64).R 3 w1 B (λ _=>True) (.slice (some ⟨gq,0,none⟩) 256 c) qs) (hp : p ≠ gq) (hv : v.ownBlock ≠ some gq) (hb : Below B w w1) (hB : B <= p) (hB1 : B <= w1.heap.size)
    (h : CKp p B w2 v ys) (hh : From lessC z3 ys 0 ys.length) (ho : Only (λ k=>v.ownBlock = some k) w1 w2) : GvRel gq c B w qs p v ys w2:=
 ⟨a2H rfl hq ho (λ k hk e=>hv (by rw [e,<- hk]; rfl)),h,⟨hp,hv⟩,hh,hb.trans (ho.below hB1 (λ k e=>Kd.R_base h.row k e)),hB⟩
theorem GvRel.popped {gq c B g n cap : Nat} {w w1 w2 : World} {qs : List Int} {p : Nat} {ys zs : List K3} (H : GvRel gq c B w qs p (.slice (some ⟨g,0,none⟩) (n + 1) cap) ys w1) (hB1 : B <= w1.heap.size)
    (h : CKp p B w2 (.slice (some ⟨g,0,none⟩) n cap) zs) (hh : From lessC z3 zs 0 n) (ho : Only (λ k=>k = p \/ k = g) w1 w2) : GvRel gq c B w qs p (.slice (some ⟨g,0,none⟩) n cap) zs w2:=by
 have hg : g ≠ gq:=λ e=>H.ne.2 (by rw [e]; rfl)
 have hn:=(Kd.R_reads' h.row).1
 exact ⟨a2H rfl H.q ho (λ k hk e=>by
  have hk' : gq = k:=by simpa [Value.ownBlock] using hk
  subst hk'
  rcases e with e | e
  · exact H.ne.1 e.symm
  · exact hg e.symm),h,⟨H.ne.1,λ e=>hg (by simpa [Value.ownBlock] using e)⟩,by rw [<- hn]; exact hh,
  H.below.trans (ho.below hB1 (λ k e=>by rcases e with e | e; exact e ▸ H.pB; exact e ▸ Kd.R_base h.row g rfl)),H.pB⟩
theorem GvRel.put {gq c B : Nat} {w w1 : World} {qs : List Int} {p : Nat} {v : Value} {ys : List K3} (H : GvRel gq c B w qs p v ys w1) (t : Nat) (y : Int) : GvRel gq c B w (qs.set t y) p v ys (w1.setCell ⟨gq,t,none⟩ (.int .i64 y)):=by
 have ho : Only (λ k=>k = gq) w1 (w1.setCell ⟨gq,t,none⟩ (.int .i64 y)):=(Only.refl _ _).set1 _ _
 have hr:=Kd.R_putn H.q (t : Int) y
 rw [Int.toNat_natCast] at hr
 refine ⟨hr,⟨a1e H.h.blk (p:=⟨gq,t,none⟩) H.ne.1 _,?_⟩,H.ne,H.heap,H.below.setCell (Kd.R_base H.q gq rfl) _,H.pB⟩
 exact Kd.R_mono (Kd.R_step (Kd.R_tight rfl H.h.row) (λ k hk hlt=>ho.block k hlt (λ e=>H.ne.2 (by rw [<- e]; exact hk.symm)))) (λ k hk=>H.h.row.1 k hk.symm)
theorem c3G {rest : List Int} {m : Nat} {st : List Int × List Bool} {t : Nat} (h : needN rest (a0R rest m st).2 256 = t) : a0R rest (m + 1) st = ((a0R rest m st).1.set t ((a0R rest m st).1.getD t 0 + 1),(a0R rest m st).2.set t true):=by
 simp only [a0R]; rw [h,Int.toNat_natCast]
structure GvNum (rest : List Int) (had : List Bool) (ys : List K3) (k : Nat) (st : List Int × List Bool) : Prop where
 ql : st.1.length = 256
 hl : st.2.length = 256
 rng : ∀ s,0 <= st.1.getD s 0 /\ st.1.getD s 0 <= 8192 + k
 free : freeN st.2 + k = freeN had
 perm : ys.Perm (candN rest st.2 256)
theorem GvNum.some {rest : List Int} {had : List Bool} {ys : List K3} {k : Nat} {st : List Int × List Bool} (h : GvNum rest had ys k st) (hk : k < freeN had) : 0 < ys.length:=by
 obtain ⟨s,hs,hf⟩:=a8N h.hl (by have:=h.free; omega)
 exact List.length_pos_of_mem (h.perm.symm.subset (b4F hs hf))
theorem GvNum.next {rest : List Int} {had : List Bool} {ys zs : List K3} {k t : Nat} {st : List Int × List Bool} (h : GvNum rest had ys k st) (ht : t < 256) (hf : st.2.getD t false = false) (hz : (a1v rest t :: zs).Perm ys) : GvNum rest had zs (k + 1) (st.1.set t (st.1.getD t 0 + 1),st.2.set t true):=by
 refine ⟨by simp [h.ql],by simp [h.hl],λ s=>?_,?_,c3C h.hl ht hf h.perm hz⟩
 · show 0 <= (st.1.set t (st.1.getD t 0 + 1)).getD s 0 /\ (st.1.set t (st.1.getD t 0 + 1)).getD s 0 <= 8192 + ((k + 1 : Nat) : Int)
   rw [a3k _ _ _ _ (by rw [h.ql]; exact ht)]
   have h1:=h.rng t; have h2:=h.rng s
   split <;> omega
 · have:=b3O (s:=t) (by rw [h.hl]; exact ht) hf
   have:=h.free
   show freeN (st.2.set t true) + (k + 1) = _
   omega
theorem c3H (a b c : Value) (w : World) : (Instr.field 215 (.agg #[a,b,c]) 0).run Tryz.prog w = .ok a w:=by kernel_rfl
def c3I (gq c B : Nat) (qs' : List Int) (w : World) (e : Ending) (w' : World) : Prop:=e = .returned (.tuple #[]) /\ (Kd.int .i64).R 3 w' B (λ _=>True) (.slice (some ⟨gq,0,none⟩) 256 c) qs' /\ Below B w w'
set_option maxRecDepth 100000 in
set_option maxHeartbeats 1000000 in
theorem c3J (gq c B : Nat) (qs : List Int) (l : Value) (rest : List Int) (had : List Bool) (m : Nat) (w : World) (hq : (Kd.int .i64).R 3 w B (λ _=>True) (.slice (some ⟨gq,0,none⟩) 256 c) qs)
    (hl : k3.R 215 w B (λ k=>k ≠ gq) l (candN rest had 256)) (hB : B <= w.heap.size) (hqs : qs.length = 256) (hhl : had.length = 256) (hr : ∀ s,0 <= qs.getD s 0 /\ qs.getD s 0 <= 8192) (hm : m <= freeN had) (hm2 : m <= 4096) :
    Calls Tryz.prog 170 #[.slice (some ⟨gq,0,none⟩) 256 c,l,.int .i64 m] w (c3I gq c B (a0R rest m (qs,had)).1 w):=by
 have HS:=Lib.hid (GvRel.start hq hl hB)
 have HM:=Lib.hid (And.intro hB (And.intro hqs (And.intro hhl (And.intro hr hm))))
 clear hq hl hB hqs hhl hr hm
 obtain ⟨A,cl,rfl⟩:=Kd.R_slice HS.out.1.row
 have ta:=a9h
 go_enter Tryz.func170,Tryz.ntmps170
 go_wp2_with fail
 refine (b4A _ HS.out.1 (by have:=a9l rest had 256; omega)).mono ?_
 rintro e w2 ⟨rfl,ys,h1,h2,h3,h4⟩
 have HI : Hid (GvRel gq c B w qs w.heap.size (.slice A (candN rest had 256).length cl) ys w2 /\ GvNum rest had ys 0 (qs,had)):=
  ⟨GvRel.of_init HS.out.2.1 HS.out.2.2.1 HS.out.2.2.2.1 HS.out.2.2.2.2 HM.out.1 (by simp; have:=HM.out.1; omega) h1 h3 h4,⟨HM.out.2.1,HM.out.2.2.1,λ s=>by have:=HM.out.2.2.2.1 s; show 0 <= qs.getD s 0 /\ qs.getD s 0 <= 8192 + ((0 : Nat) : Int); omega,rfl,h2⟩⟩
 clear h1 h2 h3 h4
 go_wp2_with fail
 go_loopw [9] (λ kv wr=>∃ (k : Nat) (v : Value) (ys : List K3),kv = .int .i64 k /\ k <= m /\ Hid (GvRel gq c B w (a0R rest k (qs,had)).1 w.heap.size v ys wr /\ GvNum rest had ys k (a0R rest k (qs,had)))) (λ kv _=>m - (intOf kv).toNat)
 case atStart=>exact ⟨0,_,ys,rfl,by omega,HI⟩
 case round=>
  obtain ⟨k,v,ys,rfl,hk,H⟩:=hrel
  by_cases hlt : k < m
  · have hpos:=H.out.2.some (by have:=HM.out.2.2.2.2; omega)
    obtain ⟨g,cap,rfl,-⟩:=Kd.R_form H.out.1.h.row hpos
    obtain ⟨t,ht1,ht2,ht3,ht4⟩:=c3B H.out.2.perm H.out.1.heap hpos
    obtain ⟨n,hn⟩ : ∃ n,ys.length = n + 1:=⟨ys.length - 1,by omega⟩
    rw [hn] at H
    have hn6 : n <= 100000:=by have:=H.out.2.perm.length_eq; have:=a9l rest (a0R rest k (qs,had)).2 256; omega
    have HT:=Lib.hid (And.intro ht1 (And.intro ht2 (And.intro ht3 (And.intro ht4 hn))))
    have HBr : Hid (B <= wr.heap.size):=Nat.le_trans HM.out.1 H.out.1.below.size
    clear ht1 ht3 ht4 hn hpos
    go_wp2_with fail
    refine (b4z ordC _ H.out.1.h hn6 (λ _ _=>trivial) (by have:=H.out.1.heap; rw [HT.out.2.2.2.2] at this; exact this)).mono ?_
    rintro e w3 ⟨rfl,zs,h1,h2,h3,h4⟩
    have H3 : Hid (GvRel gq c B w (a0R rest k (qs,had)).1 w.heap.size (.slice (some ⟨g,0,none⟩) n cap) zs w3):=GvRel.popped H.out.1 HBr.out h1 h3 h4
    rw [HT.out.2.2.2.1] at h2 ⊢
    have HZ:=Lib.hid (GvNum.next H.out.2 ht2 HT.out.2.2.1 h2)
    clear h1 h2 h3 h4
    obtain ⟨hc3,hf3⟩:=a1u H3.out.q t ht2
    obtain ⟨hy0,hy1⟩:=H.out.2.rng t
    obtain ⟨y,hy⟩ : ∃ y,y = (a0R rest k (qs,had)).1.getD t 0:=⟨_,rfl⟩
    rw [<- hy] at hc3 hy0 hy1
    have HY:=Lib.hid hy
    have ht256 : (t : Int) < 256:=by omega
    clear hy
    simp only [a1v]
    obtain ⟨z,hz⟩ : ∃ z,z = rest.getD t 0:=⟨_,rfl⟩
    rw [<- hz]
    have fd:=c3H (.int .i64 t) (.int .i64 z) (.int .i64 0)
    clear hz
    go_wp2_with fail
    go_roundw
    case rel=>
     have hg:=c3G (st:=(qs,had)) HT.out.1
     refine ⟨k + 1,.slice (some ⟨g,0,none⟩) n cap,zs,by go_num,by omega,?_⟩
     rw [hg,<- HY.out]
     exact ⟨H3.out.put t (y + 1),by rw [HY.out]; exact HZ.out⟩
    case measure=>simp [intOf]; omega
  · have hkm : k = m:=by omega
    subst hkm
    go_wp2_with fail
    go_end0
    exact ⟨rfl,H.out.1.q,H.out.1.below⟩
structure TkRel (gq cq B : Nat) (W0 : World) (qs : List Int) (p : Nat) (v : Value) (ys : List K3) (wr : World) : Prop where
 q : (Kd.int .i64).R 3 wr B (λ _=>True) (.slice (some ⟨gq,0,none⟩) 256 cq) qs
 h : CKp p B wr v ys
 ne : p ≠ gq /\ v.ownBlock ≠ some gq
 below : Below B W0 wr
 pB : B <= p
theorem TkRel.start {gq cq B : Nat} {W0 w : World} {qs : List Int} (hq : (Kd.int .i64).R 3 w B (λ _=>True) (.slice (some ⟨gq,0,none⟩) 256 cq) qs) (hb : Below B W0 w) (hB : B <= w.heap.size) :
    TkRel gq cq B W0 qs w.heap.size (.slice none 0 0) [] (w.alloc (.cells #[.slice none 0 0] 213)):=by
 have h1:=Kd.R_lt hq gq rfl
 exact ⟨Kd.R_alloc hq _,⟨a0f _ _,Kd.R_nil _ _ _ _ _⟩,⟨by omega,by simp [Value.ownBlock]⟩,hb.alloc hB _,hB⟩
theorem TkRel.app {gq cq B : Nat} {W0 W wa : World} {qs : List Int} {p : Nat} {v v1 : Value} {ys zs : List K3} (H : TkRel gq cq B W0 qs p v ys W) (hB : B <= W.heap.size) (hr : k3.R 215 wa B (λ k=>k ≠ p) v1 zs) (hg : W.grownBy wa v.ownBlock)
    (hat : v1.ownBlock = v.ownBlock \/ ∃ b,v1.ownBlock = some b /\ W.heap.size <= b) : TkRel gq cq B W0 qs p v1 zs (wa.setCell ⟨p,0,none⟩ v1):=by
 have hpv : some p ≠ v.ownBlock:=λ e=>H.h.row.1 p e.symm rfl
 have hgl:=Kd.R_lt H.q gq rfl
 have hb1:=a0O H.h.blk hg hpv
 have hne1 : v1.ownBlock ≠ some gq:=λ e=>by
  rcases hat with h | ⟨b,h,hle⟩
  · exact H.ne.2 (by rw [<- h]; exact e)
  · rw [h] at e; injection e with e; omega
 have h1:=Kd.R_grown1 H.q rfl hg H.ne.2
 have ho : Only (λ k=>k = p) wa (wa.setCell ⟨p,0,none⟩ v1):=(Only.refl _ _).set1 _ _
 refine ⟨a2H rfl h1 ho (λ k hk e=>H.ne.1 (by rw [<- e]; simpa [Value.ownBlock] using hk.symm)),⟨a0h hb1 0 _,Kd.R_far (p:=⟨p,0,none⟩) hr (λ k hk=>hk) _⟩,⟨H.ne.1,hne1⟩,?_,H.pB⟩
 exact (b1H H.below hg (λ k hk=>Kd.R_base H.h.row k hk) hB).setCell H.pB _
theorem GvRel.alloc {gq c B : Nat} {w : World} {qs : List Int} {p : Nat} {v : Value} {ys : List K3} {wr : World} (H : GvRel gq c B w qs p v ys wr) (hB : B <= wr.heap.size) (o : Obj) : GvRel gq c B w qs p v ys (wr.alloc o):=
 ⟨Kd.R_alloc H.q o,H.h.below ((Below.refl _ _).alloc (Nat.le_refl _) o),H.ne,H.heap,H.below.alloc hB o,H.pB⟩
theorem GvRel.far {gq c B : Nat} {w : World} {qs : List Int} {p : Nat} {v : Value} {ys : List K3} {wr : World} (H : GvRel gq c B w qs p v ys wr) {g : Nat} (h1 : g ≠ gq) (h2 : p ≠ g) (h3 : v.ownBlock ≠ some g) (hB : B <= g) (j : Nat) (u : Value) : GvRel gq c B w qs p v ys (wr.setCell ⟨g,j,none⟩ u):=by
 have ho : Only (λ k=>k = g) wr (wr.setCell ⟨g,j,none⟩ u):=(Only.refl _ _).set1 _ _
 refine ⟨a2H rfl H.q ho (λ k hk e=>h1 (by rw [<- e]; simpa [Value.ownBlock] using hk.symm)),⟨a1e H.h.blk (p:=⟨g,j,none⟩) h2 _,?_⟩,H.ne,H.heap,H.below.setCell hB _,H.pB⟩
 exact Kd.R_mono (Kd.R_step (Kd.R_tight rfl H.h.row) (λ k hk hlt=>ho.block k hlt (λ e=>h3 (by rw [<- e]; exact hk.symm)))) (λ k hk=>H.h.row.1 k hk.symm)
theorem GvRel.pushed {gq c B : Nat} {w w1 w2 : World} {qs : List Int} {p : Nat} {v v' : Value} {ys zs : List K3} (H : GvRel gq c B w qs p v ys w1) (hB : B <= w1.heap.size) (h : CKp p B w2 v' zs) (hh : From lessC z3 zs 0 zs.length)
    (hat : v'.ownBlock = v.ownBlock \/ ∃ b,v'.ownBlock = some b /\ w1.heap.size <= b) (ho : Only (λ k=>k = p \/ v.ownBlock = some k) w1 w2) : GvRel gq c B w qs p v' zs w2:=by
 have hgl:=Kd.R_lt H.q gq rfl
 refine ⟨a2H rfl H.q ho (λ k hk e=>?_),h,⟨H.ne.1,λ e=>?_⟩,hh,H.below.trans (ho.below hB (λ k e=>?_)),H.pB⟩
 · have hk' : gq = k:=by simpa [Value.ownBlock] using hk
   subst hk'
   rcases e with e | e
   · exact H.ne.1 e.symm
   · exact H.ne.2 e
 · rcases hat with h | ⟨b,h,hle⟩
   · exact H.ne.2 (by rw [<- h]; exact e)
   · rw [h] at e; injection e with e; omega
 · rcases e with e | e
   · exact e ▸ H.pB
   · exact Kd.R_base H.h.row k e
theorem c3K (c : List Int) (m : Nat) (q : List Int) : a0M c (m + 1) q = (a0M c m q).set (richN (a0M c m q) c 256) ((a0M c m q).getD (richN (a0M c m q) c 256) 0 - 1):=rfl
def a9n (c q : List Int) (m : Nat) : Prop:=∀ k,k <= m -> (a0M c k q).length = 256 /\ (∀ s,0 <= (a0M c k q).getD s 0 /\ (a0M c k q).getD s 0 <= 100000) /\ ∀ s,0 < (a0M c k q).getD s 0 ↔ 0 < c.getD s 0
def b4J (gq cq B : Nat) (qs' : List Int) (W0 : World) (e : Ending) (w' : World) : Prop:=e = .returned (.tuple #[]) /\ (Kd.int .i64).R 3 w' B (λ _=>True) (.slice (some ⟨gq,0,none⟩) 256 cq) qs' /\ Below B W0 w'
set_option maxRecDepth 100000 in
set_option maxHeartbeats 2000000 in
theorem c3L (gq cq cc : Nat) (A : Option Addr) (W0 : World) (qs c : List Int) (m : Nat) (w : World) (hq : (Kd.int .i64).R 3 w W0.heap.size (λ _=>True) (.slice (some ⟨gq,0,none⟩) 256 cq) qs)
    (hc : (Kd.int .i64).C W0 A 256 c) (hb : Below W0.heap.size W0 w) (hcl : c.length = 256) (hcr : ∀ s,0 <= c.getD s 0 /\ c.getD s 0 <= 1073741824) (hok : a9n c qs m) (hm2 : m <= 2000000) (hpos : 0 < m -> ∃ s,s < 256 /\ 0 < c.getD s 0) :
    Calls Tryz.prog 171 #[.slice (some ⟨gq,0,none⟩) 256 cq,.slice A 256 cc,.int .i64 m] w (b4J gq cq W0.heap.size (a0M c m qs) W0):=by
 have HQ:=Lib.hid hq
 have HC:=Lib.hid (And.intro hc (And.intro hcl hcr))
 have HO:=Lib.hid hok
 have HP:=Lib.hid hpos
 have HB:=Lib.hid hb
 have HI : Hid (TkRel gq cq W0.heap.size W0 qs w.heap.size (.slice none 0 0) [] (w.alloc (.cells #[.slice none 0 0] 213))):=TkRel.start hq hb hb.size
 clear hq hc hb hcl hcr hok hpos
 go_enter Tryz.func171,Tryz.ntmps171
 go_wp2_with fail
 go_loopw [12] (λ kv wr=>∃ (k : Nat) (v : Value),kv = .int .i64 k /\ k <= 256 /\ Hid (TkRel gq cq W0.heap.size W0 qs w.heap.size v (candT c qs k) wr)) (λ kv _=>256 - (intOf kv).toNat)
 case atStart=>exact ⟨0,_,rfl,by omega,HI⟩
 case round=>
  obtain ⟨k,v,rfl,hk,H⟩:=hrel
  by_cases hlt : k < 256
  · obtain ⟨hqc,-⟩:=a1u H.out.q k hlt
    obtain ⟨y,hy⟩ : ∃ y,y = qs.getD k 0:=⟨_,rfl⟩
    rw [<- hy] at hqc
    have hy2:=(HO.out 0 (Nat.zero_le _)).2.1 k
    have hyc:=(HO.out 0 (Nat.zero_le _)).2.2 k
    simp only [a0M] at hy2 hyc
    rw [<- hy] at hy2 hyc
    obtain ⟨hy0,hy1⟩:=hy2
    have HY:=Lib.hid (And.intro hy hyc)
    clear hy hyc
    by_cases hpos : 0 < y
    · obtain ⟨ad,rfl,hcc⟩:=a0u HC.out.1 k hlt
      obtain ⟨z,hz⟩ : ∃ z,z = c.getD k 0:=⟨_,rfl⟩
      obtain ⟨hz0,hz1⟩:=HC.out.2.2 k
      rw [<- hz] at hcc hz0 hz1
      have hcw:=a0o H.out.below hcc
      have hcw2 : (wr.alloc (.cells #[.int .i64 k,.int .i64 y,.int .i64 (IntKind.i64.wrap (IntKind.i64.wrap (IntKind.i64.wrap (1073741824 - z) * 256) + (k : Int)))] 215)).cell? (ad.add k) = some (.int .i64 z):=a0o ((Below.refl _ _).alloc (Nat.le_refl _) _) hcw
      have HZ:=Lib.hid hz
      have HE : Hid (IntKind.i64.wrap (IntKind.i64.wrap (IntKind.i64.wrap (1073741824 - z) * 256) + (k : Int)) = (1073741824 - z) * 256 + k):=by
       show _ = _
       rw [i64_in (1073741824 - z) (by omega),i64_in ((1073741824 - z) * 256) (by omega),i64_in ((1073741824 - z) * 256 + (k : Int)) (by omega)]
      clear hz hcc
      have hpc:=H.out.h.cell
      have hpf:=a0c H.out.h.blk 0
      have hpl:=a0b H.out.h.blk
      have hpn : ¬ w.heap.size = wr.heap.size:=by omega
      have hpn' : ¬ wr.heap.size = w.heap.size:=by omega
      have hfr : Hid (∀ k,wr.heap.size <= k -> k ≠ w.heap.size):=λ k hk e=>by omega
      have HL : Hid (((candT c qs k).length + 1) * 24 <= 140737488355328):=by show _ <= _; have:=a9m c qs k; omega
      have HN : Hid (some w.heap.size ≠ v.ownBlock):=λ e=>H.out.h.row.1 _ e.symm rfl
      have HBr : Hid (W0.heap.size <= wr.heap.size):=H.out.below.size
      go_wp2_with fail
      go_region_law (first | (refine a4I k3 (w0:=W0) (W:=wr) W0.heap.size rfl (.tmp 19) (.tmp 31) 213 215 _ 24 rfl Tryz.underlying213 a9g rfl (by decide) (by decide) v (candT c qs k) ((k : Int),y,IntKind.i64.wrap (IntKind.i64.wrap (IntKind.i64.wrap (1073741824 - z) * 256) + (k : Int))) [.int .i64 k,.int .i64 y,.int .i64 (IntKind.i64.wrap (IntKind.i64.wrap (IntKind.i64.wrap (1073741824 - z) * 256) + (k : Int)))] (λ k=>k ≠ w.heap.size) (λ _=>False) rfl rfl (a4L _ _ _ _) (λ _ h=>h.elim) hfr.out H.out.h.row H.out.below HBr.out HL.out ?_; intro v1 w1 hr1 hb1 hg1 hat1; have hb2:=a0O H.out.h.blk hg1 HN.out; have hc2 : w1.cell? ⟨w.heap.size,0,none⟩ = some v:=(a0a hb2 0).trans rfl; have hf2:=a0c hb2 0; have HT:=Lib.hid (TkRel.app H.out HBr.out hr1 hg1 hat1); obtain ⟨A1,c1,rfl⟩:=Kd.R_slice hr1; simp only [List.length_append,List.length_singleton] at HT; clear hr1 hb1 hg1 hat1) | fail)
      all_goals
       go_wp2_with fail
       go_roundw
       case rel=>
        refine ⟨k + 1,.slice A1 ((candT c qs k).length + 1) c1,by go_num,by omega,?_⟩
        rw [b4B,if_pos (HY.out.2.1 hpos)]
        unfold a1k
        rw [<- HY.out.1,<- HZ.out,<- HE.out]
        exact HT.out
       case measure=>simp [intOf]; omega
    · go_wp2_with fail
      go_roundw
      case rel=>
       refine ⟨k + 1,v,by go_num,by omega,?_⟩
       rw [b4B,if_neg (λ h=>hpos (HY.out.2.2 h))]
       exact H.out
      case measure=>simp [intOf]; omega
  · obtain rfl : k = 256:=by omega
    obtain ⟨A1,c1,rfl⟩:=Kd.R_slice H.out.h.row
    have ta:=a9h
    go_wp2_with fail
    refine (b4A _ H.out.h (by have:=a9m c qs 256; omega)).mono ?_
    rintro e w2 ⟨rfl,ys,h1,h2,h3,h4⟩
    have HI2 : Hid (GvRel gq cq W0.heap.size W0 qs w.heap.size (.slice A1 (candT c qs 256).length c1) ys w2 /\ ys.Perm (candT c qs 256)):=
     ⟨GvRel.of_init H.out.q H.out.ne.1 H.out.ne.2 H.out.below H.out.pB H.out.below.size h1 h3 h4,h2⟩
    clear h1 h2 h3 h4 H
    go_wp2_with fail
    go_loopw [37] (λ kv wr=>∃ (k : Nat) (v : Value) (ys : List K3),kv = .int .i64 k /\ k <= m /\ Hid (GvRel gq cq W0.heap.size W0 (a0M c k qs) w.heap.size v ys wr /\ ys.Perm (candT c (a0M c k qs) 256))) (λ kv _=>m - (intOf kv).toNat)
    case atStart=>exact ⟨0,_,ys,rfl,by omega,HI2⟩
    case round=>
     obtain ⟨k,v,ys,rfl,hk,H⟩:=hrel
     by_cases hlt : k < m
     · obtain ⟨hql,hqr,hqi⟩:=HO.out k hk
       have hpos : 0 < ys.length:=by
        obtain ⟨s,hs,hsp⟩:=HP.out (by omega)
        exact List.length_pos_of_mem (H.out.2.symm.subset (b4I hs hsp))
       obtain ⟨g,cap,rfl,-⟩:=Kd.R_form H.out.1.h.row hpos
       obtain ⟨t,ht⟩ : ∃ t,t = richN (a0M c k qs) c 256:=⟨_,rfl⟩
       obtain ⟨ht1,ht2,ht3⟩:=c3E hqi H.out.2 H.out.1.heap hpos
       rw [<- ht] at ht1 ht2 ht3
       obtain ⟨n,hn⟩ : ∃ n,ys.length = n + 1:=⟨ys.length - 1,by omega⟩
       rw [hn] at H
       have hn6 : n <= 100000:=by have:=H.out.2.length_eq; have:=a9m c (a0M c k qs) 256; omega
       have HT:=Lib.hid (And.intro ht (And.intro ht1 (And.intro ht2 (And.intro ht3 hn))))
       have HBr : Hid (W0.heap.size <= wr.heap.size):=H.out.1.below.size
       obtain ⟨hy0,hy1⟩:=hqr t
       have HQL:=Lib.hid (And.intro hql hqi)
       have hct:=(HC.out.2.2 t)
       clear ht ht2 ht3 hn hpos hqr hql hqi
       go_wp2_with fail
       refine (b4z ordC _ H.out.1.h hn6 (λ _ _=>trivial) (by have:=H.out.1.heap; rw [HT.out.2.2.2.2] at this; exact this)).mono ?_
       rintro e w3 ⟨rfl,zs,h1,h2,h3,h4⟩
       have H3 : Hid (GvRel gq cq W0.heap.size W0 (a0M c k qs) w.heap.size (.slice (some ⟨g,0,none⟩) n cap) zs w3):=GvRel.popped H.out.1 HBr.out h1 h3 h4
       rw [HT.out.2.2.2.1] at h2 ⊢
       have HZ:=Lib.hid h2
       clear h1 h2 h3 h4
       obtain ⟨hc3,hf3⟩:=a1u H3.out.q t ht1
       obtain ⟨y,hy⟩ : ∃ y,y = (a0M c k qs).getD t 0:=⟨_,rfl⟩
       have HY:=Lib.hid hy
       simp only [a1k]
       rw [<- hy] at hc3 hy0 hy1 ⊢
       obtain ⟨z,hz⟩ : ∃ z,z = (1073741824 - c.getD t 0) * 256 + (t : Int):=⟨_,rfl⟩
       rw [<- hz]
       have HZ2:=Lib.hid hz
       clear hy hz
       have hgl : gq < w3.heap.size:=Kd.R_lt H3.out.q gq rfl
       have hg1 : ¬ gq = w3.heap.size:=by omega
       have hg2 : ¬ w3.heap.size = gq:=by omega
       have ht256 : (t : Int) < 256:=by omega
       go_wp2_with fail
       have H4 : Hid (GvRel gq cq W0.heap.size W0 ((a0M c k qs).set t (y - 1)) w.heap.size (.slice (some ⟨g,0,none⟩) n cap) zs ((w3.setCell ⟨gq,t,none⟩ (.int .i64 (y - 1))).alloc (.cells #[.int .i64 t,.int .i64 (y - 1),.int .i64 z] 215))):=
        (H3.out.put t (y - 1)).alloc (H3.out.put t (y - 1)).below.size _
       have hzl : zs.length = n:=by have:=HZ.out.length_eq; rw [HT.out.2.2.2.2] at this; simpa using this
       refine (c3y ordC ((t : Int),y - 1,z) _ H4.out.h H4.out.below.size (by omega) (λ _ _=>trivial) trivial H4.out.heap).mono ?_
       rintro e w5 ⟨rfl,v',us,h1,h2,h3,h4,h5⟩
       have H5 : Hid (GvRel gq cq W0.heap.size W0 (a0M c (k + 1) qs) w.heap.size v' us w5 /\ us.Perm (candT c (a0M c (k + 1) qs) 256)):=by
        have e:=c3K c k qs
        rw [<- HT.out.1,<- HY.out] at e
        refine ⟨by rw [e]; exact H4.out.pushed H4.out.below.size h1 h3 h4 h5,?_⟩
        rw [e,HY.out]
        refine c3F HQL.out.1 ht1 HT.out.2.2.1 H.out.2 HZ.out ?_
        rw [<- HY.out,<- HZ2.out]
        exact h2
       clear h1 h2 h3 h4 h5
       go_wp2_with fail
       go_roundw
       case rel=>exact ⟨k + 1,v',us,by go_num,by omega,H5⟩
       case measure=>simp [intOf]; omega
     · have hkm : k = m:=by omega
       subst hkm
       go_wp2_with fail
       go_end0
       exact ⟨rfl,H.out.1.q,H.out.1.below⟩
theorem c3M (gq cq cc : Nat) (A : Option Addr) (W0 : World) (B : Nat) (hB : B = W0.heap.size) (qs c : List Int) (m : Nat) (w : World) (hq : (Kd.int .i64).R 3 w B (λ _=>True) (.slice (some ⟨gq,0,none⟩) 256 cq) qs)
    (hc : (Kd.int .i64).C W0 A 256 c) (hb : Below B W0 w) (hcl : c.length = 256) (hcr : ∀ s,0 <= c.getD s 0 /\ c.getD s 0 <= 1073741824) (hok : a9n c qs m) (hm2 : m <= 2000000) (hpos : 0 < m -> ∃ s,s < 256 /\ 0 < c.getD s 0) :
    Calls Tryz.prog 171 #[.slice (some ⟨gq,0,none⟩) 256 cq,.slice A 256 cc,.int .i64 m] w (b4J gq cq B (a0M c m qs) W0):=by
 subst hB; exact c3L gq cq cc A W0 qs c m w hq hc hb hcl hcr hok hm2 hpos
end Go.Proofs.YtamimiomglipmaaGreat
namespace Go.Proofs.YtamimiomglipmaaGreat
open Go.RowKit Go.IntWalk Go.Proofs.YtamimiomglipmaaGreatW.PrintWords Go.Proofs.YtamimiomglipmaaGreatW.PrintLast Go.Proofs.YtamimiomglipmaaGreatW.PrintMore
set_option maxRecDepth 100000 in
set_option maxHeartbeats 400000 in
theorem a5l (A : Option Addr) (cp : Nat) (c : List Int) (w : World) (hr : (Kd.int .i64).C w A c.length c) (hR : a0Z c = true) :
    Calls Tryz.prog 107 #[.slice A c.length cp] w λ e w'=>e = .returned (.int .i64 (manyC c)) /\ w = w':=by
 have hm:=hr.2.1
 have HR:=Lib.hid (And.intro hr hR)
 clear hr hR
 go_enter Tryz.func107,Tryz.ntmps107
 go_wp2_with fail
 go_loop [3,8] (λ mv kv=>∃ (k pc : Nat),mv = .int .i64 pc /\ kv = .int .i64 k /\ k <= c.length /\ pc <= k /\ Hid (pc = posC c k)) (λ _ kv=>c.length - (intOf kv).toNat)
 case atStart=>exact ⟨0,0,rfl,rfl,by omega,by omega,by show _ = _; simp [posC]⟩
 case round=>
  obtain ⟨k,pc,rfl,rfl,hk,hpc,H⟩:=hrel
  by_cases hlt : k < c.length
  · obtain ⟨ad,rfl,hcell⟩:=a0u HR.out.1 k hlt
    obtain ⟨x,hx⟩ : ∃ x,x = c.getD k 0:=⟨_,rfl⟩
    rw [<- hx] at hcell
    have HX:=Lib.hid hx
    clear hx
    by_cases h0 : 0 < x
    · have HP : Hid (pc + 1 = posC c (k + 1)):=by show _ = _; rw [b3G _ _ hlt,<- HX.out,if_pos h0,<- H.out]
      go_wp2_with fail
      refine (a7T _ _ _ _ HR.out.1).mono ?_
      rintro e w' ⟨rfl,rfl⟩
      rw [HR.out.2]
      go_wp2_with fail
      go_round
      case rel=>exact ⟨k + 1,pc + 1,by go_num,by go_num,by omega,by omega,HP⟩
      case measure=>simp [intOf]; omega
    · have HP : Hid (pc = posC c (k + 1)):=by show _ = _; rw [b3G _ _ hlt,<- HX.out,if_neg h0,<- H.out]; rfl
      go_wp2_with fail
      go_round
      case rel=>exact ⟨k + 1,pc,rfl,by go_num,by omega,by omega,HP⟩
      case measure=>simp [intOf]; omega
  · obtain rfl : k = c.length:=by omega
    have HE : Hid (pc = manyC c):=by
     show _ = _; rw [H.out]; unfold posC manyC; rw [if_pos HR.out.2,List.take_length]
    go_wp2_with fail
    go_ret
    exact ⟨a1r (by rw [HE.out]),rfl⟩
set_option maxRecDepth 100000 in
theorem c3N (n : Nat) (w : World) (h : n <= 1000000) : Calls Tryz.prog 142 #[.int .i64 n] w λ e w'=>e = .returned (.int .i64 (ceilI n)) /\ w = w':=by
 by_cases h2 : n < 2
 · have HE : Hid (ceilI n = 0):=by
     show _ = _
     have : n = 0 \/ n = 1:=by omega
     rcases this with rfl | rfl <;> rfl
   go_enter Tryz.func142,Tryz.ntmps142
   go_wp2_with fail
   go_ret
   exact ⟨a1r (by rw [HE.out]; rfl),rfl⟩
 · go_enter Tryz.func142,Tryz.ntmps142
   go_wp2_with fail
   refine (a4R _ _ (by omega)).mono ?_
   rintro e w' ⟨rfl,rfl⟩
   go_wp2_with fail
   go_ret
   exact ⟨rfl,rfl⟩
theorem b4K (a b : Int) : mx a b = max a b:=by unfold mx; split <;> omega
theorem c3O (a b : Int) : mn a b = min a b:=by unfold mn; split <;> omega
set_option maxRecDepth 100000 in
theorem c3P (first x y : Int) (A : Option Addr) (cp : Nat) (w : World) (hr : (Kd.int .i64).C w A 2 [x,y]) :
    Calls Tryz.prog 140 #[.int .i64 first,.slice A 2 cp] w λ e w'=>e = .returned (.int .i64 (mx (mx first x) y)) /\ w = w':=by
 obtain ⟨ad,rfl,hc⟩:=a4M hr (by decide)
 have h0:=hc 0 (by decide)
 have h1:=hc 1 (by decide)
 simp only [List.getD_cons_zero,List.getD_cons_succ] at h0 h1
 rw [show ad.add 0 = ad from rfl] at h0
 clear hc hr
 have h2 : w.cell? ⟨ad.block,ad.off + 1,none⟩ = some (.int .i64 y):=by rw [<- h1]; simp [Addr.add]
 clear h1
 go_enter Tryz.func140,Tryz.ntmps140
 go_wp2_with fail
 go_loop [0,9] (λ mv kv=>(mv = .int .i64 first /\ kv = .int .i64 0) \/ (mv = .int .i64 (max first x) /\ kv = .int .i64 1) \/ (mv = .int .i64 (max (max first x) y) /\ kv = .int .i64 2)) (λ _ kv=>2 - (intOf kv).toNat)
 case atStart=>exact .inl ⟨rfl,rfl⟩
 case round=>
  rcases hrel with ⟨rfl,rfl⟩ | ⟨rfl,rfl⟩ | ⟨rfl,rfl⟩
  · go_wp2_with fail
    go_round
    case rel=>exact .inr (.inl ⟨rfl,rfl⟩)
    case measure=>simp [intOf]
  · go_wp2_with fail
    go_round
    case rel=>exact .inr (.inr ⟨by rw [Int.max_assoc],rfl⟩)
    case measure=>simp [intOf]
  · go_wp2_with fail
    go_ret
    exact ⟨a1r (by rw [b4K,b4K,Int.max_assoc]),rfl⟩
theorem c3Q {W : World} (x y : Int) {ok : Nat -> Prop} (hok : ok W.heap.size) (base : Nat) (hb : base <= W.heap.size) : (Kd.int .i64).R 3 (W.alloc (.cells #[.int .i64 x,.int .i64 y] 3)) base ok (.slice (some ⟨W.heap.size,0,none⟩) 2 2) [x,y]:=by
 refine ⟨λ k hk=>by cases hk; exact hok,[.int .i64 x,.int .i64 y],⟨rfl,.inr ⟨W.heap.size,2,#[.int .i64 x,.int .i64 y],by simp,hb,a0f W _,by simp,by unfold maxLen; omega,rfl,rfl⟩⟩,?_⟩
 refine Reps.snoc (ps:=[x]) (cs:=[.int .i64 x]) (p:=y) (c:=[.int .i64 y]) (Reps.snoc (ps:=[]) (cs:=[]) (p:=x) (c:=[.int .i64 x]) (Reps.none _ _) ?_ rfl) ?_ rfl
 · rfl
 · rfl
set_option maxRecDepth 100000 in
theorem b4L (n m : Nat) (most : Int) (w : World) (hn : n <= 1000000) (hm : m <= 1000000) :
    Calls Tryz.prog 106 #[.int .i64 n,.int .i64 m,.int .i64 most] w λ e w'=>e = .returned (.int .i64 (pickI n m most)) /\ Below w.heap.size w w':=by
 have hf:=c2p n (by omega)
 obtain ⟨f,hf1⟩ : ∃ f,f = a0k (n : Int):=⟨_,rfl⟩
 rw [<- hf1] at hf
 have H:=Lib.hid hf1
 clear hf1
 have HC : Hid (∀ W : World,(Kd.int .i64).C (W.alloc (.cells #[.int .i64 5,.int .i64 (ceilI m)] 3)) (some ⟨W.heap.size,0,none⟩) 2 [5,(ceilI m : Int)]):=λ W=>by
  have:=c3Q (W:=W) 5 (ceilI m : Int) (ok:=λ _=>True) trivial W.heap.size (Nat.le_refl _)
  exact (Kd.R_reads' this).2.2
 go_enter Tryz.func106,Tryz.ntmps106
 go_wp2_with fail
 refine (a6l _ _ (by omega)).mono ?_
 rintro e w' ⟨rfl,rfl⟩
 rw [<- H.out]
 go_wp2_with fail
 refine (c3N _ _ hm).mono ?_
 rintro e w' ⟨rfl,rfl⟩
 go_wp2_with fail
 refine (c3P _ _ _ _ _ _ (HC.out _)).mono ?_
 rintro e w' ⟨rfl,rfl⟩
 go_wp2_with fail
 go_ret
 refine ⟨a1r ?_,(Below.refl _ _).alloc (Nat.le_refl _) _⟩
 unfold pickI
 rw [<- H.out,c3O]
end Go.Proofs.YtamimiomglipmaaGreat
namespace Go.Proofs.YtamimiomglipmaaGreat
open Go.RowKit Go.IntWalk Go.Proofs.YtamimiomglipmaaGreatW.PrintWords HeapL
structure CnRel (N : Nat) (w0 : World) (c : List Int) (P n : Int) (k : Nat) (v : Value) (S : Int) (w : World) : Prop where
 q : (Kd.int .i64).R 3 w N (λ _=>True) (.slice (some ⟨N,0,none⟩) 256 256) (qTo c P n k)
 l : k3.R 215 w N (λ b=>b ≠ N) v (candN (restL c P n) (hadL c P n) k)
 below : Below N w0 w
 sum : S = (qTo c P n k).sum
 rng : 0 <= S /\ S <= 4096 * k
theorem c3R (c : List Int) (P n : Int) {k : Nat} (hk : k < 256) : (hadL c P n).getD k false = decide (c.getD k 0 * P / n = 0):=by
 unfold hadL; rw [List.getD_eq_getElem?_getD,List.getElem?_map,List.getElem?_range hk]; rfl
theorem b4M (c : List Int) (P n : Int) {k : Nat} (hk : k < 256) : qTo c P n (k + 1) = (qTo c P n k).set k (q0F c P n k):=(a6P (q0F c P n) hk).symm
theorem c3S (c : List Int) (P n : Int) {k : Nat} (hk : k < 256) : (qTo c P n k).getD k 0 = 0:=by unfold qTo; rw [a4m _ hk,if_neg (by omega)]
theorem c3T (c : List Int) (P n : Int) {k : Nat} (hk : k < 256) : (qTo c P n (k + 1)).sum = (qTo c P n k).sum + q0F c P n k:=by
 rw [b4M c P n hk,a6N _ _ _ (by unfold qTo; rw [a1Z]; exact hk)]
 have : (qTo c P n k).getD k 0 = 0:=by unfold qTo; rw [a4m _ hk,if_neg (by omega)]
 omega
theorem CnRel.next {N : Nat} {w0 wr wr' : World} {c : List Int} {P n : Int} {k : Nat} {v v' : Value} {S y : Int} (H : CnRel N w0 c P n k v S wr) (hk : k < 256) (hq : (Kd.int .i64).R 3 wr' N (λ _=>True) (.slice (some ⟨N,0,none⟩) 256 256) ((qTo c P n k).set k y))
    (hl : k3.R 215 wr' N (λ b=>b ≠ N) v' (candN (restL c P n) (hadL c P n) (k + 1))) (hb : Below N w0 wr') (hy : y = q0F c P n k) (hy2 : 0 <= y /\ y <= 4096) : CnRel N w0 c P n (k + 1) v' (S + y) wr':=by
 have hs:=H.sum; have hr:=H.rng
 refine ⟨by rw [b4M c P n hk,<- hy]; exact hq,hl,hb,by rw [c3T c P n hk,<- hy,hs],by omega,by omega⟩
theorem CnRel.far {N : Nat} {w0 wr : World} {c : List Int} {P n : Int} {k : Nat} {v : Value} {S : Int} (H : CnRel N w0 c P n k v S wr) (j : Nat) (y : Int) :
    (Kd.int .i64).R 3 (wr.setCell ⟨N,j,none⟩ (.int .i64 y)) N (λ _=>True) (.slice (some ⟨N,0,none⟩) 256 256) ((qTo c P n k).set j y) /\ k3.R 215 (wr.setCell ⟨N,j,none⟩ (.int .i64 y)) N (λ b=>b ≠ N) v (candN (restL c P n) (hadL c P n) k) /\ Below N w0 (wr.setCell ⟨N,j,none⟩ (.int .i64 y)):=by
 have:=Kd.R_putn H.q (j : Int) y
 rw [Int.toNat_natCast] at this
 exact ⟨this,Kd.R_far (p:=⟨N,j,none⟩) H.l (λ k hk=>hk) _,H.below.setCell (Nat.le_refl _) _⟩
theorem b4N : ∀ {l : List Int},(∀ x ∈ l,x = 0) -> l.sum = 0
 | [],_=>rfl
 | a :: l,h=>by rw [List.sum_cons,h a (by simp),b4N (λ x hx=>h x (by simp [hx]))]; rfl
theorem c3U {c : List Int} {r : Nat} (h : Can c r) : ∃ s,s < 256 /\ 0 < c.getD s 0:=by
 refine Classical.byContradiction λ hn=>?_
 have : c.sum = 0:=b4N (λ x hx=>by
  obtain ⟨s,hs,rfl⟩:=List.getElem_of_mem hx
  have h1:=h.nonneg _ hx
  have h2 : ¬ 0 < c.getD s 0:=λ hp=>hn ⟨s,by have:=h.len; omega,hp⟩
  rw [List.getD_eq_getElem?_getD,List.getElem?_eq_getElem hs] at h2
  simp only [Option.getD_some] at h2
  omega)
 have:=h.pos
 omega
set_option maxRecDepth 100000 in
set_option maxHeartbeats 2000000 in
theorem b4O (A : Option Addr) (cp : Nat) (c : List Int) (r : Nat) (w : World) (hr : (Kd.int .i64).C w A 256 c) (h : Can c r) :
    Calls Tryz.prog 139 #[.slice A 256 cp,.int .i64 r] w (c2x c r w):=by
 have HR:=Lib.hid hr
 have HC:=Lib.hid h
 have hR : a0Z c = true:=rightC_iff.2 ⟨h.len,h.nonneg,h.le⟩
 have hT : a1g c = c.sum:=by unfold a1g; rw [if_pos hR]
 have hM : manyC c <= 2 ^ r:=by unfold manyC; rw [if_pos hR]; exact h.many
 obtain ⟨n,hn⟩ : ∃ n : Nat,c.sum = n:=⟨c.sum.toNat,by have:=h.pos; omega⟩
 have hr' : (Kd.int .i64).C w A c.length c:=by rw [h.len]; exact hr
 have HTot:=Lib.hid (b1X A cp c w hr')
 rw [hT,hn,h.len] at HTot
 obtain ⟨P,hP⟩ : ∃ P : Nat,2 ^ r = P:=⟨_,rfl⟩
 have hPI : (2 : Int) ^ r = (P : Int):=by rw [<- hP]; simp
 have hPb : 1 <= P /\ P <= 4096:=by have:=a1H h.r12; rw [hPI] at this; omega
 have HM2 : Hid (∀ W,Below w.heap.size w W -> Calls Tryz.prog 107 #[.slice A 256 cp] W λ e w'=>e = .returned (.int .i64 (manyC c)) /\ W = w'):=λ W hb=>by
  have:=a5l A cp c W (Kd.C_below hr' hb) hR
  rw [h.len] at this; exact this
 have HN : Hid (c.sum = n /\ 2 ^ r = P /\ (2 : Int) ^ r = (P : Int) /\ manyC c <= P):=⟨hn,hP,hPI,by omega⟩
 have hn0 : ((n : Int) == 0) = false:=by have:=h.pos; simp; omega
 have hn1 : 1 <= n /\ n <= 1073741824:=by have:=h.pos; have:=h.le; omega
 have hr1 : decide ((r : Int) < 1) = false:=decide_eq_false (by have:=h.r1; omega)
 have hr2 : decide (12 < (r : Int)) = false:=decide_eq_false (by have:=h.r12; omega)
 have hr0 : (0 : Int) <= r:=by omega
 have hr12 : (r : Int) <= 12:=by have:=h.r12; omega
 have hw1 : IntKind.i64.wrap (2 ^ r) = (P : Int):=by rw [hPI]; exact i64_in _ (by omega)
 have hmp : decide (P < manyC c) = false:=decide_eq_false (by have:=HN.out.2.2.2; omega)
 clear hr hr' h hR hT hM hn hP hPI
 have hmi : ∀ w : World,(Instr.makeSlice 128 (.int .i64 256) (.int .i64 256)).run Tryz.prog w = .ok (.slice (some ⟨w.heap.size,0,none⟩) 256 256) (w.alloc (.cells (madeCells #[.int .i64 0] 256) 3)):=λ w=>b3R 256 (by omega) w
 go_enter Tryz.func139,Tryz.ntmps139
 go_wp2_with fail
 refine HTot.out.mono ?_
 rintro e w1 ⟨rfl,rfl⟩
 go_wp2_with fail
 go_quiet ((go_at_call 107; refine Calls.quiet_of_same ((HM2.out _ (a0i (Below.refl _ _) _)).mono λ e w' h=>⟨h.1,h.2.symm⟩)))
 have HB0 : Hid (Below w.heap.size w (w.drewN nq)):=a0i (Below.refl _ _) _
 obtain ⟨w1,hw1'⟩ : ∃ w1,w1 = w.drewN nq:=⟨_,rfl⟩
 rw [<- hw1'] at HB0 ⊢
 clear hw1'
 obtain ⟨N,hNs⟩ : ∃ N,N = w1.heap.size:=⟨_,rfl⟩
 have HNs:=Lib.hid hNs
 have HI : Hid (CnRel N w1 c P n 0 (.slice none 0 0) 0 (w1.alloc (.cells (madeCells #[.int .i64 0] 256) 3))):=by
  refine ⟨?_,?_,?_,?_,by omega⟩
  · rw [(b3S c P n).1,hNs]; exact a9a 256 3 w1 _ trivial _ (Nat.le_refl _) (by omega)
  · exact Kd.R_nil _ _ _ _ _
  · rw [hNs]; exact (Below.refl _ _).alloc (Nat.le_refl _) _
  · rw [(b3S c P n).1]; decide
 go_wp2_with fail
 rw [<- hNs]
 obtain ⟨W,hW⟩ : ∃ W,W = w1.alloc (.cells (madeCells #[.int .i64 0] 256) 3):=⟨_,rfl⟩
 rw [<- hW] at HI ⊢
 clear hW hNs hmi hmp
 go_loopw [8,9,34] (λ lv sv kv wr=>∃ (k : Nat) (S : Int),sv = .int .i64 S /\ kv = .int .i64 k /\ k <= 256 /\ 0 <= S /\ S <= 4096 * k /\ Hid (CnRel N w1 c P n k lv S wr)) (λ _ _ kv _=>256 - (intOf kv).toNat)
 case atStart=>exact ⟨0,0,rfl,rfl,by omega,by omega,by omega,HI⟩
 case round=>
  obtain ⟨k,S,rfl,rfl,hk,hS0,hS1,H⟩:=hrel
  by_cases hlt : k < 256
  · have hC:=Kd.C_below HR.out (HB0.out.trans (H.out.below.mono (by have:=HB0.out.size; have:=HNs.out; omega)))
    obtain ⟨ad,rfl,hcx⟩:=a0u hC k (by omega)
    have hcg:=HC.out.get k
    have hq0:=HC.out.q0 k
    rw [HN.out.2.2.1,HN.out.1] at hq0
    obtain ⟨x,hx⟩ : ∃ x : Nat,c.getD k 0 = x:=⟨(c.getD k 0).toNat,by omega⟩
    rw [hx] at hcx hcg
    obtain ⟨hq1,hq2⟩:=a1u H.out.q k hlt
    rw [c3S c P n hlt] at hq1
    obtain ⟨m,hm⟩ : ∃ m : Nat,m = x * P:=⟨_,rfl⟩
    have hxn : x <= n:=by have:=HN.out.1; omega
    have hm42 : m <= 4398046511104:=by
     rw [hm]
     calc x * P <= 1073741824 * 4096:=Nat.mul_le_mul (by omega) (by omega)
      _ = 4398046511104:=by decide
    have hmI : (x : Int) * (P : Int) = (m : Int):=by rw [hm]; simp
    have hmR : (x : Int) * 2 ^ r = (m : Int):=by rw [HN.out.2.2.1]; exact hmI
    have hdq : (m : Int) / (n : Int) = ((m / n : Nat) : Int):=by simp
    have hrm : (m : Int) % (n : Int) = ((m % n : Nat) : Int):=by simp
    obtain ⟨dq,hdqe⟩ : ∃ dq,dq = m / n:=⟨_,rfl⟩
    obtain ⟨rm,hrme⟩ : ∃ rm,rm = m % n:=⟨_,rfl⟩
    rw [<- hdqe] at hdq
    rw [<- hrme] at hrm
    have hdb : dq <= 4398046511104:=by rw [hdqe]; exact Nat.le_trans (Nat.div_le_self _ _) hm42
    have hn00 : ¬ (n : Int) = 0:=by omega
    have HX:=Lib.hid (And.intro hx (And.intro hm (And.intro hdqe (And.intro hrme hq0))))
    have hwm : IntKind.i64.wrap ((x : Int) * 2 ^ r) = (m : Int):=by rw [hmR]; exact i64_in _ (by omega)
    clear hx hm hdqe hrme hC hmR hq0
    obtain ⟨A1,c1,rfl⟩:=Kd.R_slice H.out.l
    have HL0:=Lib.hid (H.out.far k (dq : Int))
    have HQF : Hid (q0F c P n k = if dq = 0 then min (x : Int) 1 else dq):=by
     show _ = _
     unfold q0F
     rw [HX.out.1,hmI,hdq]
     by_cases e : dq = 0
     · rw [if_pos e,if_pos (by omega)]
     · rw [if_neg e,if_neg (by omega)]
    have HHD : Hid ((hadL c P n).getD k false = decide (dq = 0)):=by
     show _ = _
     rw [c3R c P n hlt,HX.out.1,hmI,hdq]
     by_cases e : dq = 0
     · rw [decide_eq_true (by omega),decide_eq_true e]
     · rw [decide_eq_false (by omega),decide_eq_false e]
    by_cases hz : 0 < dq
    · have hdq4 : dq <= 4096:=by
        have:=HX.out.2.2.2.2.2.1
        rw [HQF.out,if_neg (by omega)] at this; omega
      have HSz : Hid (N <= (wr.setCell ⟨N,k,none⟩ (.int .i64 (dq : Int))).heap.size):=by show _ <= _; have:=Kd.R_lt HL0.out.1 N rfl; omega
      have HLn : Hid (((candN (restL c P n) (hadL c P n) k).length + 1) * 24 <= 140737488355328):=by show _ <= _; have:=a9l (restL c P n) (hadL c P n) k; omega
      have HFr : Hid (∀ j,(wr.setCell ⟨N,k,none⟩ (.int .i64 (dq : Int))).heap.size <= j -> j ≠ N):=λ j hj e=>by have:=Kd.R_lt HL0.out.1 N rfl; omega
      have HNe : Hid ((Value.slice A1 (candN (restL c P n) (hadL c P n) k).length c1).ownBlock ≠ some N):=λ e=>HL0.out.2.1.1 N e rfl
      have hqg : ((qTo c P n k).set k (dq : Int)).getD k 0 = (dq : Int):=by rw [a3k _ _ _ _ (by unfold qTo; rw [a1Z]; omega),if_pos rfl]
      obtain ⟨L,hL⟩ : ∃ L,L = candN (restL c P n) (hadL c P n) k:=⟨_,rfl⟩
      obtain ⟨Q,hQ⟩ : ∃ Q,Q = (qTo c P n k).set k (dq : Int):=⟨_,rfl⟩
      rw [<- hL] at HLn HNe
      have HL1 : Hid (k3.R 215 (wr.setCell ⟨N,k,none⟩ (.int .i64 (dq : Int))) N (λ b=>b ≠ N) (.slice A1 L.length c1) L):=by rw [hL]; exact HL0.out.2.1
      have HQ1 : Hid ((Kd.int .i64).R 3 (wr.setCell ⟨N,k,none⟩ (.int .i64 (dq : Int))) N (λ _=>True) (.slice (some ⟨N,0,none⟩) 256 256) Q):=by rw [hQ]; exact HL0.out.1
      rw [<- hQ] at hqg
      have HQG:=Lib.hid (And.intro hqg (And.intro hL hQ))
      have HB1:=Lib.hid HL0.out.2.2
      have HH:=Lib.hid H.out
      rw [<- hL]
      clear hqg hL hQ HL0 H
      go_wp2_with (at_builtin; refine Kd.R_append k3 (w0:=w1) (W:=wr.setCell ⟨N,k,none⟩ (.int .i64 (dq : Int))) N rfl (.tmp 53) (.tmp 61) 213 215 _ 24 rfl Tryz.underlying213 a9g rfl (by decide) (by decide) (.slice A1 L.length c1) L ((k : Int),(rm : Int),0) [.int .i64 k,.int .i64 rm,.int .i64 0] (λ b=>b ≠ N) (λ _=>False) rfl (by simp [go_sem]) (a4L _ _ _ _) (λ _ h=>h.elim) HFr.out HL1.out HB1.out HSz.out HLn.out ?_; intro v2 w2 hr2 hb2 hg2 hat2; have HQ2:=Lib.hid (Kd.R_grown1 HQ1.out rfl hg2 HNe.out); have hq5:=(a1u HQ2.out k hlt).1; rw [HQG.out.1] at hq5; have HR2:=Lib.hid hr2; have HB2:=Lib.hid hb2; clear hr2 hb2 hg2 hat2)
      go_roundw
      case rel=>
       refine ⟨k + 1,S + dq,rfl,by go_num,by omega,by omega,by omega,?_⟩
       have hq2:=HQ2.out
       rw [HQG.out.2.2] at hq2
       refine HH.out.next hlt hq2 ?_ HB2.out (by rw [HQF.out,if_neg (by omega)]) (by omega)
       rw [a9k,if_pos (by rw [HHD.out]; exact decide_eq_false (by omega))]
       have e : a1v (restL c P n) k = ((k : Int),(rm : Int),0):=by
        unfold a1v restL
        rw [a4m _ hlt,HX.out.1,hmI,hrm]
       rw [e,<- HQG.out.2.1]; exact HR2.out
      case measure=>simp [intOf]; omega
    · have hz0 : dq = 0:=by omega
      subst hz0
      by_cases hx0 : 0 < x
      · go_wp2_with fail
        go_roundw
        case rel=>
         refine ⟨k + 1,S + 1,by go_num,by go_num,by omega,by omega,by omega,?_⟩
         have hqq:=Kd.R_putn HL0.out.1 (k : Int) (1 : Int)
         rw [Int.toNat_natCast,b3V] at hqq
         refine H.out.next hlt hqq ?_ (HL0.out.2.2.setCell (Nat.le_refl _) _) (by rw [HQF.out,if_pos rfl]; omega) (by omega)
         rw [a9k,if_neg (by rw [HHD.out]; simp)]
         exact Kd.R_far (p:=⟨N,k,none⟩) HL0.out.2.1 (λ k hk=>hk) _
        case measure=>simp [intOf]; omega
      · go_wp2_with fail
        go_roundw
        case rel=>
         refine ⟨k + 1,S + 0,by go_num,by go_num,by omega,by omega,by omega,?_⟩
         refine H.out.next hlt HL0.out.1 ?_ HL0.out.2.2 (by rw [HQF.out,if_pos rfl]; omega) (by omega)
         rw [a9k,if_neg (by rw [HHD.out]; simp)]
         exact HL0.out.2.1
        case measure=>simp [intOf]; omega
  · obtain rfl : k = 256:=by omega
    obtain ⟨A1,c1,rfl⟩:=Kd.R_slice H.out.l
    have HQ0 : Hid ((Kd.int .i64).R 3 wr N (λ _=>True) (.slice (some ⟨N,0,none⟩) 256 256) (q0L c P n)):=by rw [<- (b3T c P n).1]; exact H.out.q
    have HS : Hid (S = (q0L c P n).sum):=by rw [<- (b3T c P n).1]; exact H.out.sum
    have HPP : Hid ((P : Int) = 2 ^ r /\ (n : Int) = c.sum):=⟨HN.out.2.2.1.symm,HN.out.1.symm⟩
    have HB1:=Lib.hid H.out.below
    have HL1:=Lib.hid H.out.l
    obtain ⟨M,hM⟩ : ∃ M : Nat,M = giveM c (2 ^ r) c.sum:=⟨_,rfl⟩
    have hMv : max (0 : Int) ((P : Int) - S) = (M : Int):=by
     rw [hM]; unfold giveM; rw [<- HPP.out.1,<- HPP.out.2,<- HS.out]; omega
    have hM4 : M <= 4096:=by omega
    obtain ⟨T,hT⟩ : ∃ T : Nat,T = (S - P).toNat:=⟨_,rfl⟩
    have hTv : max (0 : Int) (S - (P : Int)) = (T : Int):=by rw [hT]; omega
    have HMT:=Lib.hid (And.intro hM hT)
    have hTb : T <= 2000000:=by omega
    obtain ⟨L,hL⟩ : ∃ L,L = candN (restL c P n) (hadL c P n) 256:=⟨_,rfl⟩
    rw [<- hL]
    have HLE:=Lib.hid hL
    clear hM hT hL H
    go_wp2_with fail
    have hgw0:=a5i HC.out 0 (Nat.zero_le _)
    have hen:=HC.out.enough
    rw [<- HPP.out.1,<- HPP.out.2] at hgw0 hen
    refine (c3J N 256 N (q0L c P n) (.slice A1 L.length c1) (restL c P n) (hadL c P n) M wr HQ0.out (by rw [HLE.out]; exact HL1.out) (by have:=Kd.R_lt HQ0.out N rfl; omega) (a1Z _) (by simp [hadL])
     (λ s=>⟨(hgw0.2.2.1 s).1,by have:=(hgw0.2.2.1 s).2; simp only [a0R] at this; omega⟩) (by rw [<- HS.out] at hen; omega) hM4).mono ?_
    clear hgw0 hen
    rintro e w3 ⟨rfl,hq3,hb3⟩
    obtain ⟨G,hG⟩ : ∃ G,G = (a0R (restL c P n) M (q0L c P n,hadL c P n)).1:=⟨_,rfl⟩
    rw [<- hG] at hq3
    have H3:=Lib.hid (And.intro hq3 (And.intro hb3 hG))
    clear hq3 hb3 hG hMv
    go_wp2_with fail
    have hge:=b3P HC.out
    have hgw:=(a5i HC.out M (by rw [<- HMT.out.1]; exact Nat.le_refl _)).2.2.2.2.1
    rw [<- HMT.out.1,<- HPP.out.1,<- HPP.out.2,<- H3.out.2.2] at hge
    rw [<- HPP.out.1,<- HPP.out.2,<- H3.out.2.2,<- HS.out] at hgw
    have hTe : (G.sum - 2 ^ r).toNat = T:=by
     rw [<- HPP.out.1,hgw]
     have h1 : M = ((P : Int) - S).toNat:=by
      have:=HMT.out.1; unfold giveM at this; rw [<- HPP.out.1,<- HPP.out.2,<- HS.out] at this; exact this
     have h2:=HMT.out.2
     omega
    have HT2 : Hid (a9n c G T):=λ k hk=>by
     have:=(a8O HC.out hge.1 k (by rw [hTe]; exact hk)).1
     exact ⟨this.len,this.rng,this.iff⟩
    have HNL : Hid (a0M c T G = normL c r):=by
     show _ = _
     unfold normL
     simp only []
     rw [<- HMT.out.1,<- HPP.out.1,<- HPP.out.2,<- H3.out.2.2,HPP.out.1,hTe]
    have HB3 : Hid (Below N w1 w3):=HB1.out.trans H3.out.2.1
    have hcs:=HC.out.le
    clear hge hgw
    refine (c3M N 256 cp A w1 N HNs.out G c T w3 H3.out.1 (Kd.C_below HR.out HB0.out) HB3.out HC.out.len (λ s=>⟨(HC.out.get s).1,by have:=(HC.out.get s).2; omega⟩) HT2.out hTb (λ _=>c3U HC.out)).mono ?_
    rintro e w4 ⟨rfl,hq4,hb4⟩
    have H4:=Lib.hid (And.intro hq4 hb4)
    clear hq4 hb4 hTe
    go_wp2_with fail
    go_ret2
    have hNl : w.heap.size <= N:=by rw [HNs.out]; exact HB0.out.size
    refine ⟨_,rfl,?_,HB0.out.trans (H4.out.2.mono hNl)⟩
    rw [<- HNL.out]
    exact Kd.R_lower H4.out.1 hNl
end Go.Proofs.YtamimiomglipmaaGreat
namespace Go.Proofs.YtamimiomglipmaaGreat
open Go.RowKit Go.IntWalk Go.Proofs.YtamimiomglipmaaGreatW.PrintWords
set_option maxRecDepth 100000 in
theorem c3V (i : Int) (p : Nat) (v : Value) (w : World) (h : w.cell? ⟨p,0,none⟩ = some v) :
    Calls Tryz.prog 108 #[.int .i64 i,.pointer (some ⟨p,0,none⟩)] w λ e w'=>e = .returned v /\ w = w':=by
 go_enter Tryz.func108,Tryz.ntmps108
 go_wp2_with fail
 go_ret
 exact ⟨rfl,rfl⟩
set_option maxRecDepth 100000 in
set_option maxHeartbeats 2000000 in
theorem c3W (p ch r : Nat) (Ah : Option Addr) (h : List Int) (w : World) (hp : w.heap[p]? = some (.cells #[.slice Ah 256 ch] 128 (0,0))) (hv : (Kd.int .i64).C w Ah 256 h) (hc : Can h r) (hm : 0 < manyC h) :
    Calls Tryz.prog 105 #[.int .i64 r,.int .i64 1,.func (Fn.func 108) #[] #[.pointer (some ⟨p,0,none⟩)]] w (MadeM r true [normL h r] w):=by
 obtain ⟨W2,hW2⟩ : ∃ W2,W2 = (w.alloc (.cells #[.int .i64 0,.bool false,.slice none 0 0] 119)).alloc (.cells #[.int .i64 r,.bool true,.slice none 0 0] 119):=⟨_,rfl⟩
 have hb2 : Below w.heap.size w W2:=by rw [hW2]; exact ((Below.refl w.heap.size w).alloc (Nat.le_refl _) _).alloc (by simp) _
 have hs2 : W2.heap.size = w.heap.size + 2:=by rw [hW2]; simp
 have hm1 : W2.heap[w.heap.size + 1]? = some (.cells #[.int .i64 r,.bool true,.slice none 0 0] 119 (0,0)):=by rw [hW2]; exact a2w _ _ _
 have hm0 : W2.heap[w.heap.size]? = some (.cells #[.int .i64 0,.bool false,.slice none 0 0] 119 (0,0)):=by rw [hW2]; exact a0t (a0f _ _) _
 have HP2:=Lib.hid (a0e hp hb2)
 have HV2:=Lib.hid (Kd.C_below hv hb2)
 have H2:=Lib.hid (And.intro hb2 (And.intro hs2 (And.intro hm1 hm0)))
 have HC:=Lib.hid (And.intro hc hm)
 clear hp hv hb2 hs2 hm1 hm0 hc hm
 go_enter Tryz.func105,Tryz.ntmps105
 go_wp2_with fail
 rw [<- hW2]
 clear hW2
 obtain ⟨m0,hm0⟩ : ∃ m0,m0 = w.heap.size:=⟨_,rfl⟩
 have HM0:=Lib.hid hm0
 rw [<- hm0] at H2 ⊢
 clear hm0
 obtain ⟨m1,hm1⟩ : ∃ m1,m1 = m0 + 1:=⟨_,rfl⟩
 have HM1:=Lib.hid hm1
 rw [<- hm1] at H2 ⊢
 clear hm1
 go_loopw [16] (λ kv wr=>(kv = .int .i64 0 /\ wr = W2) \/ (kv = .int .i64 1 /\ Hid (∃ A1 c1,wr.heap[m1]? = some (.cells #[.int .i64 r,.bool true,.slice A1 1 c1] 119 (0,0)) /\ wr.heap[m0]? = some (.cells #[.int .i64 0,.bool false,.slice none 0 0] 119 (0,0)) /\ kq.R 128 wr W2.heap.size (λ _=>True) (.slice A1 1 c1) [normL h r] /\ Below m0 w wr))) (λ kv _=>1 - (intOf kv).toNat)
 case atStart=>exact .inl ⟨rfl,rfl⟩
 case round=>
  rcases hrel with ⟨rfl,rfl⟩ | ⟨rfl,H⟩
  · have hpc : wr.cell? ⟨p,0,none⟩ = some (.slice Ah 256 ch):=(a0a HP2.out 0).trans rfl
    go_wp2_with fail
    refine (c3V 0 p (.slice Ah 256 ch) wr hpc).mono ?_
    rintro e w' ⟨rfl,rfl⟩
    go_wp2_with fail
    have hmany:=a5l Ah ch h wr (by rw [HC.out.1.len]; exact HV2.out) (rightC_iff.2 ⟨HC.out.1.len,HC.out.1.nonneg,HC.out.1.le⟩)
    rw [HC.out.1.len] at hmany
    refine hmany.mono ?_
    rintro e w' ⟨rfl,rfl⟩
    have hmp : 0 < manyC h:=HC.out.2
    clear hmany
    go_wp2_with fail
    refine (b4O Ah ch h r wr HV2.out HC.out.1).mono ?_
    rintro e w5 ⟨vq,rfl,hq,hb5⟩
    obtain ⟨Aq,cq,rfl⟩:=Kd.R_slice hq
    obtain ⟨ql,hql⟩ : ∃ ql,ql = (normL h r).length:=⟨_,rfl⟩
    have HQ:=Lib.hid hq
    rw [<- hql] at HQ ⊢
    have HB5:=Lib.hid hb5
    have h15 : w5.heap[m1]? = some (.cells #[.int .i64 r,.bool true,.slice none 0 0] 119 (0,0)):=a0e H2.out.2.2.1 hb5
    have H05:=Lib.hid (a0e H2.out.2.2.2 hb5)
    obtain ⟨⟨ca,cb,cc⟩,fa,fb,fc⟩:=cell3 h15
    have H15:=Lib.hid h15
    have HBB : Hid (Below wr.heap.size wr w5):=hb5
    have HS5 : Hid (wr.heap.size <= w5.heap.size):=hb5.size
    have hm1l:=a0b h15
    have hm1n : ¬ m1 = w5.heap.size:=by omega
    have hm1n' : ¬ w5.heap.size = m1:=by omega
    have HL : Hid ((([] : List (List Int)).length + 1) * 24 <= 140737488355328):=by show _ <= _; simp
    clear hq hb5 h15 hql
    go_wp2_with (at_builtin; refine Kd.R_append kq (w0:=wr) (W:=w5) wr.heap.size rfl (.tmp 32) (.tmp 34) 117 128 (.slice none 0 0) 24 rfl Tryz.underlying117 a6T rfl (by decide) (by decide) (.slice none 0 0) [] (normL h r) [.slice Aq ql cq] (λ _=>True) (λ _=>True) rfl (by simp [go_sem]) ⟨_,rfl,HQ.out⟩ (λ _ _=>⟨trivial,by simp [Value.ownBlock]⟩) (λ _ _=>trivial) (Kd.R_nil _ _ _ _ _) HBB.out HS5.out HL.out ?_; intro v1 w6 hr6 hb6 hg6 hat6; have h16:=a0O H15.out hg6 (by simp [Value.ownBlock]); have H16:=Lib.hid h16; have H06:=Lib.hid (a0O H05.out hg6 (by simp [Value.ownBlock])); obtain ⟨⟨da,db,dc⟩,ga,gb,gc⟩:=cell3 h16; obtain ⟨A1,c1,rfl⟩:=Kd.R_slice hr6; have HR6:=Lib.hid hr6; have HB6:=Lib.hid hb6; clear hr6 hb6 hg6 hat6 h16)
    go_roundw
    case rel=>
     have hmm : m0 <= wr.heap.size /\ m1 < wr.heap.size /\ m0 ≠ m1:=by have:=a0b H2.out.2.2.1; have:=a0b H2.out.2.2.2; have:=HM1.out; omega
     have h1:=H16.out
     have h0:=H06.out
     refine .inr ⟨rfl,A1,c1,?_,?_,?_,?_⟩
     · exact a0h h1 2 _
     · exact a1e h0 (p:=⟨m1,2,none⟩) hmm.2.2 _
     · refine Kd.R_mono (Kd.R_far (p:=⟨m1,2,none⟩) (Kd.R_bound HR6.out) (λ k hk=>?_) _) (λ _ _=>trivial)
       show k ≠ m1
       have:=hk.2.1
       omega
     · refine (H2.out.1.trans (HB6.out.mono hmm.1)).setCell ?_ _
       show m0 <= m1
       have:=HM1.out; omega
    case measure=>simp [intOf]
  · obtain ⟨A1,c1,h1,h2,h3,h4⟩:=H.out
    obtain ⟨⟨ca,cb,cc⟩,fa,fb,fc⟩:=cell3 h1
    obtain ⟨⟨da,db,dc⟩,ga,gb,gc⟩:=cell3 h2
    have HH:=Lib.hid (And.intro h2 (And.intro h3 h4))
    clear h1 h2 h3 h4 H
    go_wp2_with fail
    have hmm : m0 < W2.heap.size:=a0b H2.out.2.2.2
    refine bodyPost_ret (results_cell_row (fn:=Tryz.f105) (p:=6) (ty:=119) rfl _ _ _ _ _ _ _ rfl (a1K HH.out.1 _ _ _) Tryz.underlying119 rfl a8S) rfl ?_
    have hw0:=HM0.out
    subst hw0
    refine ⟨_,rfl,?_,((HH.out.2.2.setCell (Nat.le_refl _) _).setCell (Nat.le_refl _) _).setCell (Nat.le_refl _) _⟩
    have h4 : kq.R 128 wr w.heap.size (λ k=>k ≠ w.heap.size) (.slice A1 1 c1) [normL h r]:=Kd.R_mono (Kd.R_lower (Kd.R_bound HH.out.2.1) (by omega)) (λ k hk=>by have:=hk.2.1; omega)
    exact Kd.R_mono (a2N h4 _ _ _) (λ _ _=>trivial)
theorem a1z {w : World} {g : Nat} {a b c : Value} (hg : w.heap[g]? = some (.cells #[a,b,c] 119 (0,0))) : (loadVar 119 ⟨g,0,none⟩).run Tryz.prog w = .ok (.agg #[a,b,c]) w:=
 run_loadVar_row w g _ _ _ _ _ hg Tryz.underlying119 rfl a8S
theorem a1L {fn : Func} {p u : Tmp} {ty : TypeId} (h : fn.results = #[.cell p ty,.tmp u]) (tmps : Array Value) (w : World) (g : Nat) (cs : Array Value)
    (hp : tmps.getD p undef = .pointer (some ⟨g,0,none⟩)) (hl : (loadVar ty ⟨g,0,none⟩).run Tryz.prog w = .ok (.agg cs) w) :
    (results fn tmps).run Tryz.prog w = .ok (.tuple #[.agg cs,tmps.getD u undef]) w:=by
 have hp' : tmps[p]?.getD undef = .pointer (some ⟨g,0,none⟩):=by simpa using hp
 simp [results,h,hp',asAddr,hl]
def a9o (b : List Int) (w : World) (e : Ending) (w' : World) : Prop:=
 (b.length = 0 /\ e = .returned (.tuple #[.agg #[.int .i64 0,.bool false,.slice none 0 0],.int .i64 1]) /\ Below w.heap.size w w') \/
 (0 < b.length /\ ∃ v,e = .returned (.tuple #[.agg #[.int .i64 (zeroR b),.bool true,v],.int .i64 0]) /\ kq.R 128 w' w.heap.size (λ _=>True) v [zeroQ b] /\ Below w.heap.size w w')
theorem b4P {b : List Int} (hb : Bytes b) (hl : b.length <= 1000000) (h0 : 0 < b.length) : 0 < manyC (histL b):=by
 rw [b3X (a5j b hb hl)]
 have hx:=hb _ (List.getElem_mem h0)
 obtain ⟨s,hs⟩ : ∃ s : Nat,b[0] = (s : Int):=⟨(b[0]).toNat,by omega⟩
 have hs2 : s < 256:=by omega
 have hp:=(a8Q b hs2).2 (by rw [<- hs]; exact List.getElem_mem h0)
 refine List.countP_pos_iff.2 ⟨(histL b).getD s 0,a3I (by unfold histL; rw [a1Z]; exact hs2),by simpa using hp⟩
set_option maxRecDepth 100000 in
set_option maxHeartbeats 1000000 in
theorem b4Q (A : Option Addr) (cp : Nat) (b : List Int) (w : World) (hr : (Kd.int .u8).C w A b.length b) (hb : Bytes b) (hl : b.length <= 1000000) (h0 : 0 < b.length) :
    Calls Tryz.prog 92 #[.slice A b.length cp] w (a9o b w):=by
 have hne : ((b.length : Int) == 0) = false:=by simp; intro e; subst e; simp at h0
 have hne2 : ¬ b = []:=by intro e; subst e; simp at h0
 obtain ⟨W1,hW1⟩ : ∃ W1,W1 = w.alloc (.cells #[.int .i64 0,.bool false,.slice none 0 0] 119):=⟨_,rfl⟩
 have hb1 : Below w.heap.size w W1:=by rw [hW1]; exact (Below.refl w.heap.size w).alloc (Nat.le_refl _) _
 have hk1 : W1.heap[w.heap.size]? = some (.cells #[.int .i64 0,.bool false,.slice none 0 0] 119 (0,0)):=by rw [hW1]; exact a0f _ _
 have HB1:=Lib.hid hb1
 have HK1:=Lib.hid hk1
 have HR:=Lib.hid hr
 have HX:=Lib.hid (And.intro hb (And.intro hl h0))
 have hZ:=a4o b
 obtain ⟨zr,hzr⟩ : ∃ zr,zr = zeroR b:=⟨_,rfl⟩
 rw [<- hzr] at hZ
 have HZ:=Lib.hid (And.intro hzr hZ)
 clear hb1 hk1 hr hb hl h0 hZ hzr
 go_enter Tryz.func92,Tryz.ntmps92
 go_wp2_with fail
 rw [<- hW1]
 clear hW1
 refine (b4m A cp b W1 (Kd.C_below HR.out HB1.out) HX.out.2.1 HX.out.1).mono ?_
 rintro e w2 ⟨v,rfl,hv,hb2⟩
 obtain ⟨Ah,ch,rfl⟩:=Kd.R_slice hv
 have hhl : (histL b).length = 256:=a1Z _
 have hrd:=(Kd.R_reads' hv).2.2
 have hmany:=a5l Ah ch (histL b) (w2.alloc (.cells #[.slice Ah 256 ch] 128)) (Kd.C_alloc hrd _) (a5j b HX.out.1 HX.out.2.1)
 rw [hhl] at hrd hmany ⊢
 have HV:=Lib.hid (Kd.C_alloc hrd (.cells #[.slice Ah 256 ch] 128))
 have HMa:=Lib.hid hmany
 have HB2 : Hid (Below w.heap.size w w2):=HB1.out.trans (hb2.mono HB1.out.size)
 have HK2:=Lib.hid (a0e HK1.out hb2)
 clear hv hb2 hrd hmany hhl
 go_wp2_with fail
 have HP3:=Lib.hid (a0f w2 (.cells #[.slice Ah 256 ch] 128))
 have HB3 : Hid (Below w.heap.size w (w2.alloc (.cells #[.slice Ah 256 ch] 128))):=HB2.out.alloc HB2.out.size _
 have HK3:=Lib.hid (a0t HK2.out (.cells #[.slice Ah 256 ch] 128))
 obtain ⟨w3,hw3⟩ : ∃ w3,w3 = w2.alloc (.cells #[.slice Ah 256 ch] 128):=⟨_,rfl⟩
 rw [<- hw3] at HP3 HB3 HK3 HV HMa ⊢
 obtain ⟨p0,hp0⟩ : ∃ p0,p0 = w2.heap.size:=⟨_,rfl⟩
 rw [<- hp0] at HP3 ⊢
 clear hw3 hp0
 refine HMa.out.mono ?_
 rintro e w4 ⟨rfl,rfl⟩
 go_wp2_with fail
 refine (b4L b.length (manyC (histL b)) 11 _ HX.out.2.1 (by have:=a5g (histL b); omega)).mono ?_
 rw [HZ.out.2.1]
 rintro e w4 ⟨rfl,hb4⟩
 have HB4 : Hid (Below w.heap.size w w4):=HB3.out.trans (hb4.mono HB3.out.size)
 have HK4:=Lib.hid (a0e HK3.out hb4)
 have HP4:=Lib.hid (a0e HP3.out hb4)
 have HV4:=Lib.hid (Kd.C_below HV.out hb4)
 clear hb4
 go_wp2_with fail
 refine (c3W p0 ch zr Ah (histL b) w4 HP4.out HV4.out (by rw [HZ.out.1]; exact a6Q HX.out.1 HX.out.2.1 HX.out.2.2) (b4P HX.out.1 HX.out.2.1 HX.out.2.2)).mono ?_
 rintro e w5 ⟨v,rfl,hv,hb5⟩
 obtain ⟨Av,cv,rfl⟩:=Kd.R_slice hv
 obtain ⟨⟨m0,m1,m2⟩,⟨f0,f1,f2⟩⟩:=cell3 (a0e HK4.out hb5)
 have HE:=Lib.hid (c2M (lg:=(zr : Nat)) (one:=true) HB4.out (a0b HK4.out) HK4.out hv hb5)
 clear hv hb5
 go_wp2_with fail
 refine bodyPost_ret (a1L (fn:=Tryz.f92) (p:=2) (u:=3) (ty:=119) rfl _ _ _ _ rfl (a1z HE.out.1)) rfl ?_
 obtain ⟨v2,h1,h2,h3⟩:=HE.out.2
 injection h1 with h1
 injection h1 with h1
 have h1' : Value.slice Av [normL (histL b) zr].length cv = v2:=by
  have:=congrArg (λ a : Array Value=>a.getD 2 Go.undef) h1
  simpa using this
 refine .inr ⟨HX.out.2.2,Value.slice Av [normL (histL b) zr].length cv,?_,?_,h3⟩
 · rw [<- HZ.out.1]; rfl
 · rw [<- h1'] at h2
   unfold zeroQ; rw [<- HZ.out.1]; exact h2
set_option maxRecDepth 100000 in
theorem c3X (A : Option Addr) (cp : Nat) (w : World) : Calls Tryz.prog 92 #[.slice A 0 cp] w (a9o [] w):=by
 have hk1 : (w.alloc (.cells #[.int .i64 0,.bool false,.slice none 0 0] 119)).heap[w.heap.size]? = some (.cells #[.int .i64 0,.bool false,.slice none 0 0] 119 (0,0)):=a0f _ _
 have HB : Hid (Below w.heap.size w (w.alloc (.cells #[.int .i64 0,.bool false,.slice none 0 0] 119))):=(Below.refl _ _).alloc (Nat.le_refl _) _
 have HK:=Lib.hid hk1
 clear hk1
 go_enter Tryz.func92,Tryz.ntmps92
 go_wp2_with fail
 refine bodyPost_ret (a1L (fn:=Tryz.f92) (p:=2) (u:=3) (ty:=119) rfl _ _ _ _ rfl (a1z HK.out)) rfl ?_
 exact .inl ⟨rfl,rfl,HB.out⟩
theorem a9q (w : World) : WrVal (w.alloc (.cells #[.slice none 0 0,.int .i64 0] 186)) w.heap.size w.heap.size (.slice none 0 0) []:=⟨a0f _ _,Kd.R_nil _ _ _ _ _⟩
theorem PutRel.bel {base p : Nat} {v0 : Value} {bs : List Bool} {w0 w w' : World} (h : PutRel base p v0 bs w w') (hb : Below w0.heap.size w0 w) (hp : w0.heap.size <= p) (hv : ∀ k,v0.ownBlock = some k -> w0.heap.size <= k) : Below w0.heap.size w0 w':=by
 obtain ⟨_,_,_,ho⟩:=h
 exact hb.trans (ho.below hb.size (λ k hk=>by
  rcases hk with hk | hk
  · exact hk ▸ hp
  · exact hv k hk))
def c4a (r : Nat) (q : List Int) (w : World) (e : Ending) (w' : World) : Prop:=∃ v,e = .returned v /\ (Kd.int .u8).R 5 w' w.heap.size (λ _=>True) v (packB (headB r q)) /\ Below w.heap.size w w'
set_option maxRecDepth 100000 in
set_option maxHeartbeats 400000 in
theorem c4b (r c : Nat) (A : Option Addr) (q : List Int) (w : World) (hr : kq.C w A 1 [q]) (hn : Nrm q r) :
    Calls Tryz.prog 94 #[.agg #[.int .i64 r,.bool true,.slice A 1 c]] w (c4a r q w):=by
 obtain ⟨W,hW⟩ : ∃ W,W = (w.alloc (.cells #[.int .i64 r,.bool true,.slice A 1 c] 119)).alloc (.cells #[.slice none 0 0,.int .i64 0] 186):=⟨_,rfl⟩
 have HI:=Lib.hid (a9q (w.alloc (.cells #[.int .i64 r,.bool true,.slice A 1 c] 119)))
 have HB : Hid (Below w.heap.size w W):=by show Below _ _ _; rw [hW]; exact ((Below.refl _ _).alloc (Nat.le_refl _) _).alloc (by simp) _
 have HK : Hid (W.heap[w.heap.size]? = some (.cells #[.int .i64 r,.bool true,.slice A 1 c] 119 (0,0))):=by show _ = _; rw [hW]; exact a0t (a0f _ _) _
 have hs : (w.alloc (.cells #[.int .i64 r,.bool true,.slice A 1 c] 119)).heap.size = w.heap.size + 1:=by simp
 have HR:=Lib.hid (And.intro hr hn)
 have hr12:=hn.r12
 rw [hs] at HI
 rw [<- hW] at HI
 clear hr hn
 obtain ⟨P,hP⟩ : ∃ P,P = w.heap.size + 1:=⟨_,rfl⟩
 rw [<- hP] at HI hs
 have HP:=Lib.hid hP
 have HPW : Hid (P <= W.heap.size):=by show _ <= _; rw [hW,hP]; simp
 clear hP
 go_enter Tryz.func94,Tryz.ntmps94
 go_wp2_with fail
 refine (a6p _).mono ?_
 rw [<- hW,hs]
 clear hW hs
 rintro e w1 ⟨rfl,rfl⟩
 have hk0:=(cell3 HK.out).1
 obtain ⟨ka,kb,kc⟩:=hk0
 go_wp2_with fail
 refine (a1W P P (.slice none 0 0) [] r 8 w1 HI.out HPW.out (by simp) (by omega) (by decide)).mono ?_
 rintro e w2 ⟨rfl,hp⟩
 have HB2 : Hid (Below w.heap.size w w2):=hp.bel HB.out (by have:=HP.out; omega) (λ k hk=>by simp [Value.ownBlock] at hk)
 obtain ⟨v1,m1,m2,m3⟩:=hp
 have HM:=Lib.hid (And.intro m1 (And.intro m2 m3))
 have hk2 : w2.heap[w.heap.size]? = some (.cells #[.int .i64 r,.bool true,.slice A 1 c] 119 (0,0)):=by
  rw [m3.block _ (a0b HK.out) (λ h=>by rcases h with h | h; have:=HP.out; omega; simp [Value.ownBlock] at h)]; exact HK.out
 clear m1 m2 m3 ka kb kc
 obtain ⟨⟨ka,kb,kc⟩,-⟩:=cell3 hk2
 obtain ⟨ad,Bq,cq,rfl,hcq',-,hCq⟩:=kq_at HR.out.1 0 (by omega)
 have hcq:=a0o HB2.out hcq'
 clear hcq'
 have e0 : ([q] : List (List Int)).getD 0 [] = q:=rfl
 rw [e0,HR.out.2.len] at hcq hCq
 have hadd : ad.add 0 = ad:=rfl
 rw [hadd] at hcq
 have HQ:=Lib.hid hCq
 clear hCq hk2 e0 hadd
 go_wp2_with fail
 refine (b4T P P cq r Bq v1 ([] ++ a0l r 8) q w w2 HM.out.1 (Nat.le_trans HPW.out HM.out.2.2.size) (by simp [a0F]) HQ.out HB2.out (by have:=HP.out; omega) (by have:=HP.out; omega) HR.out.2).mono ?_
 rintro e w3 ⟨rfl,hp⟩
 have HB3 : Hid (Below w.heap.size w w3):=hp.bel HB2.out (by have:=HP.out; omega) (λ k hk=>by have:=Kd.R_base HM.out.1.row k hk; have:=HP.out; omega)
 obtain ⟨v2,m1,_,_⟩:=hp
 have HM3:=Lib.hid m1
 clear m1
 have HLn : Hid (([] ++ a0l r 8 ++ hdrB q 257 0 (2 ^ r)).length <= 900000):=by
  show _ <= _
  have e2 : (2 : Int) ^ r = ((2 ^ r : Nat) : Int):=by simp
  have h1:=a4q HR.out.2.r12 HR.out.2.len HR.out.2.nn 257 0 (2 ^ r) (by omega) (by rw [List.drop_zero,HR.out.2.sum,e2]) (by rw [Nat.pow_succ]; have:=Nat.two_pow_pos r; omega)
  have h2 : (256 - 0) * (r + 3) <= 256 * 15:=Nat.mul_le_mul (by omega) (by omega)
  rw [List.nil_append,List.length_append,a0F]; omega
 go_wp2_with fail
 refine (a6U _ _ _ _ _ HM3.out HLn.out).mono ?_
 rintro e w4 ⟨v4,rfl,hv4,hb4⟩
 have H4 : Hid ((Kd.int .u8).R 5 w4 w.heap.size (λ _=>True) v4 (packB (headB r q)) /\ Below w.heap.size w w4):=by
  refine ⟨?_,HB3.out.trans (hb4.mono HB3.out.size)⟩
  have:=Kd.R_lower hv4 HB3.out.size
  rw [List.nil_append] at this; exact this
 clear hv4 hb4
 go_wp2_with fail
 go_ret
 exact ⟨v4,rfl,H4.out.1,H4.out.2⟩
def a1h (b : List Int) : List Int:=packB (headB (zeroR b) (zeroQ b)) ++ packB (a0S (zeroR b : Nat) true [zeroQ b] b ++ [true])
theorem a7a {b : List Int} (hb : Bytes b) (hl : b.length <= 1000000) (h0 : 0 < b.length) : Nrm (zeroQ b) (zeroR b):=by
 have h:=a4n (a6Q hb hl h0)
 have hz:=a4o b
 exact ⟨h.1.len,h.1.nonneg,h.2.1,by omega,by omega⟩
def b4U (b : List Int) (w : World) (e : Ending) (w' : World) : Prop:=
 (b.length = 0 /\ e = .returned (.tuple #[.slice none 0 0,.int .i64 1]) /\ Below w.heap.size w w') \/
 (0 < b.length /\ ∃ v,e = .returned (.tuple #[v,.int .i64 0]) /\ (Kd.int .u8).R 5 w' w.heap.size (λ _=>True) v (a1h b) /\ Below w.heap.size w w')
theorem c4c {w w' : World} {e : Ending} (h : a9o [] w e w') : e = .returned (.tuple #[.agg #[.int .i64 0,.bool false,.slice none 0 0],.int .i64 1]) /\ Below w.heap.size w w':=by
 rcases h with ⟨_,h1,h2⟩ | ⟨h,_⟩
 · exact ⟨h1,h2⟩
 · cases h
set_option maxRecDepth 100000 in
theorem c4d (A : Option Addr) (cp : Nat) (w : World) : Calls Tryz.prog 83 #[.slice A 0 cp] w (b4U [] w):=by
 have HZ:=Lib.hid ((c3X A cp w).mono (λ e w' h=>c4c h))
 go_enter Tryz.func83,Tryz.ntmps83
 go_wp2_with fail
 refine HZ.out.mono ?_
 rintro e w1 ⟨rfl,hb1⟩
 have HB1:=Lib.hid hb1
 clear hb1
 go_wp2_with fail
 go_ret2
 exact .inl ⟨rfl,rfl,HB1.out.alloc HB1.out.size _⟩
set_option maxRecDepth 100000 in
set_option maxHeartbeats 1000000 in
theorem b4V (A : Option Addr) (cp : Nat) (b : List Int) (w : World) (hr : (Kd.int .u8).C w A b.length b) (hb : Bytes b) (hl : b.length <= 40000) :
    Calls Tryz.prog 83 #[.slice A b.length cp] w (b4U b w):=by
 by_cases h0 : 0 < b.length
 · have HR:=Lib.hid (And.intro hr (And.intro hb (And.intro hl h0)))
   have HN:=Lib.hid (a7a hb (by omega) h0)
   have HCan : Hid (canM (zeroR b : Nat) true [zeroQ b] b = true):=a4p (one:=true) hb (by omega) h0
   have hzero:=b4Q A cp b w hr hb (by omega) h0
   have HZ:=Lib.hid hzero
   obtain ⟨r,hr'⟩ : ∃ r,r = zeroR b:=⟨_,rfl⟩
   obtain ⟨q,hq'⟩ : ∃ q,q = zeroQ b:=⟨_,rfl⟩
   have HRQ:=Lib.hid (And.intro hr' hq')
   clear hr hb hl h0 hzero
   go_enter Tryz.func83,Tryz.ntmps83
   go_wp2_with fail
   refine HZ.out.mono ?_
   rintro e w1 (⟨h,_⟩ | ⟨_,v,rfl,hv,hb1⟩)
   · have:=HR.out.2.2.2; omega
   obtain ⟨Av,cv,rfl⟩:=Kd.R_slice hv
   rw [<- hr']
   rw [<- hq'] at hv
   have HV : Hid (kq.C w1 Av 1 [q]):=(Kd.R_reads' hv).2.2
   have HB1:=Lib.hid hb1
   have e1 : ([zeroQ b] : List (List Int)).length = 1:=rfl
   rw [e1]
   clear hv hb1 e1 hr' hq'
   obtain ⟨w2,hw2⟩ : ∃ w2,w2 = w1.alloc (.cells #[.int .i64 r,.bool true,.slice Av 1 cv] 119):=⟨_,rfl⟩
   have HB2 : Hid (Below w.heap.size w w2):=by show Below _ _ _; rw [hw2]; exact HB1.out.alloc HB1.out.size _
   have HV2 : Hid (kq.C w2 Av 1 [q]):=by show kq.C _ _ _ _; rw [hw2]; exact Kd.C_alloc HV.out _
   have hk2 : w2.heap[w1.heap.size]? = some (.cells #[.int .i64 r,.bool true,.slice Av 1 cv] 119 (0,0)):=by rw [hw2]; exact a0f _ _
   have HK2:=Lib.hid hk2
   obtain ⟨mb,hmb⟩ : ∃ mb,mb = w1.heap.size:=⟨_,rfl⟩
   rw [<- hmb] at HK2
   clear hk2
   go_wp2_with fail
   rw [<- hw2,<- hmb]
   clear hw2 hmb
   refine (b3l (r : Nat) true Av cv [q] A cp b w2 HV2.out (by simp) (Kd.C_below HR.out.1 HB2.out) HR.out.2.1 HR.out.2.2.1).mono ?_
   rintro e w3 ⟨_,h2,hb3⟩
   obtain ⟨vp,rfl,hvp⟩:=h2 (by rw [HRQ.out.1,HRQ.out.2]; exact HCan.out)
   obtain ⟨Ap,cpp,rfl⟩:=Kd.R_slice hvp
   have HB3 : Hid (Below w.heap.size w w3):=HB2.out.trans (hb3.mono HB2.out.size)
   have hk3:=a0e HK2.out hb3
   have HV3 : Hid (kq.C w3 Av 1 [q]):=Kd.C_below HV2.out hb3
   have HP3:=Lib.hid (Kd.R_reads' hvp).2.2
   have HFit:=Lib.hid (a4X (a4Y (by rw [HRQ.out.1,HRQ.out.2]; exact HCan.out : canM (r : Nat) true [q] b = true)).1 HR.out.2.1)
   obtain ⟨Pl,hPl⟩ : ∃ Pl,Pl = packB (a0S (r : Nat) true [q] b ++ [true]):=⟨_,rfl⟩
   have HPl:=Lib.hid hPl
   rw [<- hPl] at HP3 ⊢
   obtain ⟨⟨ka,kb,kc⟩,-⟩:=cell3 hk3
   have HPlen : Hid (Pl.length <= 700000):=by
    show _ <= _
    rw [hPl,a0s,List.length_append]
    have:=HFit.out; have:=HR.out.2.2.1; simp only [List.length_singleton]; omega
   clear h2 hb3 hvp hk3 hPl
   have HKK:=Lib.hid (And.intro ka (And.intro kb kc))
   clear ka kb kc
   obtain ⟨ka,kb,kc⟩:=HKK.out
   go_wp2_with fail
   refine (c4b r cv Av q w3 HV3.out (by rw [HRQ.out.1,HRQ.out.2]; exact HN.out)).mono ?_
   rintro e w4 ⟨vh,rfl,hvh,hb4⟩
   obtain ⟨Ah,ch,rfl⟩:=Kd.R_slice hvh
   have HB4 : Hid (Below w.heap.size w w4):=HB3.out.trans (hb4.mono HB3.out.size)
   have HP4 : Hid ((Kd.int .u8).C w4 Ap Pl.length Pl):=Kd.C_below HP3.out hb4
   have HH4 : Hid ((Kd.int .u8).R 5 w4 w.heap.size (λ _=>True) (.slice Ah (packB (headB r q)).length ch) (packB (headB r q))):=Kd.R_lower hvh HB3.out.size
   have HHl : Hid ((packB (headB r q)).length <= 10000):=by
    show _ <= _
    have hn:=HN.out
    rw [<- HRQ.out.1,<- HRQ.out.2] at hn
    have e2 : (2 : Int) ^ r = ((2 ^ r : Nat) : Int):=by simp
    have h1:=a4q hn.r12 hn.len hn.nn 257 0 (2 ^ r) (by omega) (by rw [List.drop_zero,hn.sum,e2]) (by rw [Nat.pow_succ]; have:=Nat.two_pow_pos r; omega)
    have h2 : (256 - 0) * (r + 3) <= 256 * 15:=Nat.mul_le_mul (by omega) (by have:=hn.r12; omega)
    rw [a0s]; unfold headB
    rw [List.length_append,a0F]; omega
   obtain ⟨Hl,hHl⟩ : ∃ Hl,Hl = packB (headB r q):=⟨_,rfl⟩
   have HHd:=Lib.hid hHl
   rw [<- hHl] at HH4 HHl ⊢
   have HL : Hid ((Hl.length + Pl.length) * 1 <= 140737488355328):=by show _ <= _; have:=HHl.out; have:=HPlen.out; omega
   have HS4 : Hid (w.heap.size <= w4.heap.size):=HB4.out.size
   clear hvh hb4 hHl ka kb kc
   go_wp2_with (at_builtin; refine Kd.R_append_rows (Kd.int .u8) (Rr:=(Kd.int .u8).K w4) (w0:=w) (W:=w4) w.heap.size rfl (.tmp 25) (.tmp 26) 29 5 (.int .u8 0) 1 rfl Tryz.underlying29 a0y rfl (by decide) (by decide) (.slice Ah Hl.length ch) Hl Pl Ap Pl.length cpp (λ _=>True) (λ _=>False) rfl rfl HH4.out HP4.out (λ _ _ h=>h) (λ _ h=>h.elim) (λ _ _=>trivial) HB4.out HS4.out HL.out ?_; intro vi w5 hr5 hb5 hg5 hat5; have HR5:=Lib.hid hr5; have HB5:=Lib.hid hb5; clear hr5 hb5 hg5 hat5)
   go_ret2
   refine .inr ⟨HR.out.2.2.2,_,rfl,?_,HB5.out⟩
   unfold a1h
   rw [<- HRQ.out.1,<- HRQ.out.2,<- HPl.out,<- HHd.out]
   exact HR5.out
 · have hbe : b = []:=List.eq_nil_of_length_eq_zero (by omega)
   subst hbe
   exact c4d A cp w
def Told (k : Int) (y : List Int) (w : World) (e : Ending) (w' : World) : Prop:=
 ∃ A c,e = .returned (.tuple #[.slice A y.length c,.int .i64 k]) /\ (Kd.int .u8).R 5 w' w.heap.size (λ _=>True) (.slice A y.length c) y /\ Below w.heap.size w w'
theorem c4k (A : Option Addr) (cp : Nat) (b : List Int) (w : World) (hr : (Kd.int .u8).C w A b.length b) (hb : Bytes b) (hl : b.length <= 40000) (h0 : 0 < b.length) :
    Calls Tryz.prog 83 #[.slice A b.length cp] w (Told 0 (a1h b) w):=by
 refine (b4V A cp b w hr hb hl).mono ?_
 rintro e w' (⟨h,_⟩ | ⟨_,v,rfl,hv,hbl⟩)
 · omega
 · obtain ⟨A1,c1,rfl⟩:=Kd.R_slice hv
   exact ⟨A1,c1,rfl,hv,hbl⟩
theorem c4n (b : List Int) : Bytes (a1h b):=λ x hx=>by
 unfold a1h at hx
 rcases List.mem_append.1 hx with h | h
 · exact a4i _ x h
 · exact a4i _ x h
theorem b4W {b : List Int} (hb : Bytes b) (hl : b.length <= 40000) (h0 : 0 < b.length) : 0 < (a1h b).length /\ (a1h b).length <= 710000:=by
 have hn:=a7a hb (by omega) h0
 have HCan : canM (zeroR b : Nat) true [zeroQ b] b = true:=a4p (one:=true) hb (by omega) h0
 have hF:=a4X (a4Y HCan).1 hb
 have e2 : (2 : Int) ^ zeroR b = ((2 ^ zeroR b : Nat) : Int):=by simp
 have h1:=a4q hn.r12 hn.len hn.nn 257 0 (2 ^ zeroR b) (by omega) (by rw [List.drop_zero,hn.sum,e2]) (by rw [Nat.pow_succ]; have:=Nat.two_pow_pos (zeroR b); omega)
 have h2 : (256 - 0) * (zeroR b + 3) <= 256 * 15:=Nat.mul_le_mul (by omega) (by have:=hn.r12; omega)
 unfold a1h
 rw [List.length_append,a0s,a0s]
 unfold headB
 rw [List.length_append,a0F,List.length_append,List.length_singleton]
 omega
set_option maxRecDepth 100000 in
theorem b4X (A B : Option Addr) (ca cb : Nat) (a b : List Int) (w : World) (ha : (Kd.int .u8).C w A a.length a) (hb : (Kd.int .u8).C w B b.length b) (hya : Bytes a) (hyb : Bytes b) :
    Calls Tryz.prog 29 #[.slice A a.length ca,.slice B b.length cb] w λ e w'=>e = .returned (.bool (decide (a = b))) /\ w = w':=by
 have h1:=Kd.C_string (P:=Tryz.prog) (c:=ca) Tryz.underlying29 Tryz.underlying5 Tryz.underlying9 ha
 have h2:=Kd.C_string (P:=Tryz.prog) (c:=cb) Tryz.underlying29 Tryz.underlying5 Tryz.underlying9 hb
 rw [<- c2N hya hyb]
 obtain ⟨x,hx⟩ : ∃ x,x = strOfNums a:=⟨_,rfl⟩
 obtain ⟨y,hy⟩ : ∃ y,y = strOfNums b:=⟨_,rfl⟩
 rw [<- hx] at h1 ⊢
 rw [<- hy] at h2 ⊢
 clear hx hy ha hb hya hyb
 go_enter Tryz.func29,Tryz.ntmps29
 go_wp2_with fail
 go_ret
 exact ⟨rfl,rfl⟩
theorem a7c (A B : Option Addr) (ca cb : Nat) (p : List Int) (w : World) (ha : (Kd.int .u8).C w A p.length p) (hb : (Kd.int .u8).C w B p.length p) (hp : Bytes p) : Calls Tryz.prog 29 #[.slice A p.length ca,.slice B p.length cb] w (λ e w'=>e = .returned (.bool true) /\ w = w'):=by
 have:=b4X A B ca cb p p w ha hb hp hp
 rw [decide_eq_true rfl] at this; exact this
structure BSl (w : World) (A : Option Addr) (c : Nat) (p : List Int) : Prop where
 row : (Kd.int .u8).C w A p.length p
 cap : p.length <= c
 nil : A = none -> c = 0
 by' : Bytes p
theorem BSl.below {w w' : World} {A : Option Addr} {c : Nat} {p : List Int} (h : BSl w A c p) (hb : Below w.heap.size w w') : BSl w' A c p:=⟨Kd.C_below h.row hb,h.cap,h.nil,h.by'⟩
theorem BSl.of {w : World} {A : Option Addr} {c n base : Nat} {p : List Int} {ok : Nat -> Prop} (h : (Kd.int .u8).R 5 w base ok (.slice A n c) p) (hp : Bytes p) : BSl w A c p:=by
 obtain ⟨e,h2,h3⟩:=Kd.R_reads' h
 refine ⟨h3,by omega,λ ha=>?_,hp⟩
 obtain ⟨_,inner,⟨_,ho⟩,_⟩:=h
 rcases ho with ⟨h4,_⟩ | ⟨g,cap,cur,h4,_⟩
 · cases h4; rfl
 · rw [ha] at h4; cases h4
theorem Told.out {k : Int} {y : List Int} {w : World} {e : Ending} {w' : World} (h : Told k y w e w') (hy : Bytes y) : ∃ A c,e = .returned (.tuple #[.slice A y.length c,.int .i64 k]) /\ BSl w' A c y /\ Below w.heap.size w w':=by
 obtain ⟨A,c,he,hr,hb⟩:=h
 exact ⟨A,c,he,BSl.of hr hy,hb⟩
theorem c4o {w : World} (xs : List Int) (hx : Bytes xs) (hl : xs.length <= 1000000) : BSl (w.alloc (.cells (xs.map (Value.int .u8)).toArray 5)) (some ⟨w.heap.size,0,none⟩) xs.length xs:=
 BSl.of (a2a .u8 5 w w.heap.size (λ _=>True) trivial (Nat.le_refl _) xs hl) hx
theorem BSl.str {w : World} {A : Option Addr} {c : Nat} {p : List Int} (h : BSl w A c p) : (convert 29 9 (.slice A p.length c)).run Tryz.prog w = .ok (.string (strOfNums p)) w:=
 Kd.C_string Tryz.underlying29 Tryz.underlying5 Tryz.underlying9 h.row
def tabN (i : Nat) : List Nat:=(List.range 256).map (λ j=>if j < i then a2i j else 0)
theorem a9t (i : Nat) : (tabN i).length = 256:=by simp [tabN]
theorem c4p {i j : Nat} (h : j < 256) : (tabN i).getD j 0 = if j < i then a2i j else 0:=by
 unfold tabN
 rw [List.getD_eq_getElem?_getD,List.getElem?_map,List.getElem?_range h]; rfl
theorem c4q {i : Nat} : (tabN i).set i (a2i i) = tabN (i + 1):=by
 apply List.ext_getElem?
 intro j
 rw [List.getElem?_set,a9t]
 unfold tabN
 rw [List.getElem?_map,List.getElem?_map]
 by_cases hj : j < 256
 · rw [List.getElem?_range hj]
   by_cases e : i = j
   · subst e; rw [if_pos rfl,if_pos hj]; simp
   · rw [if_neg e]
     simp only [Option.map_some]
     by_cases h1 : j < i
     · rw [if_pos h1,if_pos (by omega)]
     · rw [if_neg h1,if_neg (by omega)]
 · have hn : (List.range 256)[j]? = none:=List.getElem?_eq_none (by simp; omega)
   rw [hn]
   by_cases e : i = j
   · subst e; rw [if_pos rfl,if_neg hj]; rfl
   · rw [if_neg e]; rfl
def TabAt (p i : Nat) (w : World) : Prop:=w.heap[p]? = some (.cells ((tabN i).map (λ (n : Nat)=>Value.int .u32 (n : Int))).toArray 96 (0,0))
theorem TabAt.cell {p i : Nat} {w : World} (h : TabAt p i w) {c : Nat} (hc : c < 256) : w.cell? ⟨p,c,none⟩ = some (.int .u32 ((if c < i then a2i c else 0 : Nat) : Int)) /\ w.frozen? ⟨p,c,none⟩ = false:=by
 refine ⟨(a0a h c).trans ?_,a0c h c⟩
 have hg:=c4p (i:=i) hc
 rw [List.getD_eq_getElem?_getD] at hg
 rw [List.getElem?_toArray,List.getElem?_map,List.getElem?_eq_getElem (by rw [a9t]; exact hc)]
 rw [List.getElem?_eq_getElem (by rw [a9t]; exact hc),Option.getD_some] at hg
 rw [Option.map_some,hg]
theorem TabAt.next {p i : Nat} {w : World} (h : TabAt p i w) : TabAt p (i + 1) (w.setCell ⟨p,i,none⟩ (.int .u32 (a2i i : Nat))):=by
 unfold TabAt at h ⊢
 rw [a0h h i,<- c4q]
 congr 2
 rw [List.map_set]; simp
theorem c4r : Tryz.zeroCells96 = ((tabN 0).map (λ (n : Nat)=>Value.int .u32 (n : Int))).toArray:=by kernel_rfl
theorem c4s {x : Nat} (h : x < 4294967296) : bits .xor .u32 ((x : Int) / 2) (IntKind.u32.wrap (3988292384 * bits .and .u32 (x : Int) 1)) = ((a1J x : Nat) : Int):=by
 have h1 : bits .and .u32 (x : Int) 1 = ((x % 2 : Nat) : Int):=by
  have:=u32_and_nat x 1 h (by decide)
  rw [nat_mask1] at this
  exact this
 have h2 : x % 2 < 2:=Nat.mod_lt _ (by decide)
 have h3 : IntKind.u32.wrap (3988292384 * ((x % 2 : Nat) : Int)) = ((3988292384 * (x % 2) : Nat) : Int):=by
  rw [IntKind.wrap_u32']; omega
 rw [h1,h3,show (x : Int) / 2 = ((x / 2 : Nat) : Int) by omega]
 exact u32_xor_nat _ _ (by omega) (by omega)
theorem b4Z {n : Nat} (h : n < 4294967296) : bits .xor .u32 IntKind.u32.max (n : Int) = ((4294967295 - n : Nat) : Int):=by
 have h1 : bits .xor .u32 IntKind.u32.max (n : Int) = ((4294967295 ^^^ n : Nat) : Int):=u32_xor_nat 4294967295 n (by decide) h
 have h2 : 4294967295 ^^^ n = 4294967295 - n:=by
  apply Nat.eq_of_testBit_eq
  intro i
  rw [Nat.testBit_xor,show 4294967295 - n = 2 ^ 32 - (n + 1) by omega,Nat.testBit_two_pow_sub_succ h,show (4294967295 : Nat) = 2 ^ 32 - 1 from rfl,Nat.testBit_two_pow_sub_one]
  cases hi : decide (i < 32) with
  | true=>simp
  | false=>
   have hi2:=of_decide_eq_false hi
   have : n.testBit i = false:=Nat.testBit_lt_two_pow (Nat.lt_of_lt_of_le h (Nat.pow_le_pow_right (by decide : 2 > 0) (by omega : 32 <= i)))
   simp [this]
 rw [h2] at h1; exact h1
theorem c4t (k i : Nat) : stepN (k + 1) i = a1J (stepN k i):=by rw [a4k]; rfl
def c4u (w : World) (e : Ending) (w' : World) : Prop:=∃ p,e = .returned (.pointer (some ⟨p,0,none⟩)) /\ w.heap.size <= p /\ TabAt p 256 w' /\ Below w.heap.size w w'
set_option maxRecDepth 100000 in
set_option maxHeartbeats 1000000 in
theorem a3J (w : World) : Calls Tryz.prog 44 #[] w (c4u w):=by
 obtain ⟨W,hW⟩ : ∃ W,W = w.alloc (.cells Tryz.zeroCells96 96):=⟨_,rfl⟩
 have hk : TabAt w.heap.size 0 W:=by unfold TabAt; rw [hW,<- c4r]; exact a0f _ _
 have hb : Below w.heap.size w W:=by rw [hW]; exact (Below.refl _ _).alloc (Nat.le_refl _) _
 have HK:=Lib.hid (And.intro hk hb)
 obtain ⟨p,hp⟩ : ∃ p,p = w.heap.size:=⟨_,rfl⟩
 have HP:=Lib.hid hp
 rw [<- hp] at HK
 clear hk hb
 go_enter Tryz.func44,Tryz.ntmps44
 go_wp2_with fail
 rw [<- hW,<- hp]
 clear hW hp
 go_wp2_with fail
 go_loopw [2,3,6] (λ _ _ kv wr=>∃ i : Nat,i <= 256 /\ kv = .int .i64 i /\ Hid (TabAt p i wr /\ Below p w wr)) (λ _ _ kv _=>256 - (intOf kv).toNat)
 case atStart=>exact ⟨0,by omega,rfl,HK⟩
 case round=>
  obtain ⟨i,hi,rfl,H⟩:=hrel
  by_cases hlt : i < 256
  · obtain ⟨cx,fx⟩:=H.out.1.cell hlt
    have hiI : (i : Int) < 256:=by omega
    have hiw : IntKind.u32.wrap (i : Int) = (i : Int):=by rw [IntKind.wrap_u32']; omega
    go_wp2_with fail
    go_loop [3,11] (λ xv kv=>∃ k : Nat,k <= 8 /\ xv = .int .u32 (stepN k i : Nat) /\ kv = .int .i64 k) (λ _ kv=>8 - (intOf kv).toNat)
    case atStart=>exact ⟨0,by omega,rfl,rfl⟩
    case round=>
     obtain ⟨k,hk,rfl,rfl⟩:=hrel
     by_cases hlk : k < 8
     · have hlkI : (k : Int) < 8:=by omega
       have HX:=Lib.hid (a6H k (x:=i) (by omega))
       have HE:=Lib.hid (c4t k i)
       obtain ⟨x,hx⟩ : ∃ x,x = stepN k i:=⟨_,rfl⟩
       rw [<- hx] at HX HE ⊢
       have HV:=Lib.hid (c4s (x:=x) HX.out)
       clear hx
       go_wp2_with fail
       go_round
       case rel=>exact ⟨k + 1,by omega,by rw [HE.out]; exact congrArg _ HV.out,by go_num⟩
       case measure=>simp [intOf]; omega
     · obtain rfl : k = 8:=by omega
       have HT:=Lib.hid H.out.1.next
       obtain ⟨x,hx⟩ : ∃ x,x = stepN 8 i:=⟨_,rfl⟩
       have hx2 : a2i i = x:=hx.symm
       rw [hx2] at HT
       rw [<- hx]
       clear hx hx2
       go_wp2_with fail
       go_roundw
       case rel=>exact ⟨i + 1,by omega,by go_num,Lib.hid ⟨HT.out,H.out.2.setCell (Nat.le_refl _) _⟩⟩
       case measure=>simp [intOf]; omega
  · obtain rfl : i = 256:=by omega
    go_wp2_with fail
    go_ret
    exact ⟨p,rfl,by have:=HP.out; omega,H.out.1,by rw [<- HP.out]; exact H.out.2⟩
set_option maxRecDepth 100000 in
set_option maxHeartbeats 1000000 in
theorem b5a (p s : Nat) (A : Option Addr) (c : Nat) (b : List Int) (w : World) (hp : TabAt p 256 w) (hs : s <= 4294967295) (hr : (Kd.int .u8).C w A b.length b) (hl : b.length <= 1000000) (hb : Bytes b) :
    Calls Tryz.prog 62 #[.pointer (some ⟨p,0,none⟩),.int .u32 s,.slice A b.length c] w (λ e w'=>e = .returned (.int .u32 (a0L s b)) /\ w = w'):=by
 have HR:=Lib.hid (And.intro hr hb)
 have HP:=Lib.hid hp
 have HS:=Lib.hid hs
 have hn:=b4Z (n:=s) (by omega)
 obtain ⟨x0,hx0⟩ : ∃ x,x = 4294967295 - s:=⟨_,rfl⟩
 rw [<- hx0] at hn
 have HX0:=Lib.hid hx0
 clear hr hb hp hs hx0
 go_enter Tryz.func62,Tryz.ntmps62
 go_wp2_with fail
 go_loop [7,9,14] (λ xv _ kv=>∃ i : Nat,i <= b.length /\ xv = .int .u32 (crcS x0 (b.take i) : Nat) /\ kv = .int .i64 i) (λ _ _ kv=>b.length - (intOf kv).toNat)
 case atStart=>exact ⟨0,by omega,rfl,rfl⟩
 case round=>
  obtain ⟨i,hi,rfl,rfl⟩:=hrel
  by_cases hlt : i < b.length
  · obtain ⟨ad,hA,hcx⟩:=a0u HR.out.1 i hlt
    subst hA
    have hby:=HR.out.2.get i
    have hE : b.take (i + 1) = b.take i ++ [b.getD i 0]:=by rw [List.take_succ_eq_append_getElem hlt,List.getD_eq_getElem?_getD,List.getElem?_eq_getElem hlt]; rfl
    have HE : Hid (crcS x0 (b.take (i + 1)) = a1y (crcS x0 (b.take i)) (b.getD i 0).toNat):=Lib.hid (by rw [hE,a8G]; rfl)
    have HXl:=Lib.hid (a4l (b.take i) (x:=x0) (by have:=HX0.out; omega) (λ y hy=>HR.out.2 y (List.mem_of_mem_take hy)))
    obtain ⟨y,hy⟩ : ∃ y : Nat,b.getD i 0 = y:=⟨(b.getD i 0).toNat,by omega⟩
    rw [hy] at hcx hby HE
    rw [Int.toNat_natCast] at HE
    have hy8 : y < 256:=by omega
    obtain ⟨x,hx⟩ : ∃ x,x = crcS x0 (b.take i):=⟨_,rfl⟩
    rw [<- hx] at HE HXl ⊢
    have hxl : x < 4294967296:=HXl.out
    have hm8 : x % 256 < 256:=Nat.mod_lt _ (by decide)
    have hj8 : (x % 256) ^^^ y < 256:=Nat.xor_lt_two_pow (n:=8) hm8 hy8
    obtain ⟨cj,fj⟩:=HP.out.cell hj8
    rw [if_pos hj8] at cj
    have hjx:=u8_xor_nat (x % 256) y hm8 hy8
    have ht:=a6H 8 (x:=(x % 256) ^^^ y) (by omega)
    have hfin:=u32_xor_nat (x / 256) (a2i ((x % 256) ^^^ y)) (by omega) ht
    have hu : a1y x y = x / 256 ^^^ a2i ((x % 256) ^^^ y):=rfl
    rw [<- hu] at hfin
    have hmw : IntKind.u8.wrap (x : Int) = ((x % 256 : Nat) : Int):=by rw [IntKind.wrap_u8']; omega
    have hdw : (x : Int) / 256 = ((x / 256 : Nat) : Int):=by omega
    obtain ⟨z,hz⟩ : ∃ z,z = a1y x y:=⟨_,rfl⟩
    obtain ⟨j,hj⟩ : ∃ j,j = (x % 256) ^^^ y:=⟨_,rfl⟩
    obtain ⟨t,htt⟩ : ∃ t,t = a2i j:=⟨_,rfl⟩
    rw [<- hj] at cj hj8 hjx hfin fj
    rw [<- htt] at cj hfin
    rw [<- hz] at hfin HE
    obtain ⟨m,hm⟩ : ∃ m,m = x % 256:=⟨_,rfl⟩
    obtain ⟨d,hd⟩ : ∃ d,d = x / 256:=⟨_,rfl⟩
    rw [<- hm] at hjx hmw hm8
    rw [<- hd] at hdw hfin
    have hiI : (i : Int) < (b.length : Int):=by omega
    have hjI : (j : Int) < 256:=by omega
    clear hby hE hy hx hu hz hj htt hm hd ht
    go_wp2_with fail
    go_round
    case rel=>exact ⟨i + 1,by omega,by rw [HE.out],by go_num⟩
    case measure=>simp [intOf]; omega
  · obtain rfl : i = b.length:=by omega
    rw [List.take_length]
    have HF:=Lib.hid (a4l b (x:=x0) (by have:=HX0.out; omega) HR.out.2)
    have HN:=Lib.hid (b4Z (n:=crcS x0 b) HF.out)
    have HC : Hid (a0L s b = 4294967295 - crcS x0 b):=Lib.hid (by unfold a0L; rw [HX0.out])
    obtain ⟨x,hx⟩ : ∃ x,x = crcS x0 b:=⟨_,rfl⟩
    rw [<- hx] at HN HC ⊢
    clear hx hi hlt
    go_wp2_with fail
    go_ret
    refine ⟨?_,rfl⟩
    rw [HC.out,HN.out]; rfl
set_option maxRecDepth 100000 in
theorem a5m (p : Nat) (A : Option Addr) (c : Nat) (b : List Int) (w : World) (hp : TabAt p 256 w) (hr : (Kd.int .u8).C w A b.length b) (hl : b.length <= 1000000) (hb : Bytes b) :
    Calls Tryz.prog 49 #[.pointer (some ⟨p,0,none⟩),.slice A b.length c] w (λ e w'=>e = .returned (.int .u32 (a0L 0 b)) /\ w = w'):=by
 have H:=Lib.hid (b5a p 0 A c b w hp (by decide) hr hl hb)
 clear hp hr hl hb
 go_enter Tryz.func49,Tryz.ntmps49
 go_wp2_with fail
 refine H.out.mono ?_
 rintro e w' ⟨rfl,rfl⟩
 go_wp2_with fail
 go_ret
 exact ⟨rfl,rfl⟩
theorem TabAt.later {p i : Nat} {w w' : World} (h : TabAt p i w) (hb : Below w.heap.size w w') : TabAt p i w':=a0e h hb
end Go.Proofs.YtamimiomglipmaaGreat
namespace Go.Proofs.YtamimiomglipmaaGreat
open Go.RowKit
def dirB (l : List Int) : List Bool:=(List.range 256).map (λ (c : Nat)=>decide ((c : Int) ∈ l))
def dirL (l : List Int) : List Int:=packB (dirB l)
theorem a3l (l : List Int) : (dirB l).length = 256:=by simp [dirB]
theorem a3K (l : List Int) : (dirL l).length = 32:=by unfold dirL; rw [a0s,a3l]
def hdrsB (r : Nat) (qs : List (List Int)) : List Int -> List Bool
 | []=>[]
 | c :: l=>hdrB (qs.getD c.toNat []) 257 0 (2 ^ r) ++ hdrsB r qs l
def a1c (b : List Int) : List Int:=[(a0m b : Int)] ++ dirL (presN b 256) ++ packB (hdrsB (a0m b) (a0w b) (presN b 256)) ++ packB (a0S (a0m b : Nat) false (a0w b) b ++ [true])
theorem a9u (b : List Int) (c : Nat) (hc : c < 256) : (c : Int) ∈ presN b 256 ↔ 0 < (a0j b (c : Int)).length:=by
 unfold presN
 constructor
 · intro h
   obtain ⟨d,hd,e⟩:=List.mem_map.1 h
   obtain ⟨_,h2⟩:=List.mem_filter.1 hd
   have : d = c:=by omega
   subst this; exact of_decide_eq_true h2
 · intro h
   exact List.mem_map.2 ⟨c,List.mem_filter.2 ⟨List.mem_range.2 hc,by simpa using h⟩,rfl⟩
theorem b5d {b : List Int} (h0 : 0 < b.length) : (presN b 256).getD 0 1 = 0:=by
 have h1 : (0 : Int) ∈ presN b 256:=(a9u b 0 (by omega)).2 (by
  refine List.length_pos_iff_exists_mem.2 ⟨b.getD 0 0,?_⟩
  unfold a0j pkL
  exact List.mem_map.2 ⟨0,List.mem_filter.2 ⟨List.mem_range.2 h0,decide_eq_true (a6C b h0)⟩,rfl⟩)
 have h2 : presN b 256 = ((List.range 256).filter (λ (c : Nat)=>decide (0 < (a0j b (c : Int)).length))).map (λ (c : Nat)=>(c : Int)):=rfl
 have h3 : 0 < (a0j b ((0 : Nat) : Int)).length:=(a9u b 0 (by omega)).1 h1
 have h4 : List.range 256 = 0 :: (List.range 255).map Nat.succ:=List.range_succ_eq_map
 rw [h2,h4,List.filter_cons,if_pos (by simpa using h3)]
 rfl
theorem a9v {b : List Int} (hb : Bytes b) (hl : b.length <= 1000000) {c : Nat} (hc : c < 256) (h0 : 0 < (a0j b (c : Int)).length) : (a0Y b c).length = 256 /\ (∀ x ∈ a0Y b c,0 <= x) /\ (a0Y b c).sum = 2 ^ a0m b:=by
 have h:=a4n (a6R hb hl hc h0)
 unfold a0Y; rw [if_pos h0]
 exact ⟨h.1.len,h.1.nonneg,h.2.1⟩
def putN (l : List Int) : Nat -> Nat
 | 0=>0
 | i + 1=>(l.getD i 0).toNat + 1
structure Asc (l : List Int) : Prop where
 first : l.getD 0 1 = 0
 asc : ∀ i,i + 1 < l.length -> l.getD i 0 < l.getD (i + 1) 0
 lo : ∀ x ∈ l,0 <= x
 hi : ∀ x ∈ l,x < 256
theorem Asc.pos {l : List Int} (h : Asc l) : 0 < l.length:=by
 rcases Nat.eq_zero_or_pos l.length with e | e
 · have:=h.first
   rw [List.eq_nil_of_length_eq_zero e] at this; cases this
 · exact e
theorem Asc.zero {l : List Int} (h : Asc l) : l.getD 0 0 = 0:=by
 have h1:=h.first
 have h2:=h.pos
 rw [List.getD_eq_getElem?_getD,List.getElem?_eq_getElem h2,Option.getD_some] at h1 ⊢
 exact h1
theorem Asc.lt {l : List Int} (h : Asc l) : ∀ (d i : Nat),i + d + 1 < l.length -> l.getD i 0 < l.getD (i + d + 1) 0:=by
 intro d
 induction d with
 | zero=>intro i hi; exact h.asc i hi
 | succ d ih=>
  intro i hi
  have h1:=ih i (by omega)
  have h2:=h.asc (i + d + 1) (by omega)
  rw [show i + (d + 1) + 1 = i + d + 1 + 1 by omega]
  omega
theorem Asc.lt' {l : List Int} (h : Asc l) {i j : Nat} (hij : i < j) (hj : j < l.length) : l.getD i 0 < l.getD j 0:=by
 have:=h.lt (j - i - 1) i (by omega)
 rwa [show i + (j - i - 1) + 1 = j by omega] at this
theorem Asc.get {l : List Int} (h : Asc l) {i : Nat} (hi : i < l.length) : ∃ c : Nat,l.getD i 0 = c /\ c < 256:=by
 have hm:=a1p hi
 have h1:=h.lo _ hm
 have h2:=h.hi _ hm
 exact ⟨(l.getD i 0).toNat,by omega,by omega⟩
theorem Asc.put_le {l : List Int} (h : Asc l) {i c : Nat} (hi : i < l.length) (hc : l.getD i 0 = c) : putN l i <= c:=by
 cases i with
 | zero=>exact Nat.zero_le _
 | succ i=>
  have h1:=h.asc i hi
  have h2:=h.lo _ (a1p (show i < l.length by omega))
  show (l.getD i 0).toNat + 1 <= c
  omega
theorem a9w {l : List Int} {x : Int} (h : x ∈ l) : ∃ j,j < l.length /\ l.getD j 0 = x:=by
 obtain ⟨j,hj,rfl⟩:=List.getElem_of_mem h
 exact ⟨j,hj,by rw [List.getD_eq_getElem?_getD,List.getElem?_eq_getElem hj,Option.getD_some]⟩
theorem a9x (l : List Int) {n : Nat} (hn : n < 256) : (dirB l).getD n false = decide ((n : Int) ∈ l):=by
 rw [List.getD_eq_getElem?_getD,List.getElem?_eq_getElem (by rw [a3l]; omega),Option.getD_some]
 simp [dirB]
theorem Asc.gap {l : List Int} (h : Asc l) {i n c : Nat} (hi : i < l.length) (hc : l.getD i 0 = c) (h1 : putN l i <= n) (h2 : n < c) : (n : Int) ∉ l:=by
 intro hm
 obtain ⟨j,hj,e⟩:=a9w hm
 rcases Nat.lt_trichotomy j i with hlt | heq | hgt
 · cases i with
   | zero=>omega
   | succ i=>
    have h3 : (l.getD i 0).toNat + 1 <= n:=h1
    by_cases hji : j = i
    · subst hji; omega
    · have:=h.lt' (show j < i by omega) (by omega); omega
 · subst heq; omega
 · have:=h.lt' hgt hj; omega
theorem Asc.behind {l : List Int} (h : Asc l) {n : Nat} (h1 : putN l l.length <= n) : (n : Int) ∉ l:=by
 intro hm
 obtain ⟨j,hj,e⟩:=a9w hm
 obtain ⟨m,hm2⟩ : ∃ m,l.length = m + 1:=⟨l.length - 1,by omega⟩
 rw [hm2] at h1
 have h3 : (l.getD m 0).toNat + 1 <= n:=h1
 by_cases hjm : j = m
 · subst hjm; omega
 · have:=h.lt' (show j < m by omega) (by omega); omega
theorem c4A {l : List Int} (h : Asc l) {i n c : Nat} (hi : i < l.length) (hc : l.getD i 0 = c) (hc2 : c < 256) (h1 : putN l i <= n) (h2 : n < c) : (dirB l).take (n + 1) = (dirB l).take n ++ [false]:=by
 have hl:=a3l l
 rw [List.take_succ_eq_append_getElem (by omega)]
 congr 2
 have h3:=a9x l (n:=n) (by omega)
 rw [decide_eq_false (h.gap hi hc h1 h2),List.getD_eq_getElem?_getD,List.getElem?_eq_getElem (by omega),Option.getD_some] at h3
 exact h3
theorem c4B {l : List Int} {i c : Nat} (hi : i < l.length) (hc : l.getD i 0 = c) (hc2 : c < 256) : (dirB l).take (putN l (i + 1)) = (dirB l).take c ++ [true]:=by
 have hl:=a3l l
 have e : putN l (i + 1) = c + 1:=by show (l.getD i 0).toNat + 1 = _; omega
 rw [e,List.take_succ_eq_append_getElem (by omega)]
 congr 2
 have h3:=a9x l (n:=c) hc2
 rw [decide_eq_true (by rw [<- hc]; exact a1p hi),List.getD_eq_getElem?_getD,List.getElem?_eq_getElem (by omega),Option.getD_some] at h3
 exact h3
theorem c4C (bs : List Bool) (n : Nat) (hn : n <= bs.length) (h : ∀ k,n <= k -> bs.getD k false = false) : packB bs = packB (bs.take n) ++ List.replicate ((bs.length + 7) / 8 - (n + 7) / 8) 0:=by
 apply List.ext_getElem
 · rw [a0s,List.length_append,a0s,List.length_replicate,List.length_take]; omega
 · intro j h1 h2
   rw [a2h]
   rw [a0s] at h1
   have hb : ∀ (a b : List Bool),(∀ k,a.getD k false = b.getD k false) -> a.length <= b.length -> byteL a = byteL b:=by
    intro a b hab hle
    have e : b = a ++ List.replicate (b.length - a.length) false:=by
     apply List.ext_getElem
     · rw [List.length_append,List.length_replicate]; omega
     · intro k k1 k2
       have:=hab k
       rw [List.getD_eq_getElem?_getD,List.getD_eq_getElem?_getD,List.getElem?_eq_getElem k1,Option.getD_some] at this
       by_cases hk : k < a.length
       · rw [List.getElem?_eq_getElem hk,Option.getD_some] at this
         rw [List.getElem_append_left hk]; exact this.symm
       · rw [List.getElem?_eq_none (by omega)] at this
         rw [List.getElem_append_right (by omega),List.getElem_replicate]; exact this.symm
    have z : ∀ m,byteL (a ++ List.replicate m false) = byteL a:=by
     intro m
     induction m with
     | zero=>simp
     | succ m ih=>rw [List.replicate_succ',<- List.append_assoc,a3H,ih]; simp
    rw [e,z]
   by_cases hj : j < (packB (bs.take n)).length
   · rw [List.getElem_append_left hj,a2h]
     congr 1
     symm
     refine hb _ _ (λ k=>?_) ?_
     · simp only [List.getD_eq_getElem?_getD,List.getElem?_take,List.getElem?_drop]
       by_cases hk : k < 8
       · rw [if_pos hk,if_pos hk]
         by_cases hk2 : 8 * j + k < n
         · rw [if_pos hk2]
         · rw [if_neg hk2]
           have:=h (8 * j + k) (by omega)
           rw [List.getD_eq_getElem?_getD] at this
           rw [this]; rfl
       · rw [if_neg hk,if_neg hk]
     · simp only [List.length_take,List.length_drop]; omega
   · rw [List.getElem_append_right (by omega),List.getElem_replicate]
     rw [a0s,List.length_take,Nat.min_eq_left hn] at hj
     have : byteL ((bs.drop (8 * j)).take 8) = byteL []:=by
      symm
      refine hb _ _ (λ k=>?_) (by simp)
      simp only [List.getD_eq_getElem?_getD,List.getElem?_take,List.getElem?_drop,List.getElem?_nil]
      by_cases hk : k < 8
      · rw [if_pos hk]
        have:=h (8 * j + k) (by omega)
        rw [List.getD_eq_getElem?_getD] at this
        rw [this]; rfl
      · rw [if_neg hk]
     rw [this]; rfl
theorem c4D {l : List Int} (h : Asc l) : dirL l = packB ((dirB l).take (putN l l.length)) ++ List.replicate (32 - ((putN l l.length) + 7) / 8) 0:=by
 have hl:=a3l l
 have hn : putN l l.length <= 256:=by
  have hp:=h.pos
  obtain ⟨m,hm2⟩ : ∃ m,l.length = m + 1:=⟨l.length - 1,by omega⟩
  rw [hm2]
  show (l.getD m 0).toNat + 1 <= 256
  have:=h.hi _ (a1p (show m < l.length by omega)); omega
 have:=c4C (dirB l) (putN l l.length) (by omega) (λ k hk=>by
  by_cases hk2 : k < 256
  · rw [a9x l hk2,decide_eq_false (h.behind hk)]
  · rw [List.getD_eq_getElem?_getD,List.getElem?_eq_none (by omega)]; rfl)
 rw [hl] at this
 exact this
theorem c4E {b : List Int} (h0 : 0 < b.length) : Asc (presN b 256):=by
 refine ⟨b5d h0,λ i hi=>?_,λ x hx=>?_,λ x hx=>?_⟩
 · have hp : (presN b 256).Pairwise (· < ·):=by
     unfold presN
     rw [List.pairwise_map]
     refine List.Pairwise.filter _ (List.Pairwise.imp (λ h=>?_) List.pairwise_lt_range)
     omega
   have:=List.pairwise_iff_getElem.1 hp i (i + 1) (by omega) hi (by omega)
   rw [List.getD_eq_getElem?_getD,List.getElem?_eq_getElem (by omega),List.getD_eq_getElem?_getD,List.getElem?_eq_getElem hi]
   exact this
 · unfold presN at hx
   obtain ⟨c,_,rfl⟩:=List.mem_map.1 hx; omega
 · unfold presN at hx
   obtain ⟨c,hc,rfl⟩:=List.mem_map.1 hx
   have:=List.mem_range.1 (List.mem_filter.1 hc).1; omega
open Go.IntWalk Go.Proofs.YtamimiomglipmaaGreatW.PrintWords
theorem b5e {κ : IntKind} {w : World} {A : Option Addr} {xs : List Int} (h : (Kd.int κ).C w A xs.length xs) (k : Nat) (hk : k <= xs.length) : (Kd.int κ).C w A k (xs.take k):=by
 obtain ⟨h1,h2,h3⟩:=h
 refine ⟨by rw [List.length_take]; omega,by omega,λ h0=>?_⟩
 obtain ⟨ad,e,hc⟩:=h3 (by omega)
 refine ⟨ad,e,λ j p hj=>hc j p ?_⟩
 rw [List.getElem?_take] at hj
 split at hj
 · exact hj
 · cases hj
theorem BSl.cut {w : World} {A : Option Addr} {c : Nat} {p : List Int} (h : BSl w A c p) {k : Nat} (hk : k <= p.length) : BSl w A c (p.take k):=
 ⟨by have:=b5e h.row k hk; rwa [List.length_take,Nat.min_eq_left hk],by rw [List.length_take]; have:=h.cap; omega,h.nil,λ x hx=>h.by' x (List.mem_of_mem_take hx)⟩
theorem a9y (A : Option Addr) (n c k : Nat) (hk : k <= n) (hn : n <= c) : ∀ W : World,(Instr.slice 29 (.slice A n c) none (some (.int .i64 (k : Int))) none).run Tryz.prog W = .ok (.slice A k c) W:=by
 intro W
 obtain ⟨i0,hi0,_⟩:=Option.map_eq_some_iff.1 a0y
 have:=b0I (P:=Tryz.prog) (W:=W) 29 5 .i64 Tryz.underlying29 hi0 A n c (k : Int) (by omega) (by omega) hn
 simpa using this
end Go.Proofs.YtamimiomglipmaaGreat
namespace Go.Proofs.YtamimiomglipmaaGreat
open Go.RowKit
theorem a9A {x : Int} {l : List Int} (hx : 0 <= x /\ x < 256) (hl : Bytes l) : Bytes (x :: l):=λ y hy=>by
 rcases List.mem_cons.1 hy with h | h
 · rw [h]; exact hx
 · exact hl y h
theorem a1l {a b : List Int} (ha : Bytes a) (hb : Bytes b) : Bytes (a ++ b):=λ y hy=>by
 rcases List.mem_append.1 hy with h | h
 · exact ha y h
 · exact hb y h
theorem b5l (b : List Int) : Bytes (a1c b):=by
 unfold a1c
 have hr:=a2M b
 exact a1l (a1l (a1l (a9A (by omega) (λ x hx=>by cases hx)) (a4i _)) (a4i _)) (a4i _)
theorem c4I {b : List Int} (hb : Bytes b) (hl : b.length <= 1000000) : ∀ (d i : Nat),i + d = (presN b 256).length -> (hdrsB (a0m b) (a0w b) ((presN b 256).drop i)).length <= d * 3840:=by
 intro d
 induction d with
 | zero=>intro i hi; rw [List.drop_of_length_le (by omega)]; simp [hdrsB]
 | succ d ih=>
  intro i hi
  have hlt : i < (presN b 256).length:=by omega
  obtain ⟨c,hc,hc256,hpk⟩:=a8V b hlt
  have hr:=a2M b
  have hd : (presN b 256).drop i = (c : Int) :: (presN b 256).drop (i + 1):=by rw [a4j _ _ hlt,hc]
  have hq : (a0w b).getD c [] = a0Y b c:=a6S b hc256
  obtain ⟨n1,n2,n3⟩:=a9v hb hl hc256 hpk
  have e2 : (2 : Int) ^ a0m b = ((2 ^ a0m b : Nat) : Int):=by simp
  have h1:=a4q (r:=a0m b) (by omega) n1 n2 257 0 (2 ^ a0m b) (by omega) (by rw [List.drop_zero,n3,e2]) (by rw [Nat.pow_succ]; have:=Nat.two_pow_pos (a0m b); omega)
  have h2 : (256 - 0) * (a0m b + 3) <= 256 * 15:=Nat.mul_le_mul (by omega) (by omega)
  rw [hd]
  simp only [hdrsB,Int.toNat_natCast,hq,List.length_append]
  have:=ih (i + 1) (by omega)
  omega
theorem b5m {b : List Int} (hb : Bytes b) (hl : b.length <= 40000) (h0 : 0 < b.length) : 33 < (a1c b).length /\ (a1c b).length <= 900000:=by
 have HCan : canM (a0m b : Nat) false (a0w b) b = true:=a4p (one:=false) hb (by omega) h0
 have hF:=a4X (a4Y HCan).1 hb
 have h1:=c4I hb (by omega) (presN b 256).length 0 (by omega)
 have h2:=a6L b 256
 rw [List.drop_zero] at h1
 unfold a1c
 simp only [List.length_append,List.length_singleton,a3K,a0s]
 omega
def a1A (b : List Int) : Bool:=decide (1 < b.length) && b.all (λ x=>decide (x = b.getD 0 0))
def a1m (kind : Int) (b : List Int) : Int × List Int:=
 if ¬ (kind = 0 \/ kind = 1) \/ 131072 < b.length \/ (kind = 1 /\ a1A b = false) then (1,[]) else if kind = 0 then (0,b) else (0,[b.getD 0 0])
def pickE (kind : Int) (b : List Int) : Int × List Int:=
 if kind < 0 \/ 3 < kind then (10,[]) else if kind <= 1 then a1m kind b else
 if b.length = 0 then (1,[]) else if kind = 2 then (0,a1h b) else (0,a1c b)
def a0P (k : Int) (b : List Int) (x : Int × List Int) : Int × List Int:=if (pickE k b).1 = 0 /\ (pickE k b).2.length < x.2.length then (k,(pickE k b).2) else x
def bestP (b : List Int) : Int × List Int:=a0P 3 b (a0P 2 b (a0P 1 b (0,b)))
theorem c4J {k : Int} {b : List Int} (hb : Bytes b) : Bytes (a1m k b).2:=by
 unfold a1m
 split
 · intro x hx; cases hx
 · split
   · exact hb
   · exact a9A (hb.get 0) (λ x hx=>by cases hx)
theorem c4K {k : Int} {b : List Int} (hb : Bytes b) : Bytes (pickE k b).2:=by
 unfold pickE
 repeat' split
 · intro x hx; cases hx
 · exact c4J hb
 · intro x hx; cases hx
 · exact c4n b
 · exact b5l b
theorem a9B {k : Int} {b : List Int} {x : Int × List Int} (hb : Bytes b) (hx : Bytes x.2) : Bytes (a0P k b x).2:=by
 unfold a0P; split
 · exact c4K hb
 · exact hx
theorem a5o {b : List Int} (hb : Bytes b) : Bytes (bestP b).2:=a9B hb (a9B hb (a9B hb hb))
theorem a7d (k : Int) (b : List Int) (x : Int × List Int) : (a0P k b x).2.length <= x.2.length /\ ((pickE k b).1 = 0 -> (a0P k b x).2.length <= (pickE k b).2.length):=by
 unfold a0P
 by_cases h : (pickE k b).1 = 0 /\ (pickE k b).2.length < x.2.length
 · rw [if_pos h]; exact ⟨by show (pickE k b).2.length <= _; omega,λ _=>Nat.le_refl _⟩
 · rw [if_neg h]; exact ⟨Nat.le_refl _,λ h0=>by omega⟩
theorem a1P (b : List Int) : (bestP b).2.length <= b.length:=by
 have h1:=(a7d 1 b (0,b)).1
 have h2:=(a7d 2 b (a0P 1 b (0,b))).1
 have h3:=(a7d 3 b (a0P 2 b (a0P 1 b (0,b)))).1
 unfold bestP
 have e : ((0 : Int),b).2.length = b.length:=rfl
 omega
structure BestOk (b : List Int) (x : Int × List Int) (upto : Int) : Prop where
 kind : 0 <= x.1 /\ x.1 <= upto
 is : pickE x.1 b = (0,x.2)
 least : ∀ j,0 <= j -> j <= upto -> (pickE j b).1 = 0 -> x.2.length <= (pickE j b).2.length /\ ((pickE j b).2.length = x.2.length -> x.1 <= j)
theorem a9C {b : List Int} {x : Int × List Int} {k : Int} (h : BestOk b x (k - 1)) (hk : 0 < k) : BestOk b (a0P k b x) k:=by
 unfold a0P
 by_cases hc : (pickE k b).1 = 0 /\ (pickE k b).2.length < x.2.length
 · rw [if_pos hc]
   refine ⟨⟨by show 0 <= k; omega,Int.le_refl _⟩,Prod.ext hc.1 rfl,λ j h0 hj he=>?_⟩
   by_cases e : j = k
   · subst e; exact ⟨Nat.le_refl _,λ _=>Int.le_refl _⟩
   · have:=h.least j h0 (by omega) he
     exact ⟨by show (pickE k b).2.length <= _; omega,λ e2=>by exfalso; have e3 : (pickE j b).2.length = (pickE k b).2.length:=e2; omega⟩
 · rw [if_neg hc]
   refine ⟨⟨h.kind.1,by have:=h.kind.2; omega⟩,h.is,λ j h0 hj he=>?_⟩
   by_cases e : j = k
   · subst e; exact ⟨by omega,λ _=>by have:=h.kind.2; omega⟩
   · exact h.least j h0 (by omega) he
theorem a9D {b : List Int} (hl : b.length <= 131072) : BestOk b (bestP b) 3:=by
 have h0 : pickE 0 b = (0,b):=by
  unfold pickE a1m
  rw [if_neg (by omega),if_pos (by omega),if_neg (by omega),if_pos rfl]
 have b0 : BestOk b (0,b) (1 - 1):=⟨⟨Int.le_refl 0,Int.le_refl 0⟩,h0,λ j h1 h2 _=>by
  have : j = 0:=by omega
  subst this; rw [h0]; exact ⟨Nat.le_refl _,λ _=>Int.le_refl _⟩⟩
 exact a9C (k:=3) (a9C (k:=2) (a9C (k:=1) b0 (by decide)) (by decide)) (by decide)
theorem a9E {b : List Int} (h : a1A b = true) : b = List.replicate b.length (b.getD 0 0) /\ 1 < b.length:=by
 unfold a1A at h
 simp only [Bool.and_eq_true,decide_eq_true_eq,List.all_eq_true] at h
 exact ⟨List.eq_replicate_iff.2 ⟨rfl,h.2⟩,h.1⟩
def leN (n k : Nat) : List Int:=(List.range k).map (λ i=>((n / 256 ^ i % 256 : Nat) : Int))
theorem a1B (n k : Nat) : (leN n k).length = k:=by simp [leN]
theorem a5p (n k : Nat) : Bytes (leN n k):=λ x hx=>by
 unfold leN at hx
 obtain ⟨i,_,rfl⟩:=List.mem_map.1 hx
 omega
theorem a9F (n k : Nat) : leN n (k + 1) = leN n k ++ [((n / 256 ^ k % 256 : Nat) : Int)]:=by simp [leN,List.range_succ]
def putM (b : List Int) (last : Bool) : List Int:=
 ((bestP b).1 + (if last then 4 else 0)) :: (leN b.length 3 ++ (leN (bestP b).2.length 3 ++ (leN (a0L 0 (bestP b).2) 4 ++ (bestP b).2)))
theorem a0J (b : List Int) (last : Bool) : (putM b last).length = 11 + (bestP b).2.length:=by
 unfold putM
 simp only [List.length_cons,List.length_append,a1B]; omega
theorem a9I {b : List Int} (hl : b.length <= 131072) : ∃ k : Nat,(bestP b).1 = k /\ k <= 3:=by
 have:=(a9D hl).kind
 exact ⟨(bestP b).1.toNat,by omega,by omega⟩
theorem a9J {b : List Int} (hb : Bytes b) (hl : b.length <= 131072) (last : Bool) : Bytes (putM b last):=by
 obtain ⟨k,hk,hk3⟩:=a9I hl
 unfold putM
 refine a9A ?_ (a1l (a5p _ _) (a1l (a5p _ _) (a1l (a5p _ _) (a5o hb))))
 rw [hk]; split <;> omega
end Go.Proofs.YtamimiomglipmaaGreat
namespace Go.Proofs.YtamimiomglipmaaGreat
open Go.RowKit Go.IntWalk Go.Proofs.YtamimiomglipmaaGreatW.PrintWords
attribute [local go_sem] Oper.semAt_some
theorem a3s {W : World} {B : Nat} {e : TypeId} {v : Value} {n : Nat} {xs : List Value} (h : W.ownsRow B e 1 v n xs) : ∃ A c,v = .slice A n c:=by
 rcases h.2 with ⟨rfl,rfl⟩ | ⟨g,cap,cur,rfl,_⟩
 · exact ⟨_,_,rfl⟩
 · exact ⟨_,_,rfl⟩
theorem RfAt.only {w w' : World} {base p : Nat} {ps : List Int} {at_ : Nat} {S : Nat -> Prop} (h : RfAt w base p ps at_) (ho : Only S w w') (hp : ¬ S p) (hs : ∀ k,base <= k -> k < p -> ¬ S k) : RfAt w' base p ps at_:=by
 obtain ⟨A,c,h1,h2⟩:=h.ex
 have hb:=λ k hk=>(Kd.R_bound h2).1 k hk
 refine ⟨A,c,(ho.block p (a0b h1) hp).trans h1,Kd.R_mono (Kd.R_step (Kd.R_tight (d:=Kd.int .u8) rfl h2) (λ k hk hlt=>ho.block k hlt ?_)) (λ k hk=>(hb k hk.symm).1)⟩
 have:=hb k hk.symm
 exact hs k this.2.1 this.1
theorem Only.grown {S : Nat -> Prop} {a b c : World} {row : Option Nat} (h : Only S a b) (hg : b.grownBy c row) (hs : ∀ k,row = some k -> S k) : Only S a c:=h.trans (Only.of_grown hg hs)
end Go.Proofs.YtamimiomglipmaaGreat
namespace Go.Proofs.YtamimiomglipmaaGreat
open Go.RowKit Go.IntWalk Go.Proofs.YtamimiomglipmaaGreatW.PrintWords
structure S1 (rbx mb mc p B r n0 : Nat) (ps : List Int) (qs : List (List Int)) (at_ : Nat) (w0 W : World) : Prop where
 rd : RfAt W B p ps at_
 kb : W.heap[rbx]? = some (.cells #[.pointer (some ⟨p,0,none⟩)] 144 (0,0))
 km : W.heap[mb]? = some (.cells #[.int .i64 r,.bool false,.slice (some ⟨mc,0,none⟩) 256 256] 119 (0,0))
 row : kq.R 128 W n0 (λ k=>k ≠ p /\ k ≠ rbx /\ k ≠ mb) (.slice (some ⟨mc,0,none⟩) 256 256) qs
 on : Below n0 w0 W
set_option maxRecDepth 100000 in
theorem c5h (A : Option Addr) (c pb pc : Nat) (b : List Int) (i : Nat) (k : Int) (w : World) (hpb : w.cell? ⟨pb,0,none⟩ = some (.slice A b.length c)) (hpc : w.cell? ⟨pc,0,none⟩ = some (.int .i64 k)) (hr : (Kd.int .u8).C w A b.length b) (hi : i < b.length) (hl : b.length <= 1000000) (hb : Bytes b) :
    Calls Tryz.prog 165 #[.int .i64 i,.pointer (some ⟨pb,0,none⟩),.pointer (some ⟨pc,0,none⟩)] w λ e w'=>e = .returned (.bool (decide (ctxI b i = k))) /\ ∃ n,w' = w.drewN n:=by
 have HN:=Lib.hid (λ W (h : Below w.heap.size w W)=>a6q A c b i W (Kd.C_below hr h) hi hl hb)
 obtain ⟨z,hz⟩ : ∃ z,z = ctxI b i:=⟨_,rfl⟩
 rw [<- hz] at HN ⊢
 clear hr hi hl hb hz
 go_enter Tryz.func165,Tryz.ntmps165
 go_wp2_with fail
 go_quiet ((go_at_call 133; refine Calls.quiet_of_same ((HN.out _ (a0i (Below.refl _ _) _)).mono λ e w' h=>⟨h.1,h.2.symm⟩)))
 all_goals
  go_wp2_with fail
  go_ret
  exact ⟨by first | rfl | exact a0Q rfl,_,rfl⟩
def c5i (b : List Int) (k : Int) (w : World) (e : Ending) (w' : World) : Prop:=∃ v,e = .returned v /\ (Kd.int .u8).R 5 w' w.heap.size (λ _=>True) v (a0j b k) /\ Below w.heap.size w w'
set_option maxRecDepth 100000 in
set_option maxHeartbeats 1000000 in
theorem c5j (A : Option Addr) (c cc pb pc : Nat) (b : List Int) (k : Int) (w : World) (hpb : w.cell? ⟨pb,0,none⟩ = some (.slice A b.length cc)) (hpbl : pb < w.heap.size) (hpc : w.cell? ⟨pc,0,none⟩ = some (.int .i64 k)) (hpcl : pc < w.heap.size) (hr : (Kd.int .u8).C w A b.length b) (hl : b.length <= 1000000) (hb : Bytes b) :
    Calls Tryz.prog 164 #[.slice A b.length c,.func (Fn.func 165) #[] #[.pointer (some ⟨pb,0,none⟩),.pointer (some ⟨pc,0,none⟩)]] w (c5i b k w):=by
 have HR:=Lib.hid (And.intro hr (And.intro hl (And.intro hb (And.intro hpbl hpcl))))
 have HCe:=Lib.hid (And.intro hpb hpc)
 clear hr hl hb hpb hpc hpbl hpcl
 go_enter Tryz.func164,Tryz.ntmps164
 go_wp2_with fail
 go_loopw [5,10] (λ v kv wr=>∃ i : Nat,i <= b.length /\ kv = .int .i64 i /\ Hid ((Kd.int .u8).R 5 wr w.heap.size (λ _=>True) v (pkL b k i) /\ Below w.heap.size w wr)) (λ _ kv _=>b.length - (intOf kv).toNat)
 case atStart=>exact ⟨0,by omega,rfl,Lib.hid ⟨by have : pkL b k 0 = []:=rfl; rw [this]; exact Kd.R_nil _ _ _ _ _,Below.refl _ _⟩⟩
 case round=>
  obtain ⟨i,hi,rfl,H⟩:=hrel
  by_cases hlt : i < b.length
  · obtain ⟨Av,cv,rfl⟩:=Kd.R_slice H.out.1
    have hbi:=HR.out.2.2.1 _ (a1p hlt)
    obtain ⟨y,hy⟩ : ∃ y : Nat,b.getD i 0 = y:=⟨(b.getD i 0).toNat,by omega⟩
    obtain ⟨ad,hA,hcx⟩:=a0u (Kd.C_below HR.out.1 H.out.2) i hlt
    rw [hy] at hcx
    subst hA
    have hcl:=a5f b k i
    have HLn : Hid (((pkL b k i).length + 1) * 1 <= 140737488355328):=by show _ <= _; have:=HR.out.2.1; omega
    have hl6 : b.length <= 1000000:=HR.out.2.1
    obtain ⟨L,hL⟩ : ∃ L,L = pkL b k i:=⟨_,rfl⟩
    have HL:=Lib.hid hL
    have HY:=Lib.hid (And.intro hy hbi)
    have hF:=c5h (some ad) cc pb pc b i k wr (by rw [H.out.2.cell (p:=⟨pb,0,none⟩) HR.out.2.2.2.1]; exact HCe.out.1) (by rw [H.out.2.cell (p:=⟨pc,0,none⟩) HR.out.2.2.2.2]; exact HCe.out.2) (Kd.C_below HR.out.1 H.out.2) hlt HR.out.2.1 HR.out.2.2.1
    have HF:=Lib.hid hF
    rw [<- hL] at H hcl HLn ⊢
    clear hF hy hbi hL
    by_cases hcond : ctxI b i = k
    · have HN : Hid (pkL b k (i + 1) = L ++ [(y : Int)]):=by show _ = _; rw [b3H hcond,<- HL.out,HY.out.1]
      have hd:=decide_eq_true hcond
      rw [hd] at HF
      clear hcond hd
      go_wp2_with fail
      refine HF.out.mono ?_
      rintro e w1 ⟨rfl,nq,rfl⟩
      obtain ⟨w2,hw2⟩ : ∃ w2,w2 = wr.drewN nq:=⟨_,rfl⟩
      have HB2 : Hid (Below w.heap.size w w2 /\ w.heap.size <= w2.heap.size):=by
       have h1 : Below w.heap.size w w2:=by rw [hw2]; exact a0i H.out.2 nq
       exact Lib.hid ⟨h1,h1.size⟩
      have HR2 : Hid ((Kd.int .u8).R 5 w2 w.heap.size (λ _=>True) (.slice Av L.length cv) L):=Lib.hid (by rw [hw2]; exact Kd.R_drewN H.out.1 nq)
      rw [<- hw2]
      clear hw2 hcx
      go_wp2_with (at_builtin; refine Kd.R_append (Kd.int .u8) (w0:=w) (W:=w2) w.heap.size rfl (.tmp 18) (.tmp 20) 29 5 (.int .u8 0) 1 rfl Tryz.underlying29 a0y rfl (by decide) (by decide) _ _ (y : Int) [.int .u8 y] (λ _=>True) (λ _=>False) rfl rfl rfl (λ _ h=>h.elim) (λ _ _=>trivial) HR2.out HB2.out.1 HB2.out.2 HLn.out ?_; intro v1 w3 hr3 hb3 hg3 hat3; have HA:=Lib.hid (And.intro hr3 hb3); clear hr3 hb3 hg3 hat3)
      go_roundw
      case rel=>exact ⟨i + 1,by omega,by go_num,Lib.hid ⟨by rw [HN.out]; exact HA.out.1,HA.out.2⟩⟩
      case measure=>simp [intOf]; omega
    · have HN : Hid (pkL b k (i + 1) = L):=by show _ = _; rw [b3I hcond,<- HL.out]
      have hd:=decide_eq_false hcond
      rw [hd] at HF
      clear hcond hd
      go_wp2_with fail
      refine HF.out.mono ?_
      rintro e w1 ⟨rfl,nq,rfl⟩
      go_wp2_with fail
      go_roundw
      case rel=>exact ⟨i + 1,by omega,by go_num,Lib.hid ⟨by rw [HN.out]; exact Kd.R_drewN H.out.1 nq,a0i H.out.2 nq⟩⟩
      case measure=>simp [intOf]; omega
  · obtain rfl : i = b.length:=by omega
    go_wp2_with fail
    go_ret
    exact ⟨_,rfl,H.out.1,H.out.2⟩
def b5x (b : List Int) (k : Int) (w : World) (e : Ending) (w' : World) : Prop:=∃ v,e = .returned v /\ (Kd.int .i64).R 3 w' w.heap.size (λ _=>True) v (histL (a0j b k)) /\ Below w.heap.size w w'
theorem a7e {b : List Int} (hb : Bytes b) (k : Int) : Bytes (a0j b k):=b3J hb k _
set_option maxRecDepth 100000 in
theorem b5y (A : Option Addr) (c : Nat) (b : List Int) (k : Int) (w : World) (hr : (Kd.int .u8).C w A b.length b) (hl : b.length <= 1000000) (hb : Bytes b) :
    Calls Tryz.prog 131 #[.slice A b.length c,.int .i64 k] w (b5x b k w):=by
 obtain ⟨W,hW⟩ : ∃ W,W = (w.alloc (.cells #[.slice A b.length c] 29)).alloc (.cells #[.int .i64 k] 3):=⟨_,rfl⟩
 have hb1 : Below w.heap.size w W:=by rw [hW]; exact ((Below.refl _ _).alloc (Nat.le_refl _) _).alloc (by simp) _
 have hs : W.heap.size = w.heap.size + 2:=by rw [hW]; simp
 have hk1 : W.heap[w.heap.size]? = some (.cells #[.slice A b.length c] 29 (0,0)):=by rw [hW]; exact a0t (a0f _ _) _
 have hk2 : W.heap[w.heap.size + 1]? = some (.cells #[.int .i64 k] 3 (0,0)):=by rw [hW]; exact a2w _ _ _
 have HP:=Lib.hid (c5j A c c w.heap.size (w.heap.size + 1) b k W ((a0a hk1 0).trans rfl) (by omega) ((a0a hk2 0).trans rfl) (by omega) (Kd.C_below hr hb1) hl hb)
 have HX:=Lib.hid (And.intro hb1 (And.intro hl hb))
 have hc1 : W.cell? ⟨w.heap.size,0,none⟩ = some (.slice A b.length c):=(a0a hk1 0).trans rfl
 clear hr hl hb hb1 hs hk1 hk2
 go_enter Tryz.func131,Tryz.ntmps131
 go_wp2_with fail
 rw [<- hW]
 clear hW
 refine HP.out.mono ?_
 rintro e w1 ⟨v,rfl,hv,hb1⟩
 obtain ⟨A1,c1,rfl⟩:=Kd.R_slice hv
 have H1:=Lib.hid (And.intro (Kd.R_reads' hv).2.2 (a0d HX.out.1 hb1))
 have HLp : Hid ((a0j b k).length <= 1000000):=by show _ <= _; have:=a5f b k b.length; have:=HX.out.2.1; unfold a0j; omega
 clear hv hb1
 go_wp2_with fail
 refine (b4m A1 c1 (a0j b k) w1 H1.out.1 HLp.out (a7e HX.out.2.2 k)).mono ?_
 rintro e w2 ⟨v2,rfl,hv2,hb2⟩
 have H2:=Lib.hid (And.intro hv2 hb2)
 clear hv2 hb2
 go_wp2_with fail
 go_ret
 exact ⟨v2,rfl,Kd.R_lower H2.out.1 H1.out.2.size,a0d H1.out.2 H2.out.2⟩
end Go.Proofs.YtamimiomglipmaaGreat
namespace Go.Proofs.YtamimiomglipmaaGreat
open Go.RowKit Go.IntWalk Go.Proofs.YtamimiomglipmaaGreatW.PrintWords Go.Proofs.YtamimiomglipmaaGreatW.PrintMore
attribute [local go_sem] a3W a3C a3X a3D
def metL (b : List Int) : Nat -> List Bool
 | 0=>List.replicate 256 false
 | i + 1=>(metL b i).set (ctxI b (i : Nat)).toNat true
theorem a7f (b : List Int) : ∀ i,(metL b i).length = 256
 | 0=>List.length_replicate
 | i + 1=>by unfold metL; rw [List.length_set]; exact a7f b i
theorem b5z {b : List Int} (hb : Bytes b) {i : Nat} (hi : i < b.length) : 0 <= ctxI b (i : Nat) /\ ctxI b (i : Nat) < 256:=by
 unfold ctxI
 rw [if_neg (by omega)]
 split
 · omega
 · exact hb.get _
theorem b5A {b : List Int} (hb : Bytes b) {c : Nat} (hc : c < 256) : ∀ i,i <= b.length -> (metL b i).getD c false = decide (0 < (pkL b (c : Int) i).length)
 | 0,_=>by
  have : pkL b (c : Int) 0 = []:=rfl
  rw [this]
  unfold metL
  rw [List.getD_eq_getElem?_getD,List.getElem?_replicate,if_pos hc]; rfl
 | i + 1,h=>by
  have ih:=b5A hb hc i (by omega)
  have hr:=b5z hb (show i < b.length by omega)
  unfold metL
  rw [List.getD_eq_getElem?_getD,List.getElem?_set]
  by_cases e : ctxI b (i : Nat) = (c : Int)
  · rw [if_pos (by omega),if_pos (by rw [a7f]; omega),b3H e]
    simp
  · rw [if_neg (by omega),<- List.getD_eq_getElem?_getD,ih,b3I e]
theorem c5k : (Tryz.prog.info? 166).map (·.size) = some 256:=by kernel_rfl
theorem c5l : (Tryz.prog.info? 4).map (·.size) = some 1:=by kernel_rfl
theorem c5m : Tryz.zeroCells166 = ((List.replicate 256 false).map Value.bool).toArray:=by kernel_rfl
theorem c5n (ms : List Bool) (hm : ms.length = 256) (i : Nat) (hi : i < 256) (w : World) : (Instr.index 166 (.agg (ms.map Value.bool).toArray) (.int .i64 i)).run Tryz.prog w = .ok (.bool (ms.getD i false)) w:=by
 obtain ⟨i0,hi0,hsz⟩:=Option.map_eq_some_iff.1 c5l
 have h1 : (0 : Int) <= i /\ (i : Int) < ((256 : Nat) : Int):=by omega
 have hag : (isAgg 4).run Tryz.prog w = .ok false w:=by simp [isAgg,Tryz.underlying4,go_sem,run_underlying]
 have he : ms[i]? = some ms[i]:=List.getElem?_eq_getElem (by omega)
 unfold Instr.index
 simp [run_underlying (P:=Tryz.prog) Tryz.underlying166,asIntOf,sizeOf,typeInfo,hi0,hsz,part,hag,h1,Result.andThen,he,hi]
def MetAt (p : Nat) (ms : List Bool) (w : World) : Prop:=w.heap[p]? = some (.cells (ms.map Value.bool).toArray 166 (0,0))
theorem MetAt.cell {p : Nat} {ms : List Bool} {w : World} (h : MetAt p ms w) {c : Nat} (hc : c < ms.length) : w.cell? ⟨p,c,none⟩ = some (.bool (ms.getD c false)) /\ w.frozen? ⟨p,c,none⟩ = false:=by
 refine ⟨(a0a h c).trans ?_,a0c h c⟩
 rw [List.getElem?_toArray,List.getElem?_map,List.getElem?_eq_getElem hc,List.getD_eq_getElem?_getD,List.getElem?_eq_getElem hc]; rfl
theorem MetAt.set {p : Nat} {ms : List Bool} {w : World} (h : MetAt p ms w) (c : Nat) : MetAt p (ms.set c true) (w.setCell ⟨p,c,none⟩ (.bool true)):=by
 unfold MetAt at h ⊢
 rw [a0h h c]
 congr 2
 rw [List.map_set]; simp
theorem MetAt.range {p : Nat} {ms : List Bool} {w : World} (h : MetAt p ms w) : w.rangeAt p 0 (ms.map Value.bool):=λ j v hv=>by
 rw [Nat.zero_add,a0a h j]
 simpa using hv
def c5o (b : List Int) (w : World) (e : Ending) (w' : World) : Prop:=∃ v,e = .returned v /\ (Kd.int .i64).R 3 w' w.heap.size (λ _=>True) v (presN b 256) /\ Below w.heap.size w w'
theorem c5p {b : List Int} (hb : Bytes b) {c : Nat} (hc : c < 256) : (metL b b.length).getD c false = decide (0 < (a0j b (c : Int)).length):=b5A hb hc b.length (Nat.le_refl _)
set_option maxRecDepth 100000 in
set_option maxHeartbeats 1000000 in
theorem b5B (A : Option Addr) (cp : Nat) (b : List Int) (w : World) (hr : (Kd.int .u8).C w A b.length b) (hl : b.length <= 1000000) (hb : Bytes b) :
    Calls Tryz.prog 99 #[.slice A b.length cp] w (c5o b w):=by
 obtain ⟨W,hW⟩ : ∃ W,W = w.alloc (.cells Tryz.zeroCells166 166):=⟨_,rfl⟩
 have hb1 : Below w.heap.size w W:=by rw [hW]; exact (Below.refl _ _).alloc (Nat.le_refl _) _
 have hm1 : MetAt w.heap.size (metL b 0) W:=by rw [hW,c5m]; exact a0f _ _
 have H1:=Lib.hid (And.intro hb1 hm1)
 have HR:=Lib.hid (And.intro hr (And.intro hl hb))
 obtain ⟨p,hp⟩ : ∃ p,p = w.heap.size:=⟨_,rfl⟩
 rw [<- hp] at H1
 have HP:=Lib.hid hp
 clear hr hl hb hb1 hm1
 go_enter Tryz.func99,Tryz.ntmps99
 go_wp2_with fail
 rw [<- hW,<- hp]
 clear hW hp
 go_loopw [10] (λ kv wr=>∃ i : Nat,i <= b.length /\ kv = .int .i64 i /\ Hid (MetAt p (metL b i) wr /\ Below p w wr /\ Only (λ k=>k = p) W wr)) (λ kv _=>b.length - (intOf kv).toNat)
 case atStart=>exact ⟨0,by omega,rfl,Lib.hid ⟨H1.out.2,by rw [HP.out]; have:=H1.out.1; rw [HP.out] at this; exact this,Only.refl _ _⟩⟩
 case round=>
  obtain ⟨i,hi,rfl,H⟩:=hrel
  by_cases hlt : i < b.length
  · have hB : Below w.heap.size w wr:=by have:=H.out.2.1; rw [HP.out] at this; exact this
    have hRr : (Kd.int .u8).C wr A b.length b:=Kd.C_below HR.out.1 hB
    have HAt:=Lib.hid (a6q A cp b i wr hRr hlt HR.out.2.1 HR.out.2.2)
    obtain ⟨c,hc,hc2⟩ : ∃ c : Nat,ctxI b (i : Nat) = c /\ c < 256:=by
     have:=b5z HR.out.2.2 hlt
     exact ⟨(ctxI b (i : Nat)).toNat,by omega,by omega⟩
    rw [hc] at HAt
    obtain ⟨mc,mf⟩:=H.out.1.cell (c:=c) (by rw [a7f]; omega)
    have HN : Hid (metL b (i + 1) = (metL b i).set c true):=by show _ = _; rw [metL,hc,Int.toNat_natCast]
    have hl6 : b.length <= 1000000:=HR.out.2.1
    clear hc hRr hB
    go_wp2_with fail
    refine HAt.out.mono ?_
    rintro e w1 ⟨rfl,rfl⟩
    go_wp2_with fail
    go_roundw
    case rel=>exact ⟨i + 1,by omega,by go_num,Lib.hid ⟨by rw [HN.out]; exact H.out.1.set c,H.out.2.1.setCell (Nat.le_refl _) _,H.out.2.2.set1 _ _⟩⟩
    case measure=>simp [intOf]; omega
  · obtain rfl : i = b.length:=by omega
    have hld:=H.out.1.range
    obtain ⟨ms,hms⟩ : ∃ ms,ms = metL b b.length:=⟨_,rfl⟩
    have HMs : Hid (ms.length = 256 /\ ∀ c,c < 256 -> ms.getD c false = decide (0 < (a0j b (c : Int)).length)):=Lib.hid ⟨by rw [hms]; exact a7f b _,λ c hc=>by rw [hms]; exact c5p HR.out.2.2 hc⟩
    rw [<- hms] at hld
    have HLd:=Lib.hid hld
    clear hms hld
    go_wp2_with fail
    refine wp_load_mid 166 (.tmp 3) rfl p 0 rfl (ms.map Value.bool) _ HLd.out Tryz.underlying166 rfl (by rw [c5k]; simp [HMs.out.1]) ?_
    go_wp2_with fail
    go_loopw [5,19] (λ v kv wr=>∃ c : Nat,c <= 256 /\ kv = .int .i64 c /\ Hid ((Kd.int .i64).R 3 wr w.heap.size (λ _=>True) v (presN b c) /\ Below w.heap.size w wr)) (λ _ kv _=>256 - (intOf kv).toNat)
    case atStart=>exact ⟨0,by omega,rfl,Lib.hid ⟨by have : presN b 0 = []:=rfl; rw [this]; exact Kd.R_nil _ _ _ _ _,by have:=H.out.2.1; rw [HP.out] at this; exact this⟩⟩
    case round=>
     obtain ⟨c,hc,rfl,G⟩:=hrel
     by_cases hlt : c < 256
     · have hix:=c5n ms HMs.out.1 c hlt
       have hmc:=HMs.out.2 c hlt
       obtain ⟨Av,cv,rfl⟩:=Kd.R_slice G.out.1
       have hpl:=a6L b c
       have HLn : Hid (((presN b c).length + 1) * 8 <= 140737488355328):=by show _ <= _; omega
       obtain ⟨L,hL⟩ : ∃ L,L = presN b c:=⟨_,rfl⟩
       have hsucc:=b3K b c
       rw [<- hL] at G hpl HLn hsucc ⊢
       have HGB : Hid (Below w.heap.size w wr /\ w.heap.size <= wr.heap.size):=Lib.hid ⟨G.out.2,G.out.2.size⟩
       by_cases hp0 : 0 < (a0j b (c : Int)).length
       · rw [decide_eq_true hp0] at hmc
         rw [if_pos hp0] at hsucc
         rw [hmc] at hix
         have HS:=Lib.hid hsucc
         clear hmc hsucc hL hp0
         go_wp2_with (at_builtin; refine Kd.R_append (Kd.int .i64) (w0:=w) (W:=wr) w.heap.size rfl (.tmp 24) (.tmp 26) 128 3 (.int .i64 0) 8 rfl Tryz.underlying128 a3Y rfl (by decide) (by decide) _ _ (c : Int) [.int .i64 c] (λ _=>True) (λ _=>False) rfl rfl rfl (λ _ h=>h.elim) (λ _ _=>trivial) G.out.1 HGB.out.1 HGB.out.2 HLn.out ?_; intro v1 w3 hr3 hb3 hg3 hat3; have HA:=Lib.hid (And.intro hr3 hb3); clear hr3 hb3 hg3 hat3)
         go_roundw
         case rel=>exact ⟨c + 1,by omega,by go_num,Lib.hid ⟨by rw [HS.out]; exact HA.out.1,HA.out.2⟩⟩
         case measure=>simp [intOf]; omega
       · rw [decide_eq_false hp0] at hmc
         rw [if_neg hp0] at hsucc
         rw [hmc] at hix
         have HS:=Lib.hid hsucc
         clear hmc hsucc hL hp0
         go_wp2_with fail
         go_roundw
         case rel=>exact ⟨c + 1,by omega,by go_num,Lib.hid ⟨by rw [HS.out]; exact G.out.1,G.out.2⟩⟩
         case measure=>simp [intOf]; omega
     · obtain rfl : c = 256:=by omega
       go_wp2_with fail
       go_ret
       exact ⟨_,rfl,G.out.1,G.out.2⟩
def widL (b : List Int) : List Int -> Nat
 | []=>0
 | c :: l=>max (manyC (histL (a0j b c))) (widL b l)
theorem a9M (b : List Int) (c : Int) : ∀ l : List Int,widL b (l ++ [c]) = max (widL b l) (manyC (histL (a0j b c)))
 | []=>by simp [widL]
 | x :: l=>by
  show max (manyC (histL (a0j b x))) (widL b (l ++ [c])) = max (max (manyC (histL (a0j b x))) (widL b l)) _
  rw [a9M b c l,Nat.max_assoc]
theorem b5C : manyC (histL []) = 0:=by decide +kernel
theorem a9N (b : List Int) : ∀ k,widL b (presN b k) = widN b k
 | 0=>rfl
 | k + 1=>by
  rw [b3K]
  show _ = max (widN b k) (manyC (histL (a0j b (k : Nat))))
  by_cases h : 0 < (a0j b (k : Int)).length
  · rw [if_pos h,a9M,a9N b k]
  · rw [if_neg h,a9N b k]
    have e : a0j b ((k : Nat) : Int) = []:=List.eq_nil_of_length_eq_zero (by omega)
    rw [e,b5C]; simp
theorem b5D (b : List Int) : ∀ l,widL b l <= 256
 | []=>by simp [widL]
 | c :: l=>by
  have:=b5D b l; have:=a5g (histL (a0j b c))
  simp only [widL]; omega
set_option maxRecDepth 100000 in
set_option maxHeartbeats 1000000 in
theorem c5q (A : Option Addr) (cp : Nat) (b : List Int) (w : World) (hr : (Kd.int .u8).C w A b.length b) (hl : b.length <= 1000000) (hb : Bytes b) :
    Calls Tryz.prog 129 #[.slice A b.length cp] w (Ret (.int .i64 (widN b 256 : Nat)) w):=by
 have HR:=Lib.hid (And.intro hr (And.intro hl hb))
 clear hr hl hb
 go_enter Tryz.func129,Tryz.ntmps129
 go_wp2_with fail
 refine (b5B A cp b w HR.out.1 HR.out.2.1 HR.out.2.2).mono ?_
 rintro e w1 ⟨v,rfl,hv,hb1⟩
 obtain ⟨A1,c1,rfl⟩:=Kd.R_slice hv
 have H1:=Lib.hid (And.intro (Kd.R_reads' hv).2.2 hb1)
 have hpl:=a6L b 256
 obtain ⟨L,hL⟩ : ∃ L,L = presN b 256:=⟨_,rfl⟩
 have HL:=Lib.hid hL
 rw [<- hL] at H1 hpl ⊢
 clear hv hb1 hL
 go_wp2_with fail
 go_loopw [3,9] (λ mv kv wr=>∃ i : Nat,i <= L.length /\ kv = .int .i64 i /\ mv = .int .i64 (widL b (L.take i) : Nat) /\ Hid (Below w1.heap.size w1 wr)) (λ _ kv _=>L.length - (intOf kv).toNat)
 case atStart=>exact ⟨0,by omega,rfl,rfl,Lib.hid (Below.refl _ _)⟩
 case round=>
  obtain ⟨i,hi,rfl,rfl,H⟩:=hrel
  by_cases hlt : i < L.length
  · obtain ⟨ad,hA,hcx⟩:=a0u (Kd.C_below H1.out.1 H.out) i hlt
    subst hA
    have ht : L.take (i + 1) = L.take i ++ [L.getD i 0]:=by rw [List.take_succ_eq_append_getElem hlt,List.getD_eq_getElem?_getD,List.getElem?_eq_getElem hlt,Option.getD_some]
    obtain ⟨c,hc⟩ : ∃ c,c = L.getD i 0:=⟨_,rfl⟩
    rw [<- hc] at ht hcx
    obtain ⟨m,hm⟩ : ∃ m,m = widL b (L.take i):=⟨_,rfl⟩
    obtain ⟨k,hk⟩ : ∃ k,k = manyC (histL (a0j b c)):=⟨_,rfl⟩
    have hN : widL b (L.take (i + 1)) = max m k:=by rw [ht,a9M,<- hm,<- hk]
    have hm256 : m <= 256:=by rw [hm]; exact b5D _ _
    have hk256 : k <= 256:=by rw [hk]; exact a5g _
    have HN:=Lib.hid (And.intro hN hk)
    rw [<- hm]
    have hBw:=a0d H1.out.2 H.out
    have HFor:=Lib.hid (b5y A cp b c wr (Kd.C_below HR.out.1 hBw) HR.out.2.1 HR.out.2.2)
    have HB:=Lib.hid H.out
    clear ht hc hm hN hk hBw
    go_wp2_with fail
    refine HFor.out.mono ?_
    rintro e w2 ⟨v2,rfl,hv2,hb2⟩
    obtain ⟨A2,c2,rfl⟩:=Kd.R_slice hv2
    have HV2:=Lib.hid (Kd.R_reads' hv2).2.2
    have HB2 : Hid (Below w1.heap.size w1 w2):=Lib.hid (a0d HB.out hb2)
    have HRi : Hid (a0Z (histL (a0j b c)) = true):=Lib.hid (a5j _ (a7e HR.out.2.2 c) (by have:=a5f b c b.length; have:=HR.out.2.1; unfold a0j; omega))
    clear hv2 hb2
    go_wp2_with fail
    refine (a5l A2 c2 _ w2 HV2.out HRi.out).mono ?_
    rw [<- HN.out.2]
    rintro e w3 ⟨rfl,rfl⟩
    by_cases hmk : (m : Int) < (k : Int)
    · have HM : Hid (max m k = k):=by show _ = _; omega
      go_wp2_with fail
      go_roundw
      case rel=>exact ⟨i + 1,by omega,by go_num,by rw [HN.out.1,HM.out],HB2.out⟩
      case measure=>simp [intOf]; omega
    · have HM : Hid (max m k = m):=by show _ = _; omega
      go_wp2_with fail
      go_roundw
      case rel=>exact ⟨i + 1,by omega,by go_num,by rw [HN.out.1,HM.out],HB2.out⟩
      case measure=>simp [intOf]; omega
  · obtain rfl : i = L.length:=by omega
    have HE : Hid (widL b (L.take L.length) = widN b 256):=by show _ = _; rw [List.take_length,HL.out,a9N]
    rw [HE.out]
    go_wp2_with fail
    go_ret
    exact ⟨rfl,a0d H1.out.2 H.out⟩
end Go.Proofs.YtamimiomglipmaaGreat
namespace Go.Proofs.YtamimiomglipmaaGreat
open Go.RowKit Go.IntWalk Go.Proofs.YtamimiomglipmaaGreatW.PrintWords
set_option maxRecDepth 100000 in
theorem c5r (A : Option Addr) (cp p : Nat) (b : List Int) (k : Int) (w : World) (h : w.cell? ⟨p,0,none⟩ = some (.slice A b.length cp)) (hr : (Kd.int .u8).C w A b.length b) (hl : b.length <= 1000000) (hb : Bytes b) :
    Calls Tryz.prog 130 #[.int .i64 k,.pointer (some ⟨p,0,none⟩)] w (b5x b k w):=by
 have HF:=Lib.hid (b5y A cp b k w hr hl hb)
 clear hr hl hb
 go_enter Tryz.func130,Tryz.ntmps130
 go_wp2_with fail
 refine HF.out.mono ?_
 rintro e w1 ⟨v,rfl,hv,hb⟩
 have H1:=Lib.hid (And.intro hv hb)
 clear hv hb
 go_wp2_with fail
 go_ret
 exact ⟨v,rfl,H1.out.1,H1.out.2⟩
def a1M (b : List Int) (c : Nat) : List (List Int):=(List.range c).map (a0Y b)
theorem b5E (b : List Int) (c : Nat) : a1M b (c + 1) = a1M b c ++ [a0Y b c]:=by simp [a1M,List.range_succ]
theorem a7g (b : List Int) (c : Nat) : (a1M b c).length = c:=by simp [a1M]
def FMade (b : List Int) (r : Nat) (m0 m1 base c : Nat) (w wr : World) : Prop:=∃ A1 c1,wr.heap[m1]? = some (.cells #[.int .i64 r,.bool false,.slice A1 c c1] 119 (0,0)) /\ wr.heap[m0]? = some (.cells #[.int .i64 0,.bool false,.slice none 0 0] 119 (0,0)) /\ kq.R 128 wr base (λ _=>True) (.slice A1 c c1) (a1M b c) /\ Below m0 w wr /\ base <= wr.heap.size
theorem FMade.next {b : List Int} {r m0 m1 base c : Nat} {w w6 : World} {A1 : Option Addr} {c1 : Nat} (hm : m0 < base /\ m1 < base /\ m0 ≠ m1 /\ m0 <= m1) (h0 : w6.heap[m0]? = some (.cells #[.int .i64 0,.bool false,.slice none 0 0] 119 (0,0)))
    (h1 : w6.heap[m1]? = some (.cells #[.int .i64 r,.bool false,.slice A1 c c1] 119 (0,0))) {A2 : Option Addr} {c2 : Nat} (hq : kq.R 128 w6 base (λ _=>True) (.slice A2 (c + 1) c2) (a1M b (c + 1))) (hb : Below m0 w w6) (hsz : base <= w6.heap.size) :
    FMade b r m0 m1 base (c + 1) w (w6.setCell ⟨m1,2,none⟩ (.slice A2 (c + 1) c2)):=by
 refine ⟨A2,c2,a0h h1 2 _,a1e h0 (p:=⟨m1,2,none⟩) hm.2.2.1 _,?_,hb.setCell hm.2.2.2 _,by simpa using hsz⟩
 refine Kd.R_mono (Kd.R_far (p:=⟨m1,2,none⟩) (Kd.R_bound hq) (λ k hk=>?_) _) (λ _ _=>trivial)
 show k ≠ m1
 have:=hk.2.1
 omega
set_option maxRecDepth 100000 in
set_option maxHeartbeats 4000000 in
theorem c5s (p cp : Nat) (A : Option Addr) (b : List Int) (w : World) (hp : w.heap[p]? = some (.cells #[.slice A b.length cp] 29 (0,0))) (hr : (Kd.int .u8).C w A b.length b) (hl : b.length <= 1000000) (hb : Bytes b) :
    Calls Tryz.prog 105 #[.int .i64 (a0m b : Nat),.int .i64 256,.func (Fn.func 130) #[] #[.pointer (some ⟨p,0,none⟩)]] w (MadeM (a0m b : Nat) false (a0w b) w):=by
 obtain ⟨r,hrr⟩ : ∃ r,r = a0m b:=⟨_,rfl⟩
 have HRR:=Lib.hid hrr
 rw [<- hrr]
 clear hrr
 obtain ⟨W2,hW2⟩ : ∃ W2,W2 = (w.alloc (.cells #[.int .i64 0,.bool false,.slice none 0 0] 119)).alloc (.cells #[.int .i64 r,.bool false,.slice none 0 0] 119):=⟨_,rfl⟩
 have hb2 : Below w.heap.size w W2:=by rw [hW2]; exact ((Below.refl w.heap.size w).alloc (Nat.le_refl _) _).alloc (by simp) _
 have hs2 : W2.heap.size = w.heap.size + 2:=by rw [hW2]; simp
 have hm1 : W2.heap[w.heap.size + 1]? = some (.cells #[.int .i64 r,.bool false,.slice none 0 0] 119 (0,0)):=by rw [hW2]; exact a2w _ _ _
 have hm0 : W2.heap[w.heap.size]? = some (.cells #[.int .i64 0,.bool false,.slice none 0 0] 119 (0,0)):=by rw [hW2]; exact a0t (a0f _ _) _
 have HPl : Hid (w.heap.size <= w.heap.size + 1):=Nat.le_succ _
 have H2:=Lib.hid (And.intro hb2 (And.intro hs2 (And.intro hm1 hm0)))
 have HP:=Lib.hid hp
 have HR:=Lib.hid (And.intro hr (And.intro hl hb))
 clear hp hr hl hb hb2 hs2 hm1 hm0
 go_enter Tryz.func105,Tryz.ntmps105
 go_wp2_with fail
 rw [<- hW2]
 clear hW2
 obtain ⟨m0,hm0⟩ : ∃ m0,m0 = w.heap.size:=⟨_,rfl⟩
 have HM0:=Lib.hid hm0
 rw [<- hm0] at H2 ⊢
 clear hm0
 obtain ⟨m1,hm1⟩ : ∃ m1,m1 = m0 + 1:=⟨_,rfl⟩
 have HM1:=Lib.hid hm1
 rw [<- hm1] at H2 ⊢
 clear hm1
 go_loopw [16] (λ kv wr=>∃ c : Nat,c <= 256 /\ kv = .int .i64 c /\ Hid (FMade b r m0 m1 W2.heap.size c w wr)) (λ kv _=>256 - (intOf kv).toNat)
 case atStart=>exact ⟨0,by omega,rfl,Lib.hid ⟨none,0,H2.out.2.2.1,H2.out.2.2.2,Kd.R_nil _ _ _ _ _,H2.out.1,Nat.le_refl _⟩⟩
 case round=>
  obtain ⟨c,hc,rfl,H⟩:=hrel
  by_cases hlt : c < 256
  · obtain ⟨A1,c1,h1,h2,h3,h4,h5⟩:=H.out
    have hbw : Below w.heap.size w wr:=by have:=h4; rw [HM0.out] at this; exact this
    have hpc : wr.cell? ⟨p,0,none⟩ = some (.slice A b.length cp):=(a0a (a0e HP.out hbw) 0).trans rfl
    have HF:=Lib.hid (c5r A cp p b c wr hpc (Kd.C_below HR.out.1 hbw) HR.out.2.1 HR.out.2.2)
    have HH:=Lib.hid (And.intro h1 (And.intro h2 (And.intro h3 (And.intro h4 h5))))
    have hmm : Hid (m0 < W2.heap.size /\ m1 < W2.heap.size /\ m0 ≠ m1 /\ m0 <= m1):=by
     have:=a0b H2.out.2.2.1; have:=a0b H2.out.2.2.2; have:=HM1.out
     exact Lib.hid (by omega)
    have HPk:=Lib.hid (a5f b (c : Int) b.length)
    have HOwn : Hid (∀ k,(Value.slice A1 c c1).ownBlock = some k -> W2.heap.size <= k /\ k < wr.heap.size):=Lib.hid λ k hk=>⟨Kd.R_base h3 k hk,Kd.R_lt h3 k hk⟩
    clear h1 h2 h3 h4 h5 hbw hpc H
    go_wp2_with fail
    refine HF.out.mono ?_
    rintro e w3 ⟨vl,rfl,hvl,hb3⟩
    obtain ⟨Al,cl,rfl⟩:=Kd.R_slice hvl
    have hhl : (histL (a0j b (c : Int))).length = 256:=a1Z _
    have hrd:=(Kd.R_reads' hvl).2.2
    have hmany:=a5l Al cl (histL (a0j b (c : Int))) w3 hrd (a5j _ (a7e HR.out.2.2 c) (by have:=HPk.out; have:=HR.out.2.1; unfold a0j; omega))
    rw [hhl] at hrd hmany ⊢
    have HV:=Lib.hid hrd
    have HMa:=Lib.hid hmany
    have HB3:=Lib.hid hb3
    clear hvl hb3 hrd hmany hhl
    go_wp2_with fail
    refine HMa.out.mono ?_
    by_cases hp0 : 0 < (a0j b (c : Int)).length
    · have hmp : 0 < manyC (histL (a0j b (c : Int))):=b4P (a7e HR.out.2.2 c) (by have:=HPk.out; have:=HR.out.2.1; unfold a0j; omega) hp0
      have HCan:=Lib.hid (a6R HR.out.2.2 HR.out.2.1 hlt hp0)
      have HQ : Hid (a0Y b c = normL (histL (a0j b (c : Int))) r):=by show _ = _; unfold a0Y; rw [if_pos hp0,<- HRR.out]
      rw [<- HRR.out] at HCan
      obtain ⟨mn,hmn⟩ : ∃ mn,mn = manyC (histL (a0j b (c : Int))):=⟨_,rfl⟩
      rw [<- hmn] at hmp ⊢
      clear hmn hp0
      rintro e w' ⟨rfl,rfl⟩
      go_wp2_with fail
      refine (b4O Al cl _ r w3 HV.out HCan.out).mono ?_
      rintro e w5 ⟨vq,rfl,hq,hb5⟩
      rw [<- HQ.out] at hq
      obtain ⟨Aq,cq,rfl⟩:=Kd.R_slice hq
      obtain ⟨Q,hQ⟩ : ∃ Q,Q = a0Y b c:=⟨_,rfl⟩
      rw [<- hQ] at hq ⊢
      have HQQ:=Lib.hid hQ
      obtain ⟨ql,hql⟩ : ∃ ql,ql = Q.length:=⟨_,rfl⟩
      rw [<- hql] at hq ⊢
      have HQr : Hid ((Kd.int .i64).R 3 w5 W2.heap.size (λ k=>wr.heap.size <= k) (.slice Aq ql cq) Q):=Lib.hid (Kd.R_mono (Kd.R_lower (Kd.R_bound hq) (Nat.le_trans HH.out.2.2.2.2 HB3.out.size)) (λ k hk=>by have:=hk.2.1; have:=HB3.out.size; omega))
      have hb35:=a0d HB3.out hb5
      have h15:=a0e HH.out.1 hb35
      have H05:=Lib.hid (a0e HH.out.2.1 hb35)
      obtain ⟨⟨ca,cb,cc⟩,fa,fb,fc⟩:=cell3 h15
      have H15:=Lib.hid h15
      have HB5:=Lib.hid hb35
      have hm1l:=a0b h15
      have hm1n : ¬ m1 = w5.heap.size:=by omega
      have hm1n' : ¬ w5.heap.size = m1:=by omega
      have HS5 : Hid (W2.heap.size <= w5.heap.size):=Lib.hid (Nat.le_trans HH.out.2.2.2.2 hb35.size)
      have HB5' : Hid (Below W2.heap.size w5 w5):=Below.refl _ _
      have HL : Hid (((a1M b c).length + 1) * 24 <= 140737488355328):=by show _ <= _; rw [a7g]; omega
      have HO5:=Lib.hid (Kd.R_below HH.out.2.2.1 hb35)
      clear hq hb5 h15 hql hQ hb35
      go_wp2_with (at_builtin; refine Kd.R_append kq (w0:=w5) (W:=w5) W2.heap.size rfl (.tmp 32) (.tmp 34) 117 128 (.slice none 0 0) 24 rfl Tryz.underlying117 a6T rfl (by decide) (by decide) (.slice A1 c c1) (a1M b c) Q [.slice Aq ql cq] (λ _=>True) (λ k=>wr.heap.size <= k) rfl (by simp [go_sem]) ⟨_,rfl,HQr.out⟩ (λ k hk=>⟨trivial,λ e=>by have:=(HOwn.out k e.symm).2; omega⟩) (λ _ _=>trivial) HO5.out HB5'.out HS5.out HL.out ?_; intro v1 w6 hr6 hb6 hg6 hat6; have h16:=a0O H15.out hg6 (λ e=>by have:=(HOwn.out _ e.symm).1; have:=hmm.out; omega); have H16:=Lib.hid h16; have H06:=Lib.hid (a0O H05.out hg6 (λ e=>by have:=(HOwn.out _ e.symm).1; have:=hmm.out; omega)); obtain ⟨⟨da,db,dc⟩,ga,gb,gc⟩:=cell3 h16; obtain ⟨A2,c2,rfl⟩:=Kd.R_slice hr6; have hlen : (a1M b c ++ [Q]).length = c + 1:=(by rw [List.length_append,a7g]; rfl); rw [hlen] at hr6; have HR6:=Lib.hid hr6; have HB6:=Lib.hid hb6; rw [hlen]; clear hr6 hb6 hg6 hat6 h16 hlen)
      go_roundw
      case rel=>
       refine ⟨c + 1,by omega,by go_num,Lib.hid (FMade.next hmm.out H06.out H16.out ?_ ?_ (Nat.le_trans HS5.out HB6.out.size))⟩
       · rw [b5E,<- HQQ.out]; exact HR6.out
       · have hm:=hmm.out
         have hs:=HH.out.2.2.2.2
         exact (HH.out.2.2.2.1.trans (HB5.out.mono (by omega))).trans (HB6.out.mono (by omega))
      case measure=>simp [intOf]; omega
    · have hpe : a0j b (c : Int) = []:=List.eq_nil_of_length_eq_zero (by omega)
      rw [hpe,b5C]
      have HQ : Hid (a0Y b c = []):=by show _ = _; unfold a0Y; rw [if_neg hp0]
      clear hp0 hpe
      rintro e w' ⟨rfl,rfl⟩
      have h15:=a0e HH.out.1 HB3.out
      have H05:=Lib.hid (a0e HH.out.2.1 HB3.out)
      obtain ⟨⟨ca,cb,cc⟩,fa,fb,fc⟩:=cell3 h15
      have H15:=Lib.hid h15
      have hm1l:=a0b h15
      have hm1n : ¬ m1 = w3.heap.size:=by omega
      have hm1n' : ¬ w3.heap.size = m1:=by omega
      have HS5 : Hid (W2.heap.size <= w3.heap.size):=Lib.hid (Nat.le_trans HH.out.2.2.2.2 HB3.out.size)
      have HB5' : Hid (Below W2.heap.size w3 w3):=Below.refl _ _
      have HL : Hid (((a1M b c).length + 1) * 24 <= 140737488355328):=by show _ <= _; rw [a7g]; omega
      have HO5:=Lib.hid (Kd.R_below HH.out.2.2.1 HB3.out)
      clear h15
      go_wp2_with (at_builtin; refine Kd.R_append kq (w0:=w3) (W:=w3) W2.heap.size rfl (.tmp 32) (.tmp 34) 117 128 (.slice none 0 0) 24 rfl Tryz.underlying117 a6T rfl (by decide) (by decide) (.slice A1 c c1) (a1M b c) [] [.slice none 0 0] (λ _=>True) (λ _=>False) rfl (by simp [go_sem]) ⟨_,rfl,Kd.R_nil _ _ _ _ _⟩ (λ _ h=>h.elim) (λ _ _=>trivial) HO5.out HB5'.out HS5.out HL.out ?_; intro v1 w6 hr6 hb6 hg6 hat6; have h16:=a0O H15.out hg6 (λ e=>by have:=(HOwn.out _ e.symm).1; have:=hmm.out; omega); have H16:=Lib.hid h16; have H06:=Lib.hid (a0O H05.out hg6 (λ e=>by have:=(HOwn.out _ e.symm).1; have:=hmm.out; omega)); obtain ⟨⟨da,db,dc⟩,ga,gb,gc⟩:=cell3 h16; obtain ⟨A2,c2,rfl⟩:=Kd.R_slice hr6; have hlen : (a1M b c ++ [([] : List Int)]).length = c + 1:=(by rw [List.length_append,a7g]; rfl); rw [hlen] at hr6; have HR6:=Lib.hid hr6; have HB6:=Lib.hid hb6; rw [hlen]; clear hr6 hb6 hg6 hat6 h16 hlen)
      go_roundw
      case rel=>
       refine ⟨c + 1,by omega,by go_num,Lib.hid (FMade.next hmm.out H06.out H16.out ?_ ?_ (Nat.le_trans HS5.out HB6.out.size))⟩
       · rw [b5E,HQ.out]; exact HR6.out
       · have hm:=hmm.out
         have hs:=HH.out.2.2.2.2
         exact (HH.out.2.2.2.1.trans (HB3.out.mono (by omega))).trans (HB6.out.mono (by omega))
      case measure=>simp [intOf]; omega
  · obtain rfl : c = 256:=by omega
    obtain ⟨A1,c1,h1,h2,h3,h4,h5⟩:=H.out
    obtain ⟨⟨ca,cb,cc⟩,fa,fb,fc⟩:=cell3 h1
    obtain ⟨⟨da,db,dc⟩,ga,gb,gc⟩:=cell3 h2
    have HH:=Lib.hid (And.intro h2 (And.intro h3 (And.intro h4 h5)))
    clear h1 h2 h3 h4 h5 H
    go_wp2_with fail
    have hmm : m0 < W2.heap.size:=a0b H2.out.2.2.2
    refine bodyPost_ret (results_cell_row (fn:=Tryz.f105) (p:=6) (ty:=119) rfl _ _ _ _ _ _ _ rfl (a1K HH.out.1 _ _ _) Tryz.underlying119 rfl a8S) rfl ?_
    have hw0:=HM0.out
    subst hw0
    refine ⟨_,rfl,?_,((HH.out.2.2.1.setCell (Nat.le_refl _) _).setCell (Nat.le_refl _) _).setCell (Nat.le_refl _) _⟩
    have e : a1M b 256 = a0w b:=rfl
    have h4 : kq.R 128 wr w.heap.size (λ k=>k ≠ w.heap.size) (.slice A1 256 c1) (a0w b):=Kd.R_mono (Kd.R_lower (Kd.R_bound HH.out.2.1) (by omega)) (λ k hk=>by have:=hk.2.1; omega)
    exact Kd.R_mono (a2N h4 _ _ _) (λ _ _=>trivial)
def b5F (b : List Int) (w : World) (e : Ending) (w' : World) : Prop:=
 (b.length = 0 /\ e = .returned (.tuple #[.agg #[.int .i64 0,.bool false,.slice none 0 0],.int .i64 1]) /\ Below w.heap.size w w') \/
 (0 < b.length /\ ∃ Av cv,e = .returned (.tuple #[.agg #[.int .i64 (a0m b : Nat),.bool false,.slice Av 256 cv],.int .i64 0]) /\ kq.R 128 w' w.heap.size (λ _=>True) (.slice Av 256 cv) (a0w b) /\ Below w.heap.size w w')
set_option maxRecDepth 100000 in
theorem c5t (A : Option Addr) (cp : Nat) (w : World) : Calls Tryz.prog 97 #[.slice A 0 cp] w (b5F [] w):=by
 obtain ⟨W1,hW1⟩ : ∃ W1,W1 = (w.alloc (.cells #[.slice A 0 cp] 29)).alloc (.cells #[.int .i64 0,.bool false,.slice none 0 0] 119):=⟨_,rfl⟩
 have hb1 : Below w.heap.size w W1:=by rw [hW1]; exact ((Below.refl w.heap.size w).alloc (Nat.le_refl _) _).alloc (by simp) _
 have hk1 : W1.heap[w.heap.size + 1]? = some (.cells #[.int .i64 0,.bool false,.slice none 0 0] 119 (0,0)):=by rw [hW1]; exact a2w _ _ _
 have hk0 : W1.heap[w.heap.size]? = some (.cells #[.slice A 0 cp] 29 (0,0)):=by rw [hW1]; exact a0t (a0f _ _) _
 have hc0 : W1.cell? ⟨w.heap.size,0,none⟩ = some (.slice A 0 cp):=(a0a hk0 0).trans rfl
 obtain ⟨m,hm⟩ : ∃ m,m = w.heap.size + 1:=⟨_,rfl⟩
 have HM:=Lib.hid hm
 rw [<- hm] at hk1
 obtain ⟨⟨ca,cb,cc⟩,fa,fb,fc⟩:=cell3 hk1
 have HB:=Lib.hid hb1
 have HK:=Lib.hid hk1
 clear hb1 hk1 hk0
 go_enter Tryz.func97,Tryz.ntmps97
 go_wp2_with fail
 rw [<- hW1,<- hm]
 clear hW1 hm
 go_wp2_with fail
 refine bodyPost_ret (a1L (fn:=Tryz.f97) (p:=2) (u:=3) (ty:=119) rfl _ _ _ _ rfl (a1z HK.out)) rfl ?_
 exact .inl ⟨rfl,rfl,HB.out⟩
theorem a3M {w w' : World} {m j : Nat} {c : Value} (hb : Below w.heap.size w w') (hc : w.cell? ⟨m,j,none⟩ = some c) (hf : w.frozen? ⟨m,j,none⟩ = false) : w'.frozen? ⟨m,j,none⟩ = false:=by
 rw [hb.frozen (p:=⟨m,j,none⟩) (World.block_lt_of_cell? w _ hc)]; exact hf
def SF (W1 : World) (p m n cp : Nat) (A : Option Addr) (W : World) : Prop:=Below W1.heap.size W1 W /\ W.cell? ⟨p,0,none⟩ = some (.slice A n cp) /\ W.cell? ⟨m,0,none⟩ = some (.int .i64 0) /\ W.cell? ⟨m,1,none⟩ = some (.bool false) /\ W.cell? ⟨m,2,none⟩ = some (.slice none 0 0) /\ W.frozen? ⟨m,0,none⟩ = false /\ W.frozen? ⟨m,1,none⟩ = false /\ W.frozen? ⟨m,2,none⟩ = false
theorem SF.keep {W1 W w' : World} {p m n cp : Nat} {A : Option Addr} (h : SF W1 p m n cp A W) (hb : Below W.heap.size W w') : SF W1 p m n cp A w':=
 ⟨a0d h.1 hb,a0o hb h.2.1,a0o hb h.2.2.1,a0o hb h.2.2.2.1,a0o hb h.2.2.2.2.1,a3M hb h.2.2.1 h.2.2.2.2.2.1,a3M hb h.2.2.2.1 h.2.2.2.2.2.2.1,a3M hb h.2.2.2.2.1 h.2.2.2.2.2.2.2⟩
theorem SF.drew {W1 W : World} {p m n cp : Nat} {A : Option Addr} (h : SF W1 p m n cp A W) : SF W1 p m n cp A W.drew:=
 ⟨h.1.drew,h.2.1,h.2.2.1,h.2.2.2.1,h.2.2.2.2.1,h.2.2.2.2.2.1,h.2.2.2.2.2.2.1,h.2.2.2.2.2.2.2⟩
set_option maxRecDepth 100000 in
set_option maxHeartbeats 4000000 in
theorem c5u (A : Option Addr) (cp : Nat) (b : List Int) (w : World) (hr : (Kd.int .u8).C w A b.length b) (hb : Bytes b) (hl : b.length <= 1000000) (h0 : 0 < b.length) :
    Calls Tryz.prog 97 #[.slice A b.length cp] w (b5F b w):=by
 have hne : ((b.length : Int) == 0) = false:=by simp; intro e; subst e; simp at h0
 have hne2 : ¬ b = []:=by intro e; subst e; simp at h0
 obtain ⟨n,hn⟩ : ∃ n,n = b.length:=⟨_,rfl⟩
 rw [<- hn] at hne
 obtain ⟨W1,hW1⟩ : ∃ W1,W1 = (w.alloc (.cells #[.slice A n cp] 29)).alloc (.cells #[.int .i64 0,.bool false,.slice none 0 0] 119):=⟨_,rfl⟩
 have hb1 : Below w.heap.size w W1:=by rw [hW1]; exact ((Below.refl w.heap.size w).alloc (Nat.le_refl _) _).alloc (by simp) _
 have hk1 : W1.heap[w.heap.size + 1]? = some (.cells #[.int .i64 0,.bool false,.slice none 0 0] 119 (0,0)):=by rw [hW1]; exact a2w _ _ _
 have hk0 : W1.heap[w.heap.size]? = some (.cells #[.slice A n cp] 29 (0,0)):=by rw [hW1]; exact a0t (a0f _ _) _
 have hc0 : W1.cell? ⟨w.heap.size,0,none⟩ = some (.slice A n cp):=(a0a hk0 0).trans rfl
 obtain ⟨m,hm⟩ : ∃ m,m = w.heap.size + 1:=⟨_,rfl⟩
 have HM:=Lib.hid hm
 rw [<- hm] at hk1
 obtain ⟨p,hp⟩ : ∃ p,p = w.heap.size:=⟨_,rfl⟩
 have HPp:=Lib.hid hp
 rw [<- hp] at hk0 hc0
 obtain ⟨⟨ca,cb,cc⟩,fa,fb,fc⟩:=cell3 hk1
 have s0 : SF W1 p m n cp A W1:=⟨Below.refl _ _,hc0,ca,cb,cc,fa,fb,fc⟩
 have HK:=Lib.hid (And.intro hk1 hk0)
 have hrz:=a2M b
 have HX:=Lib.hid (And.intro hb (And.intro hl (And.intro h0 (And.intro hb1 hn))))
 have HR1:=Lib.hid (Kd.C_below hr hb1)
 have hW256:=a8L b 256
 obtain ⟨wd,hwd⟩ : ∃ wd,wd = widN b 256:=⟨_,rfl⟩
 have hw256 : wd <= 256:=by omega
 have HWd:=Lib.hid hwd
 have hn6 : n <= 1000000:=by omega
 have HCW : Hid (∀ W : World,Below W1.heap.size W1 W -> Calls Tryz.prog 129 #[.slice A n cp] W λ e w'=>e = .returned (.int .i64 wd) /\ Below W.heap.size W w'):=Lib.hid λ W hW=>by
  have:=c5q A cp b W (Kd.C_below HR1.out hW) hl hb
  rw [<- hn,<- hwd] at this; exact this
 obtain ⟨rz,hrz1⟩ : ∃ rz,rz = a0m b:=⟨_,rfl⟩
 have HRZ:=Lib.hid hrz1
 have hpk : pickI n wd 9 = (rz : Int):=by rw [hn,hwd,hrz1]; exact hrz.1
 have HPk : Hid (∀ W : World,Calls Tryz.prog 106 #[.int .i64 n,.int .i64 wd,.int .i64 9] W λ e w'=>e = .returned (.int .i64 rz) /\ Below W.heap.size W w'):=Lib.hid λ W=>by
  have:=b4L n wd 9 W hn6 (by omega)
  rw [hpk] at this; exact this
 have HMd : Hid (∀ W : World,Below W1.heap.size W1 W -> Calls Tryz.prog 105 #[.int .i64 rz,.int .i64 256,.func (Fn.func 130) #[] #[.pointer (some ⟨p,0,none⟩)]] W λ e w'=>∃ Av cv,e = .returned (.agg #[.int .i64 rz,.bool false,.slice Av 256 cv]) /\ kq.R 128 w' W1.heap.size (λ _=>True) (.slice Av 256 cv) (a0w b) /\ Below W.heap.size W w'):=Lib.hid λ W hW=>by
  have h7:=a0e hk0 hW
  rw [hn] at h7
  have:=c5s p cp A b W h7 (Kd.C_below HR1.out hW) hl hb
  rw [<- hrz1] at this
  refine this.mono ?_
  rintro e w' ⟨v,rfl,hv,hb⟩
  obtain ⟨Av,cv,rfl⟩:=Kd.R_slice hv
  rw [a8R] at hv ⊢
  exact ⟨Av,cv,rfl,Kd.R_lower hv hW.size,hb⟩
 have hmf : ∀ (fn : Fn) (first cap : Array Value) (w : World),(Instr.makeFunc fn first cap).run Tryz.prog w = .ok (.func fn first cap) w:=λ _ _ _ _=>rfl
 rw [<- hn]
 clear hr hb hl h0 hb1 hk1 hk0 hn hrz hwd hrz1 hpk hW256
 go_enter Tryz.func97,Tryz.ntmps97
 go_wp2_with fail
 rw [<- hW1,<- hm,<- hp]
 clear hW1 hm hp
 go_wp2_with fail
 go_region_law (first
  | (go_simp; go_at_call 129; refine (HCW.out _ (by first | exact And.left ‹SF _ _ _ _ _ _ _› | exact (SF.drew ‹SF _ _ _ _ _ _ _›).1)).mono ?_; rintro e w' ⟨rfl,hb⟩; have s1:=(by first | exact SF.keep ‹_› hb | exact SF.keep (SF.drew ‹_›) hb : SF W1 p m n cp A w'); obtain ⟨g0,g1,g2,g3,g4,g5,g6,g7⟩:=id s1)
  | (go_simp; go_at_call 106; refine (HPk.out _).mono ?_; rintro e w' ⟨rfl,hb⟩; have s1:=(by first | exact SF.keep ‹_› hb | exact SF.keep (SF.drew ‹_›) hb : SF W1 p m n cp A w'); obtain ⟨g0,g1,g2,g3,g4,g5,g6,g7⟩:=id s1)
  | (go_simp; go_at_call 105; refine (HMd.out _ (by first | exact And.left ‹SF _ _ _ _ _ _ _› | exact (SF.drew ‹SF _ _ _ _ _ _ _›).1)).mono ?_; rintro e w' ⟨Av,cv,rfl,hv,hb⟩; have s1:=(by first | exact SF.keep ‹_› hb | exact SF.keep (SF.drew ‹_›) hb : SF W1 p m n cp A w'); obtain ⟨g0,g1,g2,g3,g4,g5,g6,g7⟩:=id s1))
 all_goals
  have HV:=Lib.hid hv
  have HS:=Lib.hid s1
  go_wp2_with fail
  refine bodyPost_ret (a1L (fn:=Tryz.f97) (p:=2) (u:=3) (ty:=119) rfl _ _ _ _ rfl (a1z (a1K (a0e HK.out.1 HS.out.1) _ _ _))) rfl ?_
  have hle : w.heap.size <= m:=by have:=HM.out; omega
  have hlt : m < W1.heap.size:=a0b HK.out.1
  have hB : Below w.heap.size w w':=a0d HX.out.2.2.2.1 HS.out.1
  have h4 : kq.R 128 w' w.heap.size (λ k=>k ≠ m) (.slice Av 256 cv) (a0w b):=Kd.R_mono (Kd.R_lower (Kd.R_bound HV.out) (by omega)) (λ k hk=>by have:=hk.2.1; omega)
  exact .inr ⟨HX.out.2.2.1,Av,cv,(by rw [<- HRZ.out]; rfl),Kd.R_mono (a2N h4 _ _ _) (λ _ _=>trivial),((hB.setCell hle _).setCell hle _).setCell hle _⟩
theorem a4x (A : Option Addr) (n c k : Nat) (hk : k <= n) : ∀ W : World,(Instr.slice 29 (.slice A n c) (some (.int .i64 (k : Int))) none none).run Tryz.prog W = .ok (.slice (if c = k then A else A.map (·.add (k * 1))) (n - k) (c - k)) W:=by
 intro W
 obtain ⟨i0,hi0,hz0,hz1,hz2⟩:=info_parts a0y
 have:=b7p (P:=Tryz.prog) 29 5 .i64 Tryz.underlying29 hi0 1 hz1 A n c (k : Int) (by omega) (by omega) W
 simp only [Int.toNat_natCast] at this
 exact this
set_option maxRecDepth 100000 in
set_option maxHeartbeats 1000000 in
theorem a2P (n k : Nat) (w : World) (hn : n < 4294967296) (hk : k <= 4) :
    Calls Tryz.prog 48 #[.int .u32 n,.int .i64 k] w (λ e w'=>∃ v,e = .returned v /\ (Kd.int .u8).R 5 w' w.heap.size (λ _=>True) v (leN n k) /\ Below w.heap.size w w'):=by
 go_enter Tryz.func48,Tryz.ntmps48
 go_wp2_with fail
 go_loopw [5,6,8] (λ v _ kv wr=>∃ i : Nat,i <= k /\ kv = .int .i64 i /\ Hid ((Kd.int .u8).R 5 wr w.heap.size (λ _=>True) v (leN n i) /\ Below w.heap.size w wr)) (λ _ _ kv _=>k - (intOf kv).toNat)
 case atStart=>exact ⟨0,by omega,rfl,Lib.hid ⟨Kd.R_nil _ _ _ _ _,Below.refl _ _⟩⟩
 case round=>
  obtain ⟨i,hi,rfl,H⟩:=hrel
  by_cases hlt : i < k
  · obtain ⟨Av,cv,rfl⟩:=Kd.R_slice H.out.1
    have hI : (i : Int) < (k : Int):=by omega
    have HN:=Lib.hid (a9F n i)
    have hLl : (leN n i).length = i:=a1B n i
    obtain ⟨L,hL⟩ : ∃ L,L = leN n i:=⟨_,rfl⟩
    rw [<- hL] at H HN hLl ⊢
    have HLn : Hid ((L.length + 1) * 1 <= 140737488355328):=Lib.hid (by omega)
    have HE : Hid (∀ y : Int,y = ((n / 256 ^ i % 256 : Nat) : Int) -> leN n (i + 1) = L ++ [y]):=Lib.hid (λ y hy=>by rw [hy]; exact HN.out)
    have hi4 : i = 0 \/ i = 1 \/ i = 2 \/ i = 3:=by omega
    clear hL HN
    rcases hi4 with rfl | rfl | rfl | rfl
    all_goals
     go_wp2_with (at_builtin; refine b1G .u8 (w0:=w) (W:=wr) rfl (.tmp 11) (.tmp 17) 29 5 1 rfl Tryz.underlying29 a0y (by decide) _ _ _ rfl rfl H.out.1 H.out.2 HLn.out ?_; intro v1 w3 hr3 hb3 hg3 hat3; have HA:=Lib.hid (And.intro hr3 hb3); clear hr3 hb3 hg3 hat3)
     go_roundw
     case rel=>
      have hnn:=hn
      have HV:=HA.out.1
      first
       | exact ⟨0 + 1,by omega,by go_num,Lib.hid ⟨by rw [HE.out ((n : Int) % 256) (by clear HA HV; first | rfl | (simp; done) | (simp; omega))]; exact HV,HA.out.2⟩⟩
       | exact ⟨1 + 1,by omega,by go_num,Lib.hid ⟨by rw [HE.out ((n : Int) / 256 % 256) (by clear HA HV; first | rfl | (simp; done) | (simp; omega))]; exact HV,HA.out.2⟩⟩
       | exact ⟨2 + 1,by omega,by go_num,Lib.hid ⟨by rw [HE.out ((n : Int) / 65536 % 256) (by clear HA HV; first | rfl | (simp; done) | (simp; omega))]; exact HV,HA.out.2⟩⟩
       | exact ⟨3 + 1,by omega,by go_num,Lib.hid ⟨by rw [HE.out ((n : Int) / 16777216) (by clear HA HV; simp; omega)]; exact HV,HA.out.2⟩⟩
     case measure=>simp [intOf]; omega
  · obtain rfl : i = k:=by omega
    go_wp2_with fail
    go_ret
    exact ⟨_,rfl,H.out.1,H.out.2⟩
theorem a7h (a : Nat) (ha : a < 9223372036854775808) : (BitVec.ofInt 64 (a : Int)).toNat = a:=by
 have h : BitVec.ofInt 64 (a : Int) = BitVec.ofNat 64 a:=BitVec.ofInt_natCast 64 a
 rw [h,BitVec.toNat_ofNat,Nat.mod_eq_of_lt (by omega)]
theorem b5H (a b : Nat) (ha : a < 4294967296) (hb : b < 4294967296) : bits .or .i64 (a : Int) (b : Int) = ((a ||| b : Nat) : Int):=by
 have hx : a ||| b < 2 ^ 32:=Nat.or_lt_two_pow (by omega) (by omega)
 show IntKind.i64.wrap ((BitVec.ofInt 64 (a : Int) ||| BitVec.ofInt 64 (b : Int)).toNat : Int) = _
 rw [BitVec.toNat_or,a7h a (by omega),a7h b (by omega),IntKind.wrap_i64]
 omega
theorem b5J : a0l 0 1 = [false]:=by decide
theorem b5K : a0l 1 1 = [true]:=by decide
theorem c5y {l : List Int} (h : Asc l) {i : Nat} (hi : i <= l.length) : putN l i <= 256:=by
 cases i with
 | zero=>exact Nat.zero_le _
 | succ i=>
  show (l.getD i 0).toNat + 1 <= 256
  have:=h.hi _ (a1p (show i < l.length by omega)); omega
theorem a7i {l : List Int} {n : Nat} (hn : n <= 256) : ((dirB l).take n).length = n:=by
 rw [List.length_take,a3l]; omega
def DRel (P : Nat) (l : List Int) (n : Nat) (W wr : World) : Prop:=PutRel P P (.slice none 0 0) ((dirB l).take n) W wr
theorem DRel.cell {P n : Nat} {l : List Int} {W wr : World} (h : DRel P l n W wr) (hn : n <= 256) : wr.cell? ⟨P,1,none⟩ = some (.int .i64 n):=by
 obtain ⟨v,h1,_⟩:=h
 have:=(a0a h1.blk 1).trans rfl
 rw [a7i hn] at this; exact this
theorem DRel.below {P n : Nat} {l : List Int} {w W wr : World} (h : DRel P l n W wr) (hb : Below w.heap.size w W) (hp : w.heap.size <= P) : Below w.heap.size w wr:=PutRel.bel h hb hp (λ k hk=>by simp [Value.ownBlock] at hk)
def c5z (l : List Int) (w : World) (e : Ending) (w' : World) : Prop:=∃ v,e = .returned (.tuple #[v,.bool true]) /\ (Kd.int .u8).R 5 w' w.heap.size (λ _=>True) v (dirL l) /\ Below w.heap.size w w'
set_option maxRecDepth 100000 in
set_option maxHeartbeats 4000000 in
theorem c5A (A : Option Addr) (cp : Nat) (l : List Int) (w : World) (hr : (Kd.int .i64).C w A l.length l) (hA : Asc l) (hl : l.length <= 256) :
    Calls Tryz.prog 132 #[.slice A l.length cp] w (c5z l w):=by
 obtain ⟨ad,rfl,hcs⟩:=a4M hr hA.pos
 have h00:=hcs 0 hA.pos
 rw [hA.zero,Addr.add_zero'] at h00
 obtain ⟨W,hW⟩ : ∃ W,W = w.alloc (.cells #[.slice none 0 0,.int .i64 0] 186):=⟨_,rfl⟩
 have hb1 : Below w.heap.size w W:=by rw [hW]; exact (Below.refl _ _).alloc (Nat.le_refl _) _
 have hw0 : WrVal W w.heap.size w.heap.size (.slice none 0 0) []:=by rw [hW]; exact a9q w
 obtain ⟨P,hP⟩ : ∃ P,P = w.heap.size:=⟨_,rfl⟩
 have HPW : Hid (P <= W.heap.size):=by rw [hP]; exact Lib.hid hb1.size
 rw [<- hP] at hw0
 have HP:=Lib.hid hP
 have HR:=Lib.hid (And.intro hr (And.intro hA hl))
 have HW0:=Lib.hid (And.intro hb1 hw0)
 have hne : ((l.length : Int) == 0) = false:=by have:=hA.pos; simp; intro e; subst e; simp at this
 have hpos : 0 < l.length:=hA.pos
 have hl256 : l.length <= 256:=hl
 have hne0 : ¬ l = []:=by intro e; subst e; simp at hpos
 clear hr hA hl hb1 hw0 hcs
 go_enter Tryz.func132,Tryz.ntmps132
 go_wp2_with fail
 refine (a6p _).mono ?_
 rw [<- hW,<- hP]
 clear hW hP h00
 rintro e w1 ⟨rfl,rfl⟩
 go_wp2_with fail
 go_loopw [19] (λ kv wr=>∃ i : Nat,i <= l.length /\ kv = .int .i64 i /\ Hid (DRel P l (putN l i) w1 wr)) (λ kv _=>l.length - (intOf kv).toNat)
 case atStart=>exact ⟨0,by omega,rfl,Lib.hid ⟨_,HW0.out.2,.inl rfl,Only.refl _ _⟩⟩
 case round=>
  obtain ⟨i,hi,rfl,H⟩:=hrel
  by_cases hlt : i < l.length
  · obtain ⟨c,hc,hc256⟩:=HR.out.2.1.get hlt
    have hB:=H.out.below HW0.out.1 (by have:=HP.out; omega)
    obtain ⟨ad2,hA2,hcx⟩:=a0u (Kd.C_below HR.out.1 hB) i hlt
    cases hA2
    rw [hc] at hcx
    have hgap : Hid ((¬ 0 < i /\ i = 0) \/ (0 < i /\ ∃ j c' : Nat,(i : Int) - 1 = (j : Int) /\ wr.cell? (ad.add j) = some (.int .i64 c') /\ c' < c /\ (j : Int) < (l.length : Int))):=by
     rcases Nat.eq_zero_or_pos i with h0 | h0
     · exact Lib.hid (.inl ⟨by omega,h0⟩)
     · obtain ⟨c',hc',_⟩:=HR.out.2.1.get (i:=i - 1) (by omega)
       obtain ⟨ad3,hA3,hcx'⟩:=a0u (Kd.C_below HR.out.1 hB) (i - 1) (by omega)
       cases hA3
       rw [hc'] at hcx'
       have h2:=HR.out.2.1.asc (i - 1) (by omega)
       rw [show i - 1 + 1 = i by omega] at h2
       exact Lib.hid (.inr ⟨h0,i - 1,c',by omega,hcx',by omega,by omega⟩)
    have hpl:=HR.out.2.1.put_le hlt hc
    have HC:=Lib.hid (And.intro hc (And.intro hc256 (And.intro hpl hlt)))
    have hc2 : c < 256:=hc256
    have HZ1:=Lib.hid (c4B (l:=l) hlt hc hc2)
    have HZ0 : Hid (∀ n,putN l i <= n -> n < c -> (dirB l).take (n + 1) = (dirB l).take n ++ [false]):=Lib.hid λ n g1 g2=>c4A HR.out.2.1 hlt hc hc2 g1 g2
    obtain ⟨i1,hi1⟩ : ∃ i1,i1 = i + 1:=⟨_,rfl⟩
    rw [<- hi1] at HZ1
    have HI : Hid (DRel P l (putN l i1) w1 wr -> i1 <= l.length /\ (i1 : Int) = (i : Int) + 1):=Lib.hid λ _=>⟨by omega,by omega⟩
    have HI1 : Hid (i1 <= l.length /\ (i1 : Int) = (i : Int) + 1):=Lib.hid ⟨by omega,by omega⟩
    obtain ⟨N0,hN0⟩ : ∃ N0,N0 = putN l i:=⟨_,rfl⟩
    rw [<- hN0] at H hpl HZ0
    have HPl:=Lib.hid hpl
    clear hc hc256 hB hpl hN0 hi1 HC HI
    have hd256 : decide ((256 : Int) <= (c : Int)) = false:=decide_eq_false (by omega)
    rcases hgap.out with ⟨hz,hz0⟩ | ⟨hz,j,c',hij,hcy,hcc,hjl⟩
    · subst hz0
      rw [Addr.add_zero'] at hcx
      rw [show ((0 : Nat) : Int) = 0 from rfl] at HI1 ⊢
      clear hz hgap
      go_wp2_with fail
      go_loopw [] (λ wr=>Hid (∃ n,N0 <= n /\ n <= c /\ DRel P l n w1 wr)) (λ wr=>c - (intOf ((wr.cell? ⟨P,1,none⟩).getD undef)).toNat)
      case atStart=>exact Lib.hid ⟨_,Nat.le_refl _,HPl.out,H.out⟩
      case round=>
       obtain ⟨n,hn1,hn2,hn3⟩:=hrel.out
       obtain ⟨v1,k1,k2,k3⟩:=hn3
       have hcell:=DRel.cell ⟨v1,k1,k2,k3⟩ (show n <= 256 by omega)
       have hlen:=a7i (l:=l) (show n <= 256 by omega)
       have HK:=Lib.hid (And.intro k1 (And.intro k2 k3))
       have HBs : Hid (P <= wr.heap.size):=Lib.hid (Nat.le_trans HPW.out k3.size)
       have HN:=Lib.hid (And.intro hn1 hn2)
       have HBt:=Lib.hid (b2M P P v1 _ wr k1)
       rw [hlen] at HBt
       have HLe : Hid (((dirB l).take n).length <= 900000):=Lib.hid (by omega)
       have HCell:=Lib.hid hcell
       clear k1 k2 k3 hn1 hlen hrel hcell
       go_wp2_with fail
       refine HBt.out.mono ?_
       rintro e w2 ⟨rfl,rfl⟩
       by_cases hnc : n < c
       · have hz2:=HZ0.out n HN.out.1 hnc
         have HZ2:=Lib.hid hz2
         clear hz2
         go_wp2_with fail
         refine (a1W P P v1 _ 0 1 wr HK.out.1 HBs.out HLe.out (by decide) (by decide)).mono ?_
         rintro e w3 ⟨rfl,hp⟩
         have HP3 : Hid (DRel P l (n + 1) w1 w3):=Lib.hid (by
          have:=PutRel.trans HK.out hp
          unfold DRel
          rw [HZ2.out,<- b5J]; exact this)
         clear hp
         go_wp2_with fail
         go_roundw
         case rel=>exact Lib.hid ⟨n + 1,by have:=HN.out.1; omega,by omega,HP3.out⟩
         case measure=>
          rw [HP3.out.cell (by omega),HCell.out]
          simp [intOf]; omega
       · obtain rfl : n = c:=by omega
         go_wp2_with fail
         refine (a1W P P v1 _ 1 1 wr HK.out.1 HBs.out HLe.out (by decide) (by decide)).mono ?_
         rintro e w3 ⟨rfl,hp⟩
         have HP3 : Hid (DRel P l (putN l i1) w1 w3):=Lib.hid (by
          have:=PutRel.trans HK.out hp
          unfold DRel
          rw [HZ1.out,<- b5K]; exact this)
         clear hp
         go_wp2_with fail
         go_roundw
         case rel=>exact ⟨i1,HI1.out.1,by first | (rw [HI1.out.2]; done) | (rw [HI1.out.2]; rfl) | (rw [HI1.out.2]; go_num),HP3.out⟩
         case measure=>first | (simp [intOf]; done) | (simp [intOf]; omega)
    · clear hgap
      have hcd : decide (c <= c') = false:=decide_eq_false (by omega)
      clear hcc
      go_wp2_with fail
      go_loopw [] (λ wr=>Hid (∃ n,N0 <= n /\ n <= c /\ DRel P l n w1 wr)) (λ wr=>c - (intOf ((wr.cell? ⟨P,1,none⟩).getD undef)).toNat)
      case atStart=>exact Lib.hid ⟨_,Nat.le_refl _,HPl.out,H.out⟩
      case round=>
       obtain ⟨n,hn1,hn2,hn3⟩:=hrel.out
       obtain ⟨v1,k1,k2,k3⟩:=hn3
       have hcell:=DRel.cell ⟨v1,k1,k2,k3⟩ (show n <= 256 by omega)
       have hlen:=a7i (l:=l) (show n <= 256 by omega)
       have HK:=Lib.hid (And.intro k1 (And.intro k2 k3))
       have HBs : Hid (P <= wr.heap.size):=Lib.hid (Nat.le_trans HPW.out k3.size)
       have HN:=Lib.hid (And.intro hn1 hn2)
       have HBt:=Lib.hid (b2M P P v1 _ wr k1)
       rw [hlen] at HBt
       have HLe : Hid (((dirB l).take n).length <= 900000):=Lib.hid (by omega)
       have HCell:=Lib.hid hcell
       clear k1 k2 k3 hn1 hlen hrel hcell
       go_wp2_with fail
       refine HBt.out.mono ?_
       rintro e w2 ⟨rfl,rfl⟩
       by_cases hnc : n < c
       · have hz2:=HZ0.out n HN.out.1 hnc
         have HZ2:=Lib.hid hz2
         clear hz2
         go_wp2_with fail
         refine (a1W P P v1 _ 0 1 wr HK.out.1 HBs.out HLe.out (by decide) (by decide)).mono ?_
         rintro e w3 ⟨rfl,hp⟩
         have HP3 : Hid (DRel P l (n + 1) w1 w3):=Lib.hid (by
          have:=PutRel.trans HK.out hp
          unfold DRel
          rw [HZ2.out,<- b5J]; exact this)
         clear hp
         go_wp2_with fail
         go_roundw
         case rel=>exact Lib.hid ⟨n + 1,by have:=HN.out.1; omega,by omega,HP3.out⟩
         case measure=>
          rw [HP3.out.cell (by omega),HCell.out]
          simp [intOf]; omega
       · obtain rfl : n = c:=by omega
         go_wp2_with fail
         refine (a1W P P v1 _ 1 1 wr HK.out.1 HBs.out HLe.out (by decide) (by decide)).mono ?_
         rintro e w3 ⟨rfl,hp⟩
         have HP3 : Hid (DRel P l (putN l i1) w1 w3):=Lib.hid (by
          have:=PutRel.trans HK.out hp
          unfold DRel
          rw [HZ1.out,<- b5K]; exact this)
         clear hp
         go_wp2_with fail
         go_roundw
         case rel=>exact ⟨i1,HI1.out.1,by first | (rw [HI1.out.2]; done) | (rw [HI1.out.2]; rfl) | (rw [HI1.out.2]; go_num),HP3.out⟩
         case measure=>first | (simp [intOf]; omega) | (simp [intOf]; done)
  · obtain rfl : i = l.length:=by omega
    have hB:=H.out.below HW0.out.1 (by have:=HP.out; omega)
    have hpn:=c5y HR.out.2.1 (Nat.le_refl l.length)
    obtain ⟨v1,k1,k2,k3⟩:=H.out
    have hE:=c4D HR.out.2.1
    obtain ⟨n,hn⟩ : ∃ n,n = putN l l.length:=⟨_,rfl⟩
    rw [<- hn] at k1 hE hpn
    have hlen:=a7i (l:=l) hpn
    obtain ⟨bs,hbs⟩ : ∃ bs,bs = (dirB l).take n:=⟨_,rfl⟩
    rw [<- hbs] at k1 hE hlen
    have HK:=Lib.hid k1
    have HE:=Lib.hid hE
    have HB:=Lib.hid hB
    have hbl : (packB bs).length = (n + 7) / 8:=by rw [a0s,hlen]
    have HL:=Lib.hid (And.intro hlen hbl)
    obtain ⟨pb,hpb⟩ : ∃ pb,pb = packB bs:=⟨_,rfl⟩
    obtain ⟨q,hq⟩ : ∃ q,q = (n + 7) / 8:=⟨_,rfl⟩
    have hq32 : q <= 32:=by omega
    rw [<- hpb,<- hq] at HE
    have hpq : pb.length = q:=by rw [hpb,hq]; exact hbl
    have HPQ:=Lib.hid (And.intro hpb hpq)
    clear k1 k2 k3 hE hB hn hlen hbs hbl hpb hq hpq
    go_wp2_with fail
    refine (a6U P P v1 bs wr HK.out (by have:=HL.out.1; omega)).mono ?_
    rintro e w2 ⟨u2,rfl,hu2,hb2⟩
    rw [<- HPQ.out.1] at hu2
    obtain ⟨A2,c2,rfl⟩:=Kd.R_slice hu2
    rw [HPQ.out.2] at hu2 ⊢
    have HK2 : Hid (WrVal w2 P P v1 bs):=Lib.hid ⟨a0e HK.out.blk hb2,Kd.R_below HK.out.row hb2⟩
    have HU2:=Lib.hid hu2
    have HB2:=Lib.hid (a0d HB.out hb2)
    clear hu2 hb2
    go_wp2_with fail
    refine (a6U P P v1 bs w2 HK2.out (by have:=HL.out.1; omega)).mono ?_
    rintro e w3 ⟨u3,rfl,hu3,hb3⟩
    rw [<- HPQ.out.1] at hu3
    obtain ⟨A3,c3,rfl⟩:=Kd.R_slice hu3
    rw [HPQ.out.2] at hu3 ⊢
    have HU3 : Hid ((Kd.int .u8).R 5 w3 w.heap.size (λ _=>True) (.slice A2 q c2) pb):=Lib.hid (Kd.R_lower (Kd.R_below HU2.out hb3) HB.out.size)
    have HB3:=Lib.hid (a0d HB2.out hb3)
    have HS3:=Lib.hid HB3.out.size
    have HLn : Hid ((pb.length + ((32 : Int) - (q : Int)).toNat) * 1 <= 140737488355328):=Lib.hid (by have:=HPQ.out.2; omega)
    have hge : (0 : Int) <= 32 - (q : Int):=by omega
    have HGe:=Lib.hid hge
    clear hu3 hb3
    go_wp2_with (at_builtin; refine Kd.R_append_zeros (Kd.int .u8) (w0:=w) (W:=w3) w.heap.size rfl (.tmp 49) (.tmp 53) 29 3 5 (.int .u8 0) 1 rfl Tryz.underlying29 (k:=.i64) Tryz.underlying3 a0y rfl (by decide) (by decide) (.slice A2 q c2) pb (0 : Int) (kx:=.i64) (32 - (q : Int)) (λ _=>True) rfl rfl rfl (λ _ _=>trivial) HU3.out HGe.out HB3.out HS3.out HLn.out ?_; intro v4 w4 hr4 hb4 hg4 hat4; have HA4:=Lib.hid (And.intro hr4 hb4); clear hr4 hb4 hg4 hat4)
    go_ret2
    refine ⟨v4,rfl,?_,HA4.out.2⟩
    rw [HE.out]
    have h9:=HA4.out.1
    rw [show ((32 : Int) - (q : Int)).toNat = 32 - q by omega] at h9
    exact h9
theorem b5L (r : Nat) (qs : List (List Int)) (c : Int) : ∀ l : List Int,hdrsB r qs (l ++ [c]) = hdrsB r qs l ++ hdrB (qs.getD c.toNat []) 257 0 (2 ^ r)
 | []=>by simp [hdrsB]
 | x :: l=>by
  show hdrB _ 257 0 (2 ^ r) ++ hdrsB r qs (l ++ [c]) = (hdrB _ 257 0 (2 ^ r) ++ hdrsB r qs l) ++ _
  rw [b5L r qs c l,List.append_assoc]
theorem a7j {r : Nat} {qs : List (List Int)} (hr9 : r <= 9) : ∀ l : List Int,(∀ c ∈ l,Nrm (qs.getD c.toNat []) r) -> (hdrsB r qs l).length <= l.length * 3072
 | [],_=>by simp [hdrsB]
 | x :: l,h=>by
  have hn:=h x (by simp)
  have ih:=a7j hr9 l (λ c hc=>h c (by simp [hc]))
  have e2 : (2 : Int) ^ r = ((2 ^ r : Nat) : Int):=by simp
  have h1:=a4q hn.r12 hn.len hn.nn 257 0 (2 ^ r) (by omega) (by rw [List.drop_zero,hn.sum,e2]) (by rw [Nat.pow_succ]; have:=Nat.two_pow_pos r; omega)
  have h2 : (256 - 0) * (r + 3) <= 256 * 12:=Nat.mul_le_mul (by omega) (by omega)
  show (hdrB _ 257 0 (2 ^ r) ++ hdrsB r qs l).length <= _
  rw [List.length_append,List.length_cons]; omega
def a3n (r : Nat) (qs : List (List Int)) (l : List Int) : List Int:=[(r : Int)] ++ dirL l ++ packB (hdrsB r qs l)
def c5B (r : Nat) (qs : List (List Int)) (l : List Int) (w : World) (e : Ending) (w' : World) : Prop:=∃ v,e = .returned v /\ (Kd.int .u8).R 5 w' w.heap.size (λ _=>True) v (a3n r qs l) /\ Below w.heap.size w w'
set_option maxRecDepth 100000 in
set_option maxHeartbeats 4000000 in
theorem c5C (r c cl : Nat) (A Al : Option Addr) (qs : List (List Int)) (l : List Int) (w : World) (hr : kq.C w A qs.length qs) (hq : qs.length = 256) (hl : (Kd.int .i64).C w Al l.length l) (hA : Asc l) (hll : l.length <= 256) (hr9 : r <= 9) (hN : ∀ c ∈ l,Nrm (qs.getD c.toNat []) r) :
    Calls Tryz.prog 98 #[.agg #[.int .i64 r,.bool false,.slice A 256 c],.slice Al l.length cl] w (c5B r qs l w):=by
 obtain ⟨W,hW⟩ : ∃ W,W = w.alloc (.cells #[.int .i64 r,.bool false,.slice A 256 c] 119):=⟨_,rfl⟩
 have hb1 : Below w.heap.size w W:=by rw [hW]; exact (Below.refl _ _).alloc (Nat.le_refl _) _
 have hk1 : W.heap[w.heap.size]? = some (.cells #[.int .i64 r,.bool false,.slice A 256 c] 119 (0,0)):=by rw [hW]; exact a0f _ _
 obtain ⟨mb,hmb⟩ : ∃ mb,mb = w.heap.size:=⟨_,rfl⟩
 rw [<- hmb] at hk1
 have HMb:=Lib.hid hmb
 have HR:=Lib.hid (And.intro hr (And.intro hl (And.intro hA (And.intro hll (And.intro hN hq)))))
 have H1:=Lib.hid (And.intro hb1 hk1)
 have hll2 : l.length <= 256:=hll
 clear hr hq hl hA hll hN hb1 hk1
 go_enter Tryz.func98,Tryz.ntmps98
 go_wp2_with fail
 rw [<- hW,<- hmb]
 clear hW hmb
 refine (c5A Al cl l W (Kd.C_below HR.out.2.1 H1.out.1) HR.out.2.2.1 HR.out.2.2.2.1).mono ?_
 rintro e w2 ⟨vd,rfl,hvd,hb2⟩
 obtain ⟨Ad,cd,rfl⟩:=Kd.R_slice hvd
 rw [a3K] at hvd ⊢
 have HD:=Lib.hid (Kd.R_reads' hvd).2.2
 have HB2:=Lib.hid (a0d H1.out.1 hb2)
 have HK2:=Lib.hid (a0e H1.out.2 hb2)
 clear hvd hb2
 go_wp2_with fail
 refine (a6p _).mono ?_
 rintro e w3 ⟨rfl,hw3⟩
 have hw0 : WrVal w3 w2.heap.size w2.heap.size (.slice none 0 0) []:=by rw [hw3]; exact a9q w2
 have hb3 : Below w2.heap.size w2 w3:=by rw [hw3]; exact (Below.refl _ _).alloc (Nat.le_refl _) _
 obtain ⟨P,hP⟩ : ∃ P,P = w2.heap.size:=⟨_,rfl⟩
 rw [<- hP] at hw0 ⊢
 have HW0:=Lib.hid (And.intro hw0 (And.intro hb3 hP))
 have HB3:=Lib.hid (a0d HB2.out hb3)
 clear hw3 hw0 hb3 hP
 go_wp2_with fail
 go_loopw [18] (λ kv wr=>∃ i : Nat,i <= l.length /\ kv = .int .i64 i /\ Hid (PutRel P P (.slice none 0 0) (hdrsB r qs (l.take i)) w3 wr)) (λ kv _=>l.length - (intOf kv).toNat)
 case atStart=>exact ⟨0,by omega,rfl,Lib.hid ⟨_,HW0.out.1,.inl rfl,Only.refl _ _⟩⟩
 case round=>
  obtain ⟨i,hi,rfl,H⟩:=hrel
  have hBw2 : Below w2.heap.size w2 wr:=PutRel.bel H.out HW0.out.2.1 (by have:=HW0.out.2.2; omega) (λ k hk=>by simp [Value.ownBlock] at hk)
  have hBw : Below w.heap.size w wr:=HB2.out.trans (hBw2.mono HB2.out.size)
  obtain ⟨⟨ka,kb,kc⟩,-⟩:=cell3 (a0e HK2.out hBw2)
  by_cases hlt : i < l.length
  · obtain ⟨cx,hc,hc256⟩:=HR.out.2.2.1.get hlt
    obtain ⟨ad,hA2,hcx⟩:=a0u (Kd.C_below HR.out.2.1 hBw) i hlt
    subst hA2
    rw [hc] at hcx
    have hm:=a1p hlt
    rw [hc] at hm
    have hn:=HR.out.2.2.2.2.1 _ hm
    rw [Int.toNat_natCast] at hn
    obtain ⟨aq,B,cq,hA3,hcq',-,hCq⟩:=kq_at HR.out.1 cx (by rw [HR.out.2.2.2.2.2]; exact hc256)
    subst hA3
    rw [hn.len] at hcq' hCq
    have hcq:=a0o hBw hcq'
    have HCq:=Lib.hid hCq
    have HBw:=Lib.hid (And.intro hBw hBw2)
    clear hcq'
    have ht : l.take (i + 1) = l.take i ++ [(cx : Int)]:=by rw [List.take_succ_eq_append_getElem hlt,<- hc,List.getD_eq_getElem?_getD,List.getElem?_eq_getElem hlt,Option.getD_some]
    have hs : hdrsB r qs (l.take (i + 1)) = hdrsB r qs (l.take i) ++ hdrB (qs.getD cx []) 257 0 (2 ^ r):=by rw [ht,b5L,Int.toNat_natCast]
    have hlb:=a7j (r:=r) (qs:=qs) hr9 (l.take i) (λ x hx=>HR.out.2.2.2.2.1 x (List.mem_of_mem_take hx))
    have hlb2 : (hdrsB r qs (l.take i)).length <= 800000:=by rw [List.length_take] at hlb; omega
    have HS:=Lib.hid hs
    have HN:=Lib.hid (And.intro hn hlb2)
    have hc2 : (cx : Int) < 256:=by omega
    obtain ⟨v1,k1,k2,k3⟩:=H.out
    have HK:=Lib.hid (And.intro k1 (And.intro k2 k3))
    have HBs : Hid (P <= wr.heap.size):=Lib.hid (Nat.le_trans (by have:=HW0.out.2.2; have:=HW0.out.2.1.size; omega) k3.size)
    clear hc hm hn hCq ht hs hlb hlb2 k1 k2 k3 hBw2 hBw
    go_wp2_with fail
    refine (b4T P P cq r B v1 (hdrsB r qs (l.take i)) (qs.getD cx []) w wr HK.out.1 HBs.out HN.out.2 HCq.out HBw.out.1 (by have:=HW0.out.2.2; have:=HB2.out.size; omega) (by have:=HW0.out.2.2; have:=HB2.out.size; omega) HN.out.1).mono ?_
    rintro e w5 ⟨rfl,hp⟩
    have HP5:=Lib.hid (PutRel.trans HK.out hp)
    clear hp
    go_wp2_with fail
    go_roundw
    case rel=>exact ⟨i + 1,by omega,by go_num,Lib.hid (by rw [HS.out]; exact HP5.out)⟩
    case measure=>first | (simp [intOf]; done) | (simp [intOf]; omega)
  · obtain rfl : i = l.length:=by omega
    rw [List.take_length] at H
    obtain ⟨v1,k1,k2,k3⟩:=H.out
    have hlb:=a7j (r:=r) (qs:=qs) hr9 l HR.out.2.2.2.2.1
    have HX:=Lib.hid (And.intro k1 (by omega : (hdrsB r qs l).length <= 800000))
    obtain ⟨X,hX⟩ : ∃ X,X = packB (hdrsB r qs l):=⟨_,rfl⟩
    have HXX:=Lib.hid hX
    have HXl : Hid (X.length <= 100001):=Lib.hid (by rw [hX,a0s]; omega)
    have HBw:=Lib.hid hBw
    have HD2:=Lib.hid (Kd.C_below HD.out hBw2)
    have hDl:=a3K l
    obtain ⟨D,hD⟩ : ∃ D,D = dirL l:=⟨_,rfl⟩
    rw [<- hD] at HD2 hDl
    have HDD:=Lib.hid (And.intro hD hDl)
    clear k1 k2 k3 hlb hBw hBw2 hX hD hDl H
    have hrw : IntKind.u8.wrap (r : Int) = (r : Int):=by rw [IntKind.wrap_u8]; omega
    have hWl : Below w.heap.size w (wr.alloc (.cells #[.int .u8 (r : Int)] 5)):=HBw.out.alloc HBw.out.size _
    have HWl:=Lib.hid (And.intro hWl hWl.size)
    have HO1 : Hid ((Kd.int .u8).R 5 (wr.alloc (.cells #[.int .u8 (r : Int)] 5)) w.heap.size (λ _=>True) (.slice (some ⟨wr.heap.size,0,none⟩) 1 1) [(r : Int)]):=Lib.hid (a2a .u8 5 wr w.heap.size (λ _=>True) trivial HBw.out.size [(r : Int)] (by simp))
    have HD3 : Hid ((Kd.int .u8).C (wr.alloc (.cells #[.int .u8 (r : Int)] 5)) Ad 32 D):=Lib.hid (by have:=Kd.C_alloc HD2.out (.cells #[.int .u8 (r : Int)] 5); rw [HDD.out.2] at this; exact this)
    have HL1 : Hid ((([(r : Int)] : List Int).length + 32) * 1 <= 140737488355328):=Lib.hid (by simp)
    have HWr : Hid (WrVal wr P P v1 (hdrsB r qs l)):=HX.out.1
    have HWr2 : Hid (WrVal (wr.alloc (.cells #[.int .u8 (r : Int)] 5)) P P v1 (hdrsB r qs l)):=Lib.hid ⟨a0t HX.out.1.blk _,Kd.R_alloc HX.out.1.row _⟩
    have HZ33 : Hid (([(r : Int)] ++ D).length = 33):=Lib.hid (by rw [List.length_append,HDD.out.2]; rfl)
    clear hWl
    go_wp2_with (at_builtin; refine Kd.R_append_rows (Kd.int .u8) (Rr:=(Kd.int .u8).K (wr.alloc (.cells #[.int .u8 (r : Int)] 5))) (w0:=w) (W:=wr.alloc (.cells #[.int .u8 (r : Int)] 5)) w.heap.size rfl (.tmp 33) (.tmp 34) 29 5 (.int .u8 0) 1 rfl Tryz.underlying29 a0y rfl (by decide) (by decide) (.slice (some ⟨wr.heap.size,0,none⟩) 1 1) [(r : Int)] D Ad 32 cd (λ _=>True) (λ _=>False) rfl rfl HO1.out HD3.out (λ _ _ h=>h) (λ _ h=>h.elim) (λ _ _=>trivial) HWl.out.1 HWl.out.2 HL1.out ?_; intro vi w5 hr5 hb5 hg5 hat5; have HG5:=Lib.hid (And.intro hg5 hat5); obtain ⟨A5,c5,rfl⟩:=Kd.R_slice hr5; rw [HZ33.out] at hr5 ⊢; have HR5:=Lib.hid (And.intro hr5 hb5); clear hr5 hb5 hg5 hat5)
    have HW5 : Hid (WrVal w5 P P v1 (hdrsB r qs l)):=Lib.hid ⟨a0O HWr2.out.blk HG5.out.1 (λ e=>by have:=a0b HWr.out.blk; simp [Value.ownBlock] at e; omega),Kd.R_mono (Kd.R_grown (Kd.R_alloc (Kd.R_bound HWr.out.row) _) HG5.out.1 (λ k hk e=>by have:=hk.2.2.1; simp [Value.ownBlock] at e; omega)) (λ k hk=>hk.1)⟩
    have HX8 : Hid ((hdrsB r qs l).length <= 900000):=Lib.hid (by have:=HX.out.2; omega)
    obtain ⟨Z,hZ⟩ : ∃ Z,Z = [(r : Int)] ++ D:=⟨_,rfl⟩
    rw [<- hZ] at HR5
    have HZ:=Lib.hid (And.intro hZ (by rw [hZ]; exact HZ33.out : Z.length = 33))
    clear hZ
    refine (a6U P P v1 _ w5 HW5.out HX8.out).mono ?_
    rintro e w6 ⟨v6,rfl,hv6,hb6⟩
    rw [<- HXX.out] at hv6
    obtain ⟨A6,c6,rfl⟩:=Kd.R_slice hv6
    have HO6:=Lib.hid (Kd.R_below HR5.out.1 hb6)
    have HX6:=Lib.hid (Kd.R_reads' hv6).2.2
    have HB6:=Lib.hid (And.intro (a0d HR5.out.2 hb6) (a0d HR5.out.2 hb6).size)
    have HL6 : Hid ((Z.length + X.length) * 1 <= 140737488355328):=Lib.hid (by have:=HZ.out.2; have:=HXl.out; omega)
    clear hv6 hb6
    go_wp2_with (at_builtin; refine Kd.R_append_rows (Kd.int .u8) (Rr:=(Kd.int .u8).K w6) (w0:=w) (W:=w6) w.heap.size rfl (.tmp 35) (.tmp 37) 29 5 (.int .u8 0) 1 rfl Tryz.underlying29 a0y rfl (by decide) (by decide) (.slice A5 33 c5) Z X A6 X.length c6 (λ _=>True) (λ _=>False) rfl rfl HO6.out HX6.out (λ _ _ h=>h) (λ _ h=>h.elim) (λ _ _=>trivial) HB6.out.1 HB6.out.2 HL6.out ?_; intro v7 w7 hr7 hb7 hg7 hat7; have HR7:=Lib.hid (And.intro hr7 hb7); clear hr7 hb7 hg7 hat7)
    go_ret
    refine ⟨v7,rfl,?_,HR7.out.2⟩
    unfold a3n
    rw [<- HXX.out,<- HDD.out.1,<- HZ.out.1]
    exact HR7.out.1
theorem c5D {b : List Int} (hb : Bytes b) (hl : b.length <= 1000000) : ∀ c ∈ presN b 256,Nrm ((a0w b).getD c.toNat []) (a0m b):=by
 intro c hc
 have hr:=a2M b
 obtain ⟨i,hi,e⟩:=a9w hc
 obtain ⟨c',h1,h2,h3⟩:=a8V b hi
 have : c = (c' : Int):=by rw [<- e,h1]
 subst this
 rw [Int.toNat_natCast,a6S b h2]
 obtain ⟨n1,n2,n3⟩:=a9v hb hl h2 h3
 exact ⟨n1,n2,n3,by omega,by omega⟩
def SLater (W1 W : World) : Prop:=Below W1.heap.size W1 W
theorem SLater.keep {W1 W w' : World} (h : SLater W1 W) (hb : Below W.heap.size W w') : SLater W1 w':=a0d h hb
theorem SLater.drew {W1 W : World} (h : SLater W1 W) : SLater W1 W.drew:=Below.drew h
def c5E (b : List Int) (w : World) (e : Ending) (w' : World) : Prop:=∃ v,e = .returned (.tuple #[v,.int .i64 0]) /\ (Kd.int .u8).R 5 w' w.heap.size (λ _=>True) v (a1c b) /\ Below w.heap.size w w'
set_option maxRecDepth 100000 in
theorem c5F (A : Option Addr) (cp : Nat) (w : World) : Calls Tryz.prog 86 #[.slice A 0 cp] w (λ e w'=>e = .returned (.tuple #[.slice none 0 0,.int .i64 1]) /\ Below w.heap.size w w'):=by
 have HZ:=Lib.hid (c5t A cp w)
 go_enter Tryz.func86,Tryz.ntmps86
 go_wp2_with fail
 refine HZ.out.mono ?_
 rintro e w1 (⟨_,rfl,hb1⟩ | ⟨h,_⟩)
 · have HB1:=Lib.hid hb1
   clear hb1
   go_wp2_with fail
   go_ret2
   exact ⟨rfl,HB1.out.alloc HB1.out.size _⟩
 · cases h
set_option maxRecDepth 100000 in
set_option maxHeartbeats 4000000 in
theorem c5G (A : Option Addr) (cp : Nat) (b : List Int) (w : World) (hr : (Kd.int .u8).C w A b.length b) (hb : Bytes b) (hl : b.length <= 40000) (h0 : 0 < b.length) :
    Calls Tryz.prog 86 #[.slice A b.length cp] w (c5E b w):=by
 have HR:=Lib.hid (And.intro hr (And.intro hb (And.intro hl h0)))
 have HCan : Hid (canM (a0m b : Nat) false (a0w b) b = true):=a4p (one:=false) hb (by omega) h0
 have HZ:=Lib.hid (c5u A cp b w hr hb (by omega) h0)
 have HRok:=Lib.hid (a2M b)
 have HFit:=Lib.hid (a4X (a4Y HCan.out).1 hb)
 have HNr:=Lib.hid (c5D hb (by omega : b.length <= 1000000))
 obtain ⟨r,hr'⟩ : ∃ r,r = a0m b:=⟨_,rfl⟩
 obtain ⟨q,hq'⟩ : ∃ q,q = a0w b:=⟨_,rfl⟩
 have HQl : Hid (q.length = 256):=Lib.hid (by rw [hq']; exact a8R b)
 have HRQ:=Lib.hid (And.intro hr' hq')
 rw [<- hr',<- hq'] at HCan HFit HNr
 rw [<- hr'] at HRok
 obtain ⟨L,hL⟩ : ∃ L,L = presN b 256:=⟨_,rfl⟩
 have HL : Hid (L = presN b 256 /\ Asc L /\ L.length <= 256):=Lib.hid ⟨hL,by rw [hL]; exact c4E h0,by rw [hL]; exact a6L b 256⟩
 rw [<- hL] at HNr
 clear hr hb hl h0 hL
 go_enter Tryz.func86,Tryz.ntmps86
 go_wp2_with fail
 refine HZ.out.mono ?_
 rintro e w1 (⟨h,_⟩ | ⟨_,Av,cv,rfl,hv,hb1⟩)
 · have:=HR.out.2.2.2; omega
 rw [<- hr']
 rw [<- hq'] at hv
 have HV:=Lib.hid (Kd.R_reads' hv).2.2
 have HB1:=Lib.hid hb1
 clear hv hb1 hr' hq'
 obtain ⟨w2,hw2⟩ : ∃ w2,w2 = w1.alloc (.cells #[.int .i64 r,.bool false,.slice Av 256 cv] 119):=⟨_,rfl⟩
 have HB2 : Hid (Below w.heap.size w w2):=Lib.hid (by rw [hw2]; exact HB1.out.alloc HB1.out.size _)
 have HV2 : Hid (kq.C w2 Av q.length q):=Lib.hid (by rw [hw2]; exact Kd.C_alloc HV.out _)
 have hk2 : w2.heap[w1.heap.size]? = some (.cells #[.int .i64 r,.bool false,.slice Av 256 cv] 119 (0,0)):=by rw [hw2]; exact a0f _ _
 obtain ⟨mb,hmb⟩ : ∃ mb,mb = w1.heap.size:=⟨_,rfl⟩
 rw [<- hmb] at hk2
 have HK2:=Lib.hid hk2
 clear hk2
 have HEnc:=b3l (r : Nat) false Av cv q A cp b w2 HV2.out (by have:=HQl.out; omega) (Kd.C_below HR.out.1 HB2.out) HR.out.2.1 (by have:=HR.out.2.2.1; omega)
 rw [HQl.out] at HEnc
 have HE:=Lib.hid HEnc
 clear HEnc
 go_wp2_with fail
 rw [<- hw2,<- hmb]
 clear hw2 hmb
 refine HE.out.mono ?_
 rintro e w3 ⟨_,h2,hb3⟩
 obtain ⟨vp,rfl,hvp⟩:=h2 HCan.out
 obtain ⟨Ap,cpp,rfl⟩:=Kd.R_slice hvp
 have HB3 : Hid (Below w.heap.size w w3):=Lib.hid (HB2.out.trans (hb3.mono HB2.out.size))
 have hk3:=a0e HK2.out hb3
 have HV3 : Hid (kq.C w3 Av q.length q):=Lib.hid (Kd.C_below HV2.out hb3)
 have HP3:=Lib.hid (Kd.R_reads' hvp).2.2
 obtain ⟨Pl,hPl⟩ : ∃ Pl,Pl = packB (a0S (r : Nat) false q b ++ [true]):=⟨_,rfl⟩
 have HPl:=Lib.hid hPl
 rw [<- hPl] at HP3 ⊢
 have HPlen : Hid (Pl.length <= 700000):=Lib.hid (by
  rw [hPl,a0s,List.length_append]
  have:=HFit.out; have:=HR.out.2.2.1; simp only [List.length_singleton]; omega)
 have HK3:=Lib.hid hk3
 obtain ⟨⟨ka,kb,kc⟩,-⟩:=cell3 hk3
 have s0 : SLater w3 w3:=Below.refl _ _
 have HPres : Hid (∀ W : World,SLater w3 W -> Calls Tryz.prog 99 #[.slice A b.length cp] W λ e w'=>∃ Al cl,e = .returned (.slice Al L.length cl) /\ (Kd.int .i64).C w' Al L.length L /\ Below W.heap.size W w'):=Lib.hid λ W hW=>by
  refine (b5B A cp b W (Kd.C_below HR.out.1 (HB3.out.trans (Below.mono hW HB3.out.size))) (by have:=HR.out.2.2.1; omega) HR.out.2.1).mono ?_
  rintro e w' ⟨v,rfl,hv,hb⟩
  obtain ⟨Al,cl,rfl⟩:=Kd.R_slice hv
  rw [<- HL.out.1] at hv ⊢
  exact ⟨Al,cl,rfl,(Kd.R_reads' hv).2.2,hb⟩
 have HHead : Hid (∀ (W : World) (Al : Option Addr) (cl : Nat),SLater w3 W -> (Kd.int .i64).C W Al L.length L -> Calls Tryz.prog 98 #[.agg #[.int .i64 r,.bool false,.slice Av 256 cv],.slice Al L.length cl] W λ e w'=>∃ Ah ch,e = .returned (.slice Ah (a3n r q L).length ch) /\ (Kd.int .u8).R 5 w' w3.heap.size (λ _=>True) (.slice Ah (a3n r q L).length ch) (a3n r q L) /\ Below W.heap.size W w'):=Lib.hid λ W Al cl hW hC=>by
  refine (c5C r cv cl Av Al q L W (Kd.C_below HV3.out hW) HQl.out hC HL.out.2.1 HL.out.2.2 (by have:=HRok.out; omega) HNr.out).mono ?_
  rintro e w' ⟨v,rfl,hv,hb⟩
  obtain ⟨Ah,ch,rfl⟩:=Kd.R_slice hv
  exact ⟨Ah,ch,rfl,Kd.R_lower hv (Below.size hW),hb⟩
 have HHl : Hid ((a3n r q L).length <= 200000):=Lib.hid (by
  have h1:=a7j (r:=r) (qs:=q) (by have:=HRok.out; omega) L HNr.out
  have h2:=HL.out.2.2
  unfold a3n
  rw [List.length_append,List.length_append,a3K,a0s,List.length_singleton]; omega)
 obtain ⟨Hd,hHd⟩ : ∃ Hd,Hd = a3n r q L:=⟨_,rfl⟩
 rw [<- hHd] at HHead HHl
 have HHd:=Lib.hid hHd
 have HLn : Hid ((Hd.length + Pl.length) * 1 <= 140737488355328):=Lib.hid (by have:=HHl.out; have:=HPlen.out; omega)
 clear h2 hb3 hvp hk3 hPl hHd
 go_wp2_with fail
 go_region_law (first
  | (go_simp; go_at_call 99; refine (HPres.out _ (by first | assumption | exact SLater.drew ‹_›)).mono ?_; rintro e w' ⟨Al,cl,rfl,hcl,hb⟩; have s1:=(by first | exact SLater.keep ‹_› hb | exact SLater.keep (SLater.drew ‹_›) hb : SLater w3 w'); obtain ⟨⟨ka,kb,kc⟩,-⟩:=cell3 (a0e HK3.out s1))
  | (go_simp; go_at_call 98; refine (HHead.out _ _ _ (by first | assumption | exact SLater.drew ‹_›) (by first | assumption | exact Kd.C_drew ‹_›)).mono ?_; rintro e w' ⟨Ah,ch,rfl,hvh,hb⟩; have s1:=(by first | exact SLater.keep ‹_› hb | exact SLater.keep (SLater.drew ‹_›) hb : SLater w3 w'); have HVH:=Lib.hid (And.intro hvh s1); clear hvh hb)
  | (refine Kd.R_append_rows_step (Kd.int .u8) (Rr:=(Kd.int .u8).K w') (w0:=w) (W:=w') w.heap.size rfl (.tmp 27) (.tmp 28) 29 5 (.int .u8 0) 1 rfl Tryz.underlying29 a0y rfl (by decide) (by decide) _ Hd Pl Ap Pl.length cpp (λ _=>True) (λ _=>False) rfl rfl (Kd.R_lower HVH.out.1 HB3.out.size) (Kd.C_below HP3.out HVH.out.2) (λ _ _ h=>h) (λ _ h=>h.elim) (λ _ _=>trivial) (HB3.out.trans (Below.mono HVH.out.2 HB3.out.size)) (Nat.le_trans HB3.out.size (Below.size HVH.out.2)) HLn.out ?_; intro v9 w9 hr9 hb9 hg9 hat9; have HA:=Lib.hid (And.intro hr9 hb9); clear hr9 hb9 hg9 hat9))
 all_goals
  go_wp2_with fail
  go_ret2
  refine ⟨v9,rfl,?_,HA.out.2⟩
  have h9:=HA.out.1
  have e : a1c b = Hd ++ Pl:=by unfold a1c; rw [HHd.out,HPl.out,HRQ.out.1,HRQ.out.2,HL.out.1]; rfl
  rw [e]; exact h9
theorem c5H (A : Option Addr) (cp : Nat) (b : List Int) (w : World) (hr : (Kd.int .u8).C w A b.length b) (hb : Bytes b) (hl : b.length <= 40000) (h0 : 0 < b.length) :
    Calls Tryz.prog 86 #[.slice A b.length cp] w (Told 0 (a1c b) w):=by
 refine (c5G A cp b w hr hb hl h0).mono ?_
 rintro e w' ⟨v,rfl,hv,hbl⟩
 obtain ⟨A1,c1,rfl⟩:=Kd.R_slice hv
 exact ⟨A1,c1,rfl,hv,hbl⟩
set_option maxRecDepth 100000 in
set_option maxHeartbeats 400000 in
theorem c5I (A : Option Addr) (c : Nat) (xs : List Int) (w : World) (hr : (Kd.int .u8).C w A xs.length xs) (hl : xs.length <= 1000000) (hn : A = none -> xs = []) :
    Calls Tryz.prog 103 #[.slice A xs.length c] w (b2S xs w):=by
 cases A with
 | none=>
  have h0:=hn rfl
  subst h0
  have hq:=Lib.run_eql_slice_nil (P:=Tryz.prog) w 29 5 none 0 c 0 0 Tryz.underlying29
  go_enter Tryz.func103,Tryz.ntmps103
  go_wp2_with fail
  go_ret
  exact ⟨_,rfl,Kd.R_nil _ _ _ _ _,Below.refl _ _⟩
 | some ad=>
  have HR:=Lib.hid (Kd.C_alloc hr (.cells #[] 5))
  have HE:=Lib.hid (a6n .u8 5 w w.heap.size (λ _=>True) (Nat.le_refl _) trivial)
  have HL : Hid ((([] : List Int).length + xs.length) * 1 <= 140737488355328):=by show _ <= _; simp; omega
  have hq:=Lib.run_eql_slice_nil (P:=Tryz.prog) w 29 5 (some ad) xs.length c 0 0 Tryz.underlying29
  clear hr
  go_enter Tryz.func103,Tryz.ntmps103
  go_wp2_with (at_builtin; refine Kd.R_append_rows (Kd.int .u8) (Rr:=(Kd.int .u8).K (w.alloc (.cells #[] 5))) (w0:=w) (W:=w.alloc (.cells #[] 5)) w.heap.size rfl (.tmp 5) (.tmp 6) 29 5 (.int .u8 0) 1 rfl Tryz.underlying29 a0y rfl (by decide) (by decide) (.slice (some ⟨w.heap.size,0,none⟩) 0 0) [] xs (some ad) xs.length c (λ _=>True) (λ _=>False) rfl rfl HE.out HR.out (λ _ _ h=>h) (λ _ h=>h.elim) (λ _ _=>trivial) ((Below.refl _ _).alloc (Nat.le_refl _) _) (by simp) HL.out ?_; intro vi w2 hr2 hb2 hg2 hat2; have HR2:=Lib.hid hr2; have HB2:=Lib.hid hb2; clear hr2 hb2 hg2 hat2)
  go_ret
  rw [List.nil_append] at HR2
  exact ⟨_,rfl,HR2.out,HB2.out⟩
set_option maxRecDepth 100000 in
theorem a5s (k : Int) (w : World) : Calls Tryz.prog 101 #[.int .i64 k] w λ e w'=>e = .returned (.bool (decide (k = 0 \/ k = 1))) /\ w = w':=by
 by_cases h0 : k = 0
 · subst h0
   go_enter Tryz.func101,Tryz.ntmps101
   go_wp2_with fail
   go_ret
   exact ⟨rfl,rfl⟩
 · have d0 : (k == 0) = false:=by simpa using h0
   by_cases h1 : k = 1
   · subst h1
     go_enter Tryz.func101,Tryz.ntmps101
     go_wp2_with fail
     go_ret
     exact ⟨rfl,rfl⟩
   · have d1 : (k == 1) = false:=by simpa using h1
     have d2 : decide (k = 0 \/ k = 1) = false:=decide_eq_false (λ h=>h.elim h0 h1)
     rw [d2]
     clear h0 h1 d2
     go_enter Tryz.func101,Tryz.ntmps101
     go_wp2_with fail
     go_ret
     exact ⟨by simp,rfl⟩
def notB (b0 x : Int) : Bool:=!decide (x = b0)
set_option maxRecDepth 100000 in
theorem c5J (ad : Addr) (c p n : Nat) (x y : Int) (w : World) (hp : w.cell? ⟨p,0,none⟩ = some (.slice (some ad) n c)) (h0 : 0 < n) (hx : w.cell? (ad.add 0) = some (.int .u8 x)) :
    Calls Tryz.prog 138 #[.int .u8 y,.pointer (some ⟨p,0,none⟩)] w λ e w'=>e = .returned (.bool (notB x y)) /\ w = w':=by
 have hz : (0 : Int) < (n : Int):=by omega
 have hx2 : w.cell? ad = some (.int .u8 x):=by have e : ad.add 0 = ad:=by simp [Addr.add]
                                               rwa [e] at hx
 unfold notB
 by_cases h : y = x
 · have hd:=decide_eq_true h
   rw [hd]
   clear h
   go_enter Tryz.func138,Tryz.ntmps138
   go_wp2_with fail
   go_ret
   exact ⟨by simp_all,rfl⟩
 · have hd:=decide_eq_false h
   rw [hd]
   clear h
   go_enter Tryz.func138,Tryz.ntmps138
   go_wp2_with fail
   go_ret
   exact ⟨by simp_all,rfl⟩
set_option maxRecDepth 100000 in
set_option maxHeartbeats 400000 in
theorem c5K (ad : Addr) (c p : Nat) (b : List Int) (w : World) (hp : w.cell? ⟨p,0,none⟩ = some (.slice (some ad) b.length c)) (hr : (Kd.int .u8).C w (some ad) b.length b) (hl : b.length <= 1000000) (h0 : 0 < b.length) :
    Calls Tryz.prog 168 #[.slice (some ad) b.length c,.func (.func 138) #[] #[.pointer (some ⟨p,0,none⟩)]] w λ e w'=>∃ i : Int,e = .returned (.int .i64 i) /\ (0 <= i ↔ b.any (notB (b.getD 0 0)) = true) /\ w = w':=by
 obtain ⟨a0,e0,hc0⟩:=a0u hr 0 h0
 injection e0 with e0
 subst e0
 have HR:=Lib.hid (And.intro hr (And.intro hp hc0))
 clear hr hp hc0
 obtain ⟨x0,hx0⟩ : ∃ x0,x0 = b.getD 0 0:=⟨_,rfl⟩
 rw [<- hx0] at HR ⊢
 clear hx0
 go_enter Tryz.func168,Tryz.ntmps168
 go_wp2_with fail
 go_loop [8] (λ kv=>∃ (k : Nat),kv = .int .i64 k /\ k <= b.length /\ Hid (∀ q ∈ b.take k,notB x0 q = false)) (λ kv=>b.length - (intOf kv).toNat)
 case atStart=>exact ⟨0,rfl,by omega,λ q hq=>by simp at hq⟩
 case round=>
  obtain ⟨k,rfl,hk,H⟩:=hrel
  by_cases hlt : k < b.length
  · obtain ⟨a1,e1,hc⟩:=a0u HR.out.1 k hlt
    injection e1 with e1
    subst e1
    have hkI : (k : Int) < (b.length : Int):=by omega
    obtain ⟨q,hq⟩ : ∃ q,q = b.getD k 0:=⟨_,rfl⟩
    rw [<- hq] at hc
    have HQ:=Lib.hid hq
    clear hq
    go_wp2_with fail
    refine (c5J ad c p b.length x0 q w HR.out.2.1 h0 HR.out.2.2).mono ?_
    obtain ⟨b1,hb⟩ : ∃ b1,b1 = notB x0 q:=⟨_,rfl⟩
    rw [<- hb]
    rintro e w' ⟨rfl,rfl⟩
    have hq2 : b[k] = q:=by rw [HQ.out,List.getD_eq_getElem?_getD,List.getElem?_eq_getElem hlt]; rfl
    have HB:=Lib.hid (And.intro hb hq2)
    clear hb hq2
    cases b1 with
    | true=>
     go_wp2_with fail
     go_ret
     exact ⟨k,rfl,⟨λ _=>List.any_eq_true.2 ⟨q,HB.out.2 ▸ List.getElem_mem hlt,HB.out.1.symm⟩,λ _=>by omega⟩,rfl⟩
    | false=>
     go_wp2_with fail
     go_round
     case rel=>
      refine ⟨k + 1,by go_num,by omega,λ x hx=>?_⟩
      rw [List.take_succ_eq_append_getElem hlt] at hx
      rcases List.mem_append.1 hx with h | h
      · exact H.out x h
      · rw [List.mem_singleton.1 h,HB.out.2]; exact HB.out.1.symm
     case measure=>simp [intOf]; omega
  · have hkn : k = b.length:=by omega
    go_wp2_with fail
    go_ret
    refine ⟨-1,rfl,⟨λ h=>by omega,λ h=>?_⟩,rfl⟩
    obtain ⟨x,hx,hb⟩:=h
    have:=H.out x (by rw [hkn,List.take_length]; exact hx)
    rw [this] at hb; cases hb
set_option maxRecDepth 100000 in
theorem c5L (ad : Addr) (c p : Nat) (b : List Int) (w : World) (hp : w.cell? ⟨p,0,none⟩ = some (.slice (some ad) b.length c)) (hr : (Kd.int .u8).C w (some ad) b.length b) (hl : b.length <= 1000000) (h0 : 0 < b.length) :
    Calls Tryz.prog 137 #[.slice (some ad) b.length c,.func (.func 138) #[] #[.pointer (some ⟨p,0,none⟩)]] w λ e w'=>e = .returned (.bool (b.any (notB (b.getD 0 0)))) /\ w = w':=by
 have HI:=Lib.hid (c5K ad c p b w hp hr hl h0)
 clear hr hp hl h0
 obtain ⟨z,hz⟩ : ∃ z,z = b.any (notB (b.getD 0 0)):=⟨_,rfl⟩
 rw [<- hz] at HI ⊢
 clear hz
 go_enter Tryz.func137,Tryz.ntmps137
 go_wp2_with fail
 refine HI.out.mono ?_
 rintro e w' ⟨i,rfl,hi,rfl⟩
 cases z with
 | true=>
  have h0 : 0 <= i:=hi.2 rfl
  clear hi
  go_wp2_with fail
  go_ret
  exact ⟨rfl,rfl⟩
 | false=>
  have h0 : decide (0 <= i) = false:=decide_eq_false (λ h=>by have:=hi.1 h; cases this)
  clear hi
  go_wp2_with fail
  go_ret
  exact ⟨by simp,rfl⟩
theorem c5M (b : List Int) : a1A b = (decide (1 < b.length) && !b.any (notB (b.getD 0 0))):=by
 unfold a1A
 congr 1
 rw [List.not_any_eq_all_not]
 congr 1
 funext x
 unfold notB
 simp
set_option maxRecDepth 100000 in
theorem c5N (A : Option Addr) (c : Nat) (b : List Int) (w : World) (hr : (Kd.int .u8).C w A b.length b) (hl : b.length <= 1000000) :
    Calls Tryz.prog 102 #[.slice A b.length c] w λ e w'=>e = .returned (.bool (a1A b)) /\ Below w.heap.size w w':=by
 rw [c5M]
 have hmf : ∀ (fn : Fn) (first cap : Array Value) (w : World),(Instr.makeFunc fn first cap).run Tryz.prog w = .ok (.func fn first cap) w:=λ _ _ _ _=>rfl
 obtain ⟨W,hW⟩ : ∃ W,W = w.alloc (.cells #[.slice A b.length c] 29):=⟨_,rfl⟩
 have hb1 : Below w.heap.size w W:=by rw [hW]; exact (Below.refl _ _).alloc (Nat.le_refl _) _
 have hc1 : W.cell? ⟨w.heap.size,0,none⟩ = some (.slice A b.length c):=by rw [hW]; exact (a0a (a0f _ _) 0).trans rfl
 by_cases h1 : 1 < b.length
 · obtain ⟨ad,hA,_⟩:=a0u hr 0 (by omega)
   subst hA
   have HP:=Lib.hid (c5L ad c w.heap.size b W hc1 (Kd.C_below hr hb1) hl (by omega))
   have HB:=Lib.hid hb1
   obtain ⟨z,hz⟩ : ∃ z,z = b.any (notB (b.getD 0 0)):=⟨_,rfl⟩
   rw [<- hz] at HP ⊢
   have d1:=decide_eq_true h1
   rw [d1]
   have hI : (1 : Int) < (b.length : Int):=by omega
   clear hr hz hb1 d1 h1
   go_enter Tryz.func102,Tryz.ntmps102
   go_wp2_with fail
   rw [<- hW]
   clear hW
   go_wp2_with fail
   refine HP.out.mono ?_
   rintro e w' ⟨rfl,rfl⟩
   go_wp2_with fail
   go_ret
   exact ⟨rfl,HB.out⟩
 · have d1:=decide_eq_false h1
   rw [d1]
   have hI : decide ((1 : Int) < (b.length : Int)) = false:=decide_eq_false (by omega)
   have HB:=Lib.hid hb1
   clear hr d1 h1 hb1
   go_enter Tryz.func102,Tryz.ntmps102
   go_wp2_with fail
   rw [<- hW]
   clear hW
   go_wp2_with fail
   go_ret
   exact ⟨by simp,HB.out⟩
end Go.Proofs.YtamimiomglipmaaGreat
