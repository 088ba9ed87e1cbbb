/- Plain: what the printed references of counts answer (right, total, log). -/
import Derived.Test.YtflfjpkmjnnodaaGreatIM1
import Derived.Test.YtflfjpkmjnnodaaGreatIS1
import Derived.Test.YtflfjpkmjnnodaaGreatIM2
import Derived.Test.YtflfjpkmjnnodaaGreatIM0
import Derived.Deep.LoopGhost
import Derived.Laws.Rows
import Derived.Deep.DeepCutAuto
import Derived.Deep.RegionHeld3
import Derived.Defers
import Derived.Recover
import Derived.BigQuiet
import Derived.Laws.BitsAllLaws
import Derived.RangeFuncRecord
import Derived.RangeFuncSeq
import Derived.WalkKit
import Derived.OwnWalkIn
import Derived.TacticsInMore
import Derived.BigFrameIn
import Derived.LoopNIn
import Derived.LoopIn
import Derived.Maps.OwnIn
import Derived.Maps.AppendAt
import Derived.RangeFuncBox
import Derived.OwnWalk
namespace Go.Proofs.YtflfjpkmjnnodaaGreat
open Go.RowKit Go.Proofs.YtflfjpkmjnnodaaGreatW.PrintWords Go.Proofs.YtflfjpkmjnnodaaGreatW.PrintLast Go.Proofs.YtflfjpkmjnnodaaGreatW.PrintMore
theorem a2V {c : List Int} {i : Nat} (h : i < c.length) : c.getD i 0 ∈ c:=by
 rw [List.getD_eq_getElem?_getD,List.getElem?_eq_getElem h]; exact List.getElem_mem h
def mapR (f : Nat -> Int) : List Int:=(List.range 256).map f
theorem a1x (f : Nat -> Int) : (mapR f).length = 256:=by simp [mapR]
theorem a4n (f : Nat -> Int) {v : Nat} (h : v < 256) : (mapR f).getD v 0 = f v:=by
 unfold mapR; rw [List.getD_eq_getElem?_getD,List.getElem?_map,List.getElem?_range h]; rfl
theorem a3p {f g : Nat -> Int} (h : ∀ v,v < 256 -> f v = g v) : mapR f = mapR g:=by
 unfold mapR; exact List.map_congr_left (λ v hv=>h v (List.mem_range.1 hv))
theorem a7r (f : Nat -> Int) {v : Nat} (_ : v < 256) (y : Int) : (mapR f).set v y = mapR (λ u=>if u = v then y else f u):=by
 apply List.ext_getElem
 · simp [mapR]
 · intro i h1 h2
   rw [List.getElem_set]
   simp only [mapR,List.getElem_map,List.getElem_range]
   by_cases e : v = i
   · rw [if_pos e,if_pos e.symm]
   · rw [if_neg e,if_neg (λ x=>e x.symm)]
theorem a7s {f : Nat -> Int} {x : Int} (h : x ∈ mapR f) : ∃ v,v < 256 /\ x = f v:=by
 unfold mapR at h
 obtain ⟨v,hv,rfl⟩:=List.mem_map.1 h
 exact ⟨v,List.mem_range.1 hv,rfl⟩
def histL (b : List Int) : List Int:=mapR (λ v=>(b.count (v : Int) : Int))
def posC (c : List Int) (k : Nat) : Nat:=(c.take k).countP (λ x=>decide (0 < x))
def manyC (c : List Int) : Nat:=if a0M c then c.countP (λ x=>decide (0 < x)) else 0
theorem a9y (c : List Int) (i : Nat) (h : i < c.length) : posC c (i + 1) = posC c i + (if 0 < c.getD i 0 then 1 else 0):=by
 unfold posC
 rw [List.take_succ_eq_append_getElem h,List.countP_append,List.getD_eq_getElem?_getD,List.getElem?_eq_getElem h,Option.getD_some]
 congr 1
 by_cases e : 0 < c[i] <;> simp [e]
def pkL (b : List Int) (c : Int) (k : Nat) : List Int:=((List.range k).filter (λ j=>decide (ctxI b (j : Nat) = c))).map (λ j=>b.getD j 0)
def a0p (b : List Int) (c : Int) : List Int:=pkL b c b.length
theorem a7t {b : List Int} {c : Int} {k : Nat} (h : ctxI b (k : Nat) = c) : pkL b c (k + 1) = pkL b c k ++ [b.getD k 0]:=by
 unfold pkL; rw [List.range_succ,List.filter_append,List.map_append]; congr 1
 simp only [List.filter_cons,List.filter_nil,h,decide_true]; rfl
theorem a7u {b : List Int} {c : Int} {k : Nat} (h : ctxI b (k : Nat) ≠ c) : pkL b c (k + 1) = pkL b c k:=by
 unfold pkL; rw [List.range_succ,List.filter_append,List.map_append]
 simp only [List.filter_cons,List.filter_nil,h,decide_false]; simp
theorem a4o (b : List Int) (c : Int) (k : Nat) : (pkL b c k).length <= k:=by
 unfold pkL; rw [List.length_map]; exact Nat.le_trans (List.length_filter_le _ _) (by simp)
theorem b4I {b : List Int} (hb : Bytes b) (c : Int) (k : Nat) : Bytes (pkL b c k):=by
 intro x hx
 unfold pkL at hx
 obtain ⟨j,_,rfl⟩:=List.mem_map.1 hx
 exact hb.get j
theorem b4J (l : List Int) {y : Nat} (hy : y < 256) : histL (l ++ [(y : Int)]) = (histL l).set y ((l.count (y : Int) : Int) + 1):=by
 unfold histL
 rw [a7r _ hy]
 refine a3p (λ u _=>?_)
 rw [List.count_append,List.count_singleton]
 by_cases e : u = y
 · subst e; rw [if_pos rfl]; simp
 · rw [if_neg e]
   have : ¬ (y : Int) = (u : Int):=by omega
   simp [this]
theorem a5T (l : List Int) {y : Nat} (hy : y < 256) : (histL l).getD y 0 = (l.count (y : Int) : Int):=by unfold histL; rw [a4n _ hy]
def widN (b : List Int) : Nat -> Nat
 | 0=>0
 | k + 1=>max (widN b k) (manyC (histL (a0p b (k : Nat))))
theorem a4Z (c : List Int) : manyC c <= 256:=by
 unfold manyC
 split
 · rename_i h
   have:=List.countP_le_length (p:=λ x=>decide (0 < x)) (l:=c); have:=(rightC_iff.1 h).1; omega
 · omega
theorem a7v (b : List Int) : ∀ k,widN b k <= 256
 | 0=>by simp [widN]
 | k + 1=>by
  have:=a7v b k; have:=a4Z (histL (a0p b (k : Nat)))
  simp only [widN]; omega
def presN (b : List Int) (k : Nat) : List Int:=((List.range k).filter (λ (c : Nat)=>decide (0 < (a0p b (c : Int)).length))).map (λ (c : Nat)=>(c : Int))
theorem a9A (b : List Int) (k : Nat) : presN b (k + 1) = if 0 < (a0p b (k : Int)).length then presN b k ++ [(k : Int)] else presN b k:=by
 unfold presN; rw [List.range_succ,List.filter_append,List.map_append]
 by_cases h : 0 < (a0p b (k : Int)).length
 · rw [if_pos h]; congr 1; simp only [List.filter_cons,List.filter_nil,h,decide_true]; rfl
 · rw [if_neg h]; simp only [List.filter_cons,List.filter_nil,h,decide_false]; simp
theorem a5a (b : List Int) (k : Nat) : (presN b k).length <= k:=by
 unfold presN; rw [List.length_map]; exact Nat.le_trans (List.length_filter_le _ _) (by simp)
def ceilI (n : Int) : Nat:=a2b (n - 1)
def pickI (n m : Nat) (most : Int) : Int:=mx (mx (mn ((a0q n : Int) - 2) most) 5) (ceilI m)
theorem b4L (n : Nat) (h : n < 2 ^ 40) : a0q (n : Int) <= 40:=by
 rcases Nat.eq_zero_or_pos n with h0 | h0
 · subst h0; decide
 · have:=(a3n n h0 (by omega)).1
   have a : ¬ 41 <= a0q (n : Int):=λ e=>by
    have:=Nat.pow_le_pow_right (n:=2) (by omega) e; omega
   omega
def needN (rest : List Int) (had : List Bool) : Nat -> Int
 | 0=>-1
 | k + 1=>if had.getD k false = true then needN rest had k else if needN rest had k < 0 then (k : Int) else if rest.getD k 0 > rest.getD (needN rest had k).toNat 0 then (k : Int) else needN rest had k
theorem a5b (rest : List Int) (had : List Bool) : ∀ k,-1 <= needN rest had k /\ needN rest had k < k /\ (0 <= needN rest had k -> had.getD (needN rest had k).toNat false = false)
 | 0=>by simp [needN]
 | k + 1=>by
  obtain ⟨h1,h2,h3⟩:=a5b rest had k
  simp only [needN]
  cases hk : had.getD k false with
  | true=>rw [if_pos rfl]; exact ⟨h1,by omega,h3⟩
  | false=>
   rw [if_neg (by decide)]
   split
   · exact ⟨by omega,by omega,λ _=>by rw [Int.toNat_natCast]; exact hk⟩
   · split
     · exact ⟨by omega,by omega,λ _=>by rw [Int.toNat_natCast]; exact hk⟩
     · exact ⟨h1,by omega,h3⟩
theorem a9B (rest : List Int) (had : List Bool) {s : Nat} (hs : had.getD s false = false) : ∀ k,s < k -> 0 <= needN rest had k
 | 0,h=>by omega
 | k + 1,h=>by
  simp only [needN]
  by_cases e : s = k
  · subst e
    rw [hs,if_neg (by decide)]
    split
    · omega
    · split <;> omega
  · have ih:=a9B rest had hs k (by omega)
    split
    · exact ih
    · rw [if_neg (by omega)]
      split <;> omega
def richN (q c : List Int) : Nat -> Nat
 | 0=>0
 | k + 1=>if q.getD k 0 > q.getD (richN q c k) 0 \/ q.getD k 0 = q.getD (richN q c k) 0 /\ c.getD k 0 <= c.getD (richN q c k) 0 then k else richN q c k
theorem a5c (q c : List Int) : ∀ k,richN q c k <= k - 1
 | 0=>by simp [richN]
 | k + 1=>by
  have:=a5c q c k
  simp only [richN]; split <;> omega
theorem b4M (q c : List Int) : ∀ k,∀ s,s < k -> q.getD s 0 <= q.getD (richN q c k) 0
 | 0,s,h=>by omega
 | k + 1,s,h=>by
  have ih:=b4M q c k
  simp only [richN]
  split
  · rename_i hc
    by_cases e : s = k
    · subst e; exact Int.le_refl _
    · have:=ih s (by omega); omega
  · rename_i hc
    by_cases e : s = k
    · subst e; omega
    · exact ih s (by omega)
end Go.Proofs.YtflfjpkmjnnodaaGreat
namespace Go.Proofs.YtflfjpkmjnnodaaGreat
open Go.RowKit
theorem a7w (q : List Int) (s : Nat) (y : Int) (h : s < q.length) : (q.set s y).sum = q.sum - q.getD s 0 + y:=by
 induction q generalizing s with
 | nil=>simp at h
 | cons a q ih=>
  cases s with
  | zero=>simp; omega
  | succ s=>
   have:=ih s (by simpa using h)
   simp only [List.set_cons_succ,List.sum_cons,List.getD_cons_succ,this]; omega
theorem a3q (q : List Int) (s t : Nat) (y : Int) (h : s < q.length) : (q.set s y).getD t 0 = if t = s then y else q.getD t 0:=by
 rw [List.getD_eq_getElem?_getD,List.getElem?_set]
 by_cases e : s = t
 · subst e; rw [if_pos rfl,if_pos h,if_pos rfl]; rfl
 · rw [if_neg e,if_neg (λ x=>e x.symm),List.getD_eq_getElem?_getD]
def q0F (c : List Int) (P n : Int) (s : Nat) : Int:=if c.getD s 0 * P / n = 0 then min (c.getD s 0) 1 else c.getD s 0 * P / n
def q0L (c : List Int) (P n : Int) : List Int:=mapR (q0F c P n)
def restL (c : List Int) (P n : Int) : List Int:=mapR (λ s=>c.getD s 0 * P % n)
def hadL (c : List Int) (P n : Int) : List Bool:=(List.range 256).map (λ s=>decide (c.getD s 0 * P / n = 0))
def a0P (rest : List Int) : Nat -> List Int × List Bool -> List Int × List Bool
 | 0,st=>st
 | m + 1,st=>let r:=a0P rest m st; (r.1.set (needN rest r.2 256).toNat (r.1.getD (needN rest r.2 256).toNat 0 + 1),r.2.set (needN rest r.2 256).toNat true)
def a0L (c : List Int) : Nat -> List Int -> List Int
 | 0,q=>q
 | m + 1,q=>let r:=a0L c m q; r.set (richN r c 256) (r.getD (richN r c 256) 0 - 1)
def giveM (c : List Int) (P n : Int) : Nat:=(P - (q0L c P n).sum).toNat
def normL (c : List Int) (r : Nat) : List Int:=
 let P : Int:=2 ^ r
 let n:=c.sum
 let g:=(a0P (restL c P n) (giveM c P n) (q0L c P n,hadL c P n)).1
 a0L c (g.sum - P).toNat g
theorem c4p {f g : Nat -> Int} (h : ∀ s,s < 256 -> f s <= g s) : (mapR f).sum <= (mapR g).sum:=by
 unfold mapR
 have key : ∀ l : List Nat,(∀ s ∈ l,f s <= g s) -> (l.map f).sum <= (l.map g).sum:=by
  intro l
  induction l with
  | nil=>intro _; simp
  | cons a l ih=>
   intro hl
   have:=ih (λ s hs=>hl s (by simp [hs])); have:=hl a (by simp)
   simp only [List.map_cons,List.sum_cons]; omega
 exact key _ (λ s hs=>h s (List.mem_range.1 hs))
theorem b4N {c : List Int} (h : c.length = 256) : mapR (λ s=>c.getD s 0) = c:=by
 apply List.ext_getElem
 · rw [a1x,h]
 · intro i h1 h2; simp [mapR,List.getElem?_eq_getElem h2]
theorem b4O (f : Nat -> Int) (k : Int) : (mapR (λ s=>f s * k)).sum = (mapR f).sum * k:=by
 unfold mapR
 induction List.range 256 with
 | nil=>simp
 | cons a l ih=>simp only [List.map_cons,List.sum_cons,ih,Int.add_mul]
theorem c4q (f g : Nat -> Int) : (mapR (λ s=>f s + g s)).sum = (mapR f).sum + (mapR g).sum:=by
 unfold mapR
 induction List.range 256 with
 | nil=>simp
 | cons a l ih=>simp only [List.map_cons,List.sum_cons,ih]; omega
def freeN (had : List Bool) : Nat:=had.countP (λ b=>!b)
theorem c4r (c : List Int) (P n : Int) : ((freeN (hadL c P n) : Nat) : Int) = (mapR (λ s=>if c.getD s 0 * P / n = 0 then 0 else 1)).sum:=by
 unfold freeN hadL mapR
 induction List.range 256 with
 | nil=>simp
 | cons a l ih=>
  have e1 : ((if (!decide (c.getD a 0 * P / n = 0)) = true then 1 else 0 : Nat) : Int) = if c.getD a 0 * P / n = 0 then 0 else 1:=by
   by_cases e : c.getD a 0 * P / n = 0
   · rw [if_pos e,decide_eq_true e]; rfl
   · rw [if_neg e,decide_eq_false e]; rfl
  rw [List.map_cons,List.map_cons,List.countP_cons,List.sum_cons,Int.natCast_add,ih,e1]; omega
structure Can (c : List Int) (r : Nat) : Prop where
 len : c.length = 256
 nonneg : ∀ x ∈ c,0 <= x
 pos : 0 < c.sum
 le : c.sum <= 1073741824
 r1 : 1 <= r
 r12 : r <= 12
 many : c.countP (λ x=>decide (0 < x)) <= 2 ^ r
theorem Can.get {c : List Int} {r : Nat} (h : Can c r) (s : Nat) : 0 <= c.getD s 0 /\ c.getD s 0 <= c.sum:=by
 by_cases hs : s < c.length
 · exact ⟨h.nonneg _ (a2V hs),a8G h.nonneg (a2V hs)⟩
 · rw [List.getD_eq_getElem?_getD,List.getElem?_eq_none (by omega)]; have:=h.pos; simp; omega
theorem Can.q0 {c : List Int} {r : Nat} (h : Can c r) (s : Nat) : 0 <= q0F c (2 ^ r) c.sum s /\ q0F c (2 ^ r) c.sum s <= 4096 /\ (0 < q0F c (2 ^ r) c.sum s ↔ 0 < c.getD s 0) /\ c.getD s 0 * 2 ^ r <= (q0F c (2 ^ r) c.sum s + (if c.getD s 0 * 2 ^ r / c.sum = 0 then 0 else 1)) * c.sum:=by
 have hg:=h.get s
 have hp:=h.pos
 have h2:=a1M h.r12
 have hm0 : 0 <= c.getD s 0 * 2 ^ r:=Int.mul_nonneg hg.1 (by omega)
 have hd0 : 0 <= c.getD s 0 * 2 ^ r / c.sum:=Int.ediv_nonneg hm0 (by omega)
 have hdm:=Int.mul_ediv_add_emod (c.getD s 0 * 2 ^ r) c.sum
 have hml:=Int.emod_lt_of_pos (c.getD s 0 * 2 ^ r) hp
 have hmn:=Int.emod_nonneg (c.getD s 0 * 2 ^ r) (b:=c.sum) (by omega)
 have hle : c.getD s 0 * 2 ^ r / c.sum <= 2 ^ r:=by
  refine Int.ediv_le_of_le_mul hp ?_
  rw [Int.mul_comm]; exact Int.mul_le_mul_of_nonneg_left hg.2 (by omega)
 unfold q0F
 by_cases e : c.getD s 0 * 2 ^ r / c.sum = 0
 · rw [if_pos e,if_pos e]
   rw [e,Int.mul_zero,Int.zero_add] at hdm
   refine ⟨by omega,by omega,by omega,?_⟩
   by_cases e2 : c.getD s 0 = 0
   · rw [e2,show min (0 : Int) 1 = 0 by decide]; simp
   · rw [show min (c.getD s 0) 1 = 1 by omega]; omega
 · rw [if_neg e,if_neg e]
   refine ⟨hd0,by omega,⟨λ _=>?_,λ _=>by omega⟩,?_⟩
   · by_cases e2 : c.getD s 0 = 0
     · rw [e2] at e; simp at e
     · omega
   · rw [Int.add_mul,Int.one_mul,Int.mul_comm (c.getD s 0 * 2 ^ r / c.sum)]; omega
theorem Can.enough {c : List Int} {r : Nat} (h : Can c r) : (2 : Int) ^ r <= (q0L c (2 ^ r) c.sum).sum + freeN (hadL c (2 ^ r) c.sum):=by
 have h1 : (mapR (λ s=>c.getD s 0 * 2 ^ r)).sum <= (mapR (λ s=>(q0F c (2 ^ r) c.sum s + (if c.getD s 0 * 2 ^ r / c.sum = 0 then 0 else 1)) * c.sum)).sum:=c4p (λ s _=>(h.q0 s).2.2.2)
 rw [b4O,b4O,c4q,b4N h.len,<- c4r,Int.mul_comm c.sum] at h1
 exact Int.le_of_mul_le_mul_right h1 h.pos
theorem a9C {had : List Bool} (hl : had.length = 256) (h : 0 < freeN had) : ∃ s,s < 256 /\ had.getD s false = false:=by
 unfold freeN at h
 obtain ⟨b,hb,hbf⟩:=List.countP_pos_iff.1 h
 obtain ⟨s,hs,rfl⟩:=List.getElem_of_mem hb
 refine ⟨s,by omega,?_⟩
 rw [List.getD_eq_getElem?_getD,List.getElem?_eq_getElem hs]; simpa using hbf
theorem b4P {had : List Bool} {s : Nat} (hs : s < had.length) (h : had.getD s false = false) : freeN (had.set s true) + 1 = freeN had:=by
 unfold freeN
 induction had generalizing s with
 | nil=>simp at hs
 | cons a l ih=>
  cases s with
  | zero=>simp at h; subst h; simp
  | succ s=>
   have:=ih (s:=s) (by simpa using hs) (by simpa using h)
   simp only [List.set_cons_succ,List.countP_cons]; omega
structure Way (c q : List Int) : Prop where
 len : q.length = 256
 rng : ∀ s,0 <= q.getD s 0 /\ q.getD s 0 <= 100000
 iff : ∀ s,0 < q.getD s 0 ↔ 0 < c.getD s 0
theorem a5d {c : List Int} {r : Nat} (h : Can c r) : ∀ m,m <= giveM c (2 ^ r) c.sum ->
    let st:=a0P (restL c (2 ^ r) c.sum) m (q0L c (2 ^ r) c.sum,hadL c (2 ^ r) c.sum)
    st.1.length = 256 /\ st.2.length = 256 /\ (∀ s,0 <= st.1.getD s 0 /\ st.1.getD s 0 <= 4096 + m) /\ (∀ s,0 < st.1.getD s 0 ↔ 0 < c.getD s 0) /\ st.1.sum = (q0L c (2 ^ r) c.sum).sum + m /\ freeN st.2 + m = freeN (hadL c (2 ^ r) c.sum) /\
     (∀ s,s < 256 -> st.2.getD s false = false -> 0 < c.getD s 0)
 | 0,_=>by
  have hlen : (q0L c (2 ^ r) c.sum).length = 256:=a1x _
  refine ⟨hlen,by simp [a0P,hadL],λ s=>?_,λ s=>?_,by simp [a0P],rfl,λ s hs hf=>?_⟩
  · show 0 <= (q0L c (2 ^ r) c.sum).getD s 0 /\ (q0L c (2 ^ r) c.sum).getD s 0 <= 4096 + ((0 : Nat) : Int)
    by_cases hs : s < 256
    · unfold q0L; rw [a4n _ hs]; have:=h.q0 s; exact ⟨this.1,by have:=this.2.1; omega⟩
    · rw [List.getD_eq_getElem?_getD,List.getElem?_eq_none (by omega)]; simp
  · show 0 < (q0L c (2 ^ r) c.sum).getD s 0 ↔ _
    by_cases hs : s < 256
    · unfold q0L; rw [a4n _ hs]; exact (h.q0 s).2.2.1
    · rw [List.getD_eq_getElem?_getD,List.getElem?_eq_none (by omega),List.getD_eq_getElem?_getD,List.getElem?_eq_none (by have:=h.len; omega)]
  · have hf2 : (hadL c (2 ^ r) c.sum).getD s false = false:=hf
    unfold hadL at hf2
    rw [List.getD_eq_getElem?_getD,List.getElem?_map,List.getElem?_range hs] at hf2
    simp only [Option.map_some,Option.getD_some,decide_eq_false_iff_not] at hf2
    have:=(h.get s).1
    by_cases e2 : c.getD s 0 = 0
    · rw [e2] at hf2; simp at hf2
    · omega
 | m + 1,hm=>by
  obtain ⟨h1,h2,h3,h4,h5,h6,h7⟩:=a5d h m (by omega)
  have hen:=h.enough
  obtain ⟨st,hst⟩ : ∃ st,st = a0P (restL c (2 ^ r) c.sum) m (q0L c (2 ^ r) c.sum,hadL c (2 ^ r) c.sum):=⟨_,rfl⟩
  simp only [a0P]
  rw [<- hst] at h1 h2 h3 h4 h5 h6 h7 ⊢
  have hM : (m : Int) + 1 <= 2 ^ r - (q0L c (2 ^ r) c.sum).sum:=by unfold giveM at hm; omega
  obtain ⟨s0,hs0,hf0⟩:=a9C h2 (by omega)
  have hn0:=a9B (restL c (2 ^ r) c.sum) st.2 hf0 256 hs0
  have hnl:=a5b (restL c (2 ^ r) c.sum) st.2 256
  obtain ⟨t,ht⟩ : ∃ t : Nat,needN (restL c (2 ^ r) c.sum) st.2 256 = t:=⟨_,(Int.toNat_of_nonneg hn0).symm⟩
  rw [ht] at hnl ⊢
  have htf:=hnl.2.2 (by omega)
  rw [Int.toNat_natCast] at htf ⊢
  have ht256 : t < 256:=by omega
  have hct:=h7 t ht256 htf
  have hg:=h3 t
  refine ⟨by rw [List.length_set]; exact h1,by rw [List.length_set]; exact h2,λ s=>?_,λ s=>?_,?_,?_,λ s hs hf=>?_⟩
  · rw [a3q _ _ _ _ (by omega)]
    have:=h3 s
    split <;> omega
  · rw [a3q _ _ _ _ (by omega)]
    by_cases e : s = t
    · subst e; rw [if_pos rfl]; exact ⟨λ _=>hct,λ _=>by omega⟩
    · rw [if_neg e]; exact h4 s
  · rw [a7w _ _ _ (by omega),h5]; omega
  · have:=b4P (had:=st.2) (s:=t) (by omega) htf; omega
  · refine h7 s hs ?_
    by_cases e : s = t
    · subst e; exact htf
    · rw [List.getD_eq_getElem?_getD,List.getElem?_set_ne (λ x=>e x.symm),<- List.getD_eq_getElem?_getD] at hf; exact hf
theorem c4s {q : List Int} (h : ∀ x ∈ q,0 <= x /\ x <= 1) : q.sum <= (q.countP (λ x=>decide (0 < x)) : Nat):=by
 induction q with
 | nil=>simp
 | cons a l ih=>
  have:=ih (λ x hx=>h x (by simp [hx]))
  have ha:=h a (by simp)
  rw [List.sum_cons,List.countP_cons]
  by_cases e : 0 < a
  · simp [e]; omega
  · simp [e]; omega
theorem c4t {c q : List Int} (hc : c.length = 256) (hq : q.length = 256) (h : ∀ s,0 < q.getD s 0 ↔ 0 < c.getD s 0) : q.countP (λ x=>decide (0 < x)) = c.countP (λ x=>decide (0 < x)):=by
 have e : ∀ l : List Int,l.length = 256 -> l.countP (λ x=>decide (0 < x)) = (List.range 256).countP (λ s=>decide (0 < l.getD s 0)):=by
  intro l hl
  have:=b4N hl
  conv=>lhs; rw [<- this]
  unfold mapR
  rw [List.countP_map]; rfl
 rw [e q hq,e c hc]
 exact List.countP_congr (λ s _=>by simp only [decide_eq_true_eq]; exact h s)
theorem a7x {c : List Int} {r : Nat} (h : Can c r) {q : List Int} (hq : Way c q) : ∀ m,m <= (q.sum - 2 ^ r).toNat ->
    Way c (a0L c m q) /\ (a0L c m q).sum = q.sum - m
 | 0,_=>⟨hq,by simp [a0L]⟩
 | m + 1,hm=>by
  obtain ⟨h1,h2⟩:=a7x h hq m (by omega)
  simp only [a0L]
  obtain ⟨t,ht⟩ : ∃ t,t = a0L c m q:=⟨_,rfl⟩
  rw [<- ht] at h1 h2 ⊢
  obtain ⟨b,hb⟩ : ∃ b,b = richN t c 256:=⟨_,rfl⟩
  have hbl:=a5c t c 256
  have hmax:=b4M t c 256
  rw [<- hb] at hbl hmax ⊢
  have hlen:=h1.len
  have hbig : 2 <= t.getD b 0:=by
   by_cases e : 2 <= t.getD b 0
   · exact e
   · exfalso
     have hle : t.sum <= (t.countP (λ x=>decide (0 < x)) : Nat):=c4s (λ x hx=>by
      obtain ⟨s,hs,rfl⟩:=List.getElem_of_mem hx
      have a:=hmax s (by omega); have a2:=h1.rng s
      rw [List.getD_eq_getElem?_getD,List.getElem?_eq_getElem hs,Option.getD_some] at a a2
      omega)
     rw [c4t h.len hlen h1.iff] at hle
     have hmny:=h.many
     have e2 : (2 : Int) ^ r = ((2 ^ r : Nat) : Int):=by simp
     have hmI : (m : Int) + 1 <= q.sum - 2 ^ r:=by omega
     rw [e2] at hmI; omega
  have hrb:=h1.rng b
  have hib:=h1.iff b
  refine ⟨⟨by rw [List.length_set]; exact hlen,λ s=>?_,λ s=>?_⟩,?_⟩
  · rw [a3q _ _ _ _ (by omega)]
    have:=h1.rng s
    split <;> omega
  · rw [a3q _ _ _ _ (by omega)]
    by_cases e : s = b
    · subst e; rw [if_pos rfl]; exact ⟨λ _=>hib.1 (by omega),λ _=>by omega⟩
    · rw [if_neg e]; exact h1.iff s
  · rw [a7w _ _ _ (by omega),h2]; omega
theorem a9D {c : List Int} {r : Nat} (h : Can c r) : Way c (a0P (restL c (2 ^ r) c.sum) (giveM c (2 ^ r) c.sum) (q0L c (2 ^ r) c.sum,hadL c (2 ^ r) c.sum)).1 /\ 2 ^ r <= (a0P (restL c (2 ^ r) c.sum) (giveM c (2 ^ r) c.sum) (q0L c (2 ^ r) c.sum,hadL c (2 ^ r) c.sum)).1.sum:=by
 obtain ⟨h1,h2,h3,h4,h5,h6,h7⟩:=a5d h _ (Nat.le_refl _)
 have h0 : 0 <= (q0L c (2 ^ r) c.sum).sum:=a2Q (λ x hx=>by
  obtain ⟨v,hv,rfl⟩:=a7s hx; exact (h.q0 v).1)
 have hp:=a1M h.r12
 have hM : giveM c (2 ^ r) c.sum <= 4096:=by unfold giveM; omega
 refine ⟨⟨h1,λ s=>⟨(h3 s).1,by have:=(h3 s).2; omega⟩,h4⟩,?_⟩
 rw [h5]; unfold giveM; omega
theorem a5e {c : List Int} {r : Nat} (h : Can c r) : Good (normL c r) /\ (normL c r).sum = 2 ^ r /\ ∀ s,0 < (normL c r).getD s 0 ↔ 0 < c.getD s 0:=by
 obtain ⟨hw,hs⟩:=a9D h
 obtain ⟨h1,h2⟩:=a7x h hw _ (Nat.le_refl _)
 have hp:=a1M h.r12
 have e : normL c r = a0L c ((a0P (restL c (2 ^ r) c.sum) (giveM c (2 ^ r) c.sum) (q0L c (2 ^ r) c.sum,hadL c (2 ^ r) c.sum)).1.sum - 2 ^ r).toNat (a0P (restL c (2 ^ r) c.sum) (giveM c (2 ^ r) c.sum) (q0L c (2 ^ r) c.sum,hadL c (2 ^ r) c.sum)).1:=rfl
 rw [<- e] at h1 h2
 have hsum : (normL c r).sum = 2 ^ r:=by rw [h2]; omega
 refine ⟨⟨h1.len,λ x hx=>?_,by omega⟩,hsum,h1.iff⟩
 obtain ⟨s,hs,rfl⟩:=List.getElem_of_mem hx
 have:=h1.rng s
 rw [List.getD_eq_getElem?_getD,List.getElem?_eq_getElem hs] at this; exact this.1
theorem b4Q {c : List Int} {r : Nat} (h : Can c r) : logC (normL c r) = r:=by
 obtain ⟨h1,h2,_⟩:=a5e h
 have hp:=a1M h.r12
 have hr : a0M (normL c r) = true:=rightC_iff.2 ⟨h1.len,h1.nonneg,by omega⟩
 unfold logC a1b
 rw [if_pos hr,h2]
 exact a6H h.r1 h.r12 rfl
open Go.IntWalk Go.Proofs.YtflfjpkmjnnodaaGreatW.PrintWords Go.Proofs.YtflfjpkmjnnodaaGreatW.PrintLast Go.Proofs.YtflfjpkmjnnodaaGreatW.PrintMore
theorem a9E (n : Nat) (hn : n <= 1000000) (w : World) : (Instr.makeSlice 84 (.int .i64 n) (.int .i64 n)).run Tryz.prog w = .ok (.slice (some ⟨w.heap.size,0,none⟩) n n) (w.alloc (.cells (madeCells #[.int .i64 0] n) 3)):=by
 obtain ⟨i0,hi,hzz⟩:=Option.map_eq_some_iff.1 a4G
 simp only [Prod.mk.injEq] at hzz
 obtain ⟨hz0,hz1,hz2⟩:=hzz
 have hr:=run_make (P:=Tryz.prog) w 84 3 i0 (.int .i64 0) Tryz.underlying84 hi hz0 .i64 .i64 (n : Int) (n : Int) (by omega) (by omega) (by rw [hz2]; omega) (by omega)
 rw [hz1] at hr
 simpa [Value.cells] using hr
end Go.Proofs.YtflfjpkmjnnodaaGreat
namespace Go.Proofs.YtflfjpkmjnnodaaGreat
open Go.RowKit Go.IntWalk Go.Proofs.YtflfjpkmjnnodaaGreatW.PrintWords
def qTo (c : List Int) (P n : Int) (k : Nat) : List Int:=mapR (λ s=>if s < k then q0F c P n s else 0)
def rTo (c : List Int) (P n : Int) (k : Nat) : List Int:=mapR (λ s=>if s < k then c.getD s 0 * P % n else 0)
def hTo (c : List Int) (P n : Int) (k : Nat) : List Bool:=(List.range 256).map (λ s=>if s < k then decide (c.getD s 0 * P / n = 0) else false)
theorem a9G (c : List Int) (P n : Int) : qTo c P n 0 = List.replicate 256 0 /\ rTo c P n 0 = List.replicate 256 0 /\ hTo c P n 0 = List.replicate 256 false:=by
 have e : ∀ {α : Type} (z : α) (f : Nat -> α),(∀ s,f s = z) -> (List.range 256).map f = List.replicate 256 z:=λ z f h=>by
  rw [show f = λ _=>z from funext h,List.map_const',List.length_range]
 exact ⟨e 0 (λ s=>if s < 0 then q0F c P n s else 0) (λ s=>by rw [if_neg (by omega)]),e 0 (λ s=>if s < 0 then c.getD s 0 * P % n else 0) (λ s=>by rw [if_neg (by omega)]),e false (λ s=>if s < 0 then decide (c.getD s 0 * P / n = 0) else false) (λ s=>by rw [if_neg (by omega)])⟩
theorem a9H (c : List Int) (P n : Int) : qTo c P n 256 = q0L c P n /\ rTo c P n 256 = restL c P n /\ hTo c P n 256 = hadL c P n:=
 ⟨a3p (λ s h=>by rw [if_pos h]),a3p (λ s h=>by rw [if_pos h]),List.map_congr_left (λ s h=>by rw [if_pos (List.mem_range.1 h)])⟩
theorem a7z (f : Nat -> Int) {k : Nat} (hk : k < 256) : (mapR (λ s=>if s < k then f s else 0)).set k (f k) = mapR (λ s=>if s < k + 1 then f s else 0):=by
 rw [a7r _ hk]
 refine a3p (λ s _=>?_)
 by_cases e : s = k
 · subst e; rw [if_pos rfl,if_pos (by omega)]
 · rw [if_neg e]
   by_cases e2 : s < k
   · rw [if_pos e2,if_pos (by omega)]
   · rw [if_neg e2,if_neg (by omega)]
theorem b4U (q : List Int) (k : Nat) (x y : Int) : (q.set k x).set k y = q.set k y:=by simp
def a9I (c : List Int) (r : Nat) (w : World) (e : Ending) (w' : World) : Prop:=∃ v,e = .returned (.tuple #[v,.int .i64 0]) /\ (Kd.int .i64).R 3 w' w.heap.size (λ _=>True) v (normL c r) /\ Below w.heap.size w w'
end Go.Proofs.YtflfjpkmjnnodaaGreat
namespace Go.Proofs.YtflfjpkmjnnodaaGreat
open Go.RowKit Go.Proofs.YtflfjpkmjnnodaaGreatW.PrintWords Go.Proofs.YtflfjpkmjnnodaaGreatW.PrintLast Go.Proofs.YtflfjpkmjnnodaaGreatW.PrintMore
theorem a9J (b : List Int) (hb : Bytes b) : (histL b).sum = b.length:=by
 induction b with
 | nil=>
  unfold histL mapR
  have : ∀ l : List Nat,(l.map (λ (v : Nat)=>(((([] : List Int).count (v : Int)) : Nat) : Int))).sum = 0:=by
   intro l; induction l with
   | nil=>rfl
   | cons a l ih=>rw [List.map_cons,List.sum_cons,ih]; simp
  exact this _
 | cons x l ih=>
  have hx:=hb x (by simp)
  have ih2:=ih (λ y hy=>hb y (by simp [hy]))
  obtain ⟨v,rfl⟩ : ∃ v : Nat,x = v:=⟨x.toNat,by omega⟩
  have e : histL ((v : Int) :: l) = (histL l).set v ((l.count (v : Int) : Int) + 1):=by
   unfold histL
   rw [a7r _ (by omega)]
   refine a3p (λ u _=>?_)
   rw [List.count_cons]
   by_cases e : u = v
   · subst e; rw [if_pos rfl]; simp
   · rw [if_neg e]
     have : ¬ (v : Int) = (u : Int):=by omega
     simp [this]
  rw [e,a7w _ _ _ (by unfold histL; rw [a1x]; omega),a5T _ (by omega),ih2,List.length_cons]
  omega
theorem a9K (b : List Int) {s : Nat} (hs : s < 256) : 0 < (histL b).getD s 0 ↔ (s : Int) ∈ b:=by
 rw [a5T _ hs,<- List.count_pos_iff]; omega
theorem c4L (m : Nat) (h : m <= 256) : ceilI m <= 8 /\ m <= 2 ^ ceilI m:=by
 unfold ceilI a2b
 rcases Nat.lt_or_ge m 2 with h2 | h2
 · rw [show ((m : Int) - 1).toNat = 0 by omega]
   exact ⟨by decide,by have : Lib.bitLen 0 = 0:=by decide
                       rw [this]; omega⟩
 · obtain ⟨y,hy⟩ : ∃ y,y = m - 1:=⟨_,rfl⟩
   rw [show ((m : Int) - 1).toNat = y by omega]
   obtain ⟨a,b,c⟩:=a3J y (by omega) (by omega)
   have:=Lib.bitLen_le8' (y : Int) (by omega) (by omega)
   rw [Int.toNat_natCast] at this
   exact ⟨this,by omega⟩
theorem b4X (n m : Nat) (most : Nat) (h : m <= 256) (h8 : 8 <= most) (h12 : most <= 12) : ∃ r : Nat,pickI n m most = r /\ 5 <= r /\ r <= most /\ m <= 2 ^ r:=by
 obtain ⟨c1,c2⟩:=c4L m h
 have hr : 5 <= pickI n m most /\ pickI n m most <= most /\ (ceilI m : Int) <= pickI n m most:=by
  unfold pickI mx mn
  split <;> (split <;> (split <;> omega))
 refine ⟨(pickI n m most).toNat,by omega,by omega,by omega,?_⟩
 have : 2 ^ ceilI m <= 2 ^ (pickI n m most).toNat:=Nat.pow_le_pow_right (by omega) (by omega)
 omega
theorem b4Y {c : List Int} (h : a0M c = true) : manyC c = c.countP (λ x=>decide (0 < x)):=by unfold manyC; rw [if_pos h]
theorem a5U (b : List Int) (hb : Bytes b) (hl : b.length <= 1000000) : a0M (histL b) = true:=
 rightC_iff.2 ⟨a1x _,λ x hx=>by obtain ⟨v,_,rfl⟩:=a7s hx; omega,by rw [a9J b hb]; omega⟩
theorem b4Z {b : List Int} {r : Nat} (hb : Bytes b) (hl : b.length <= 1000000) (h0 : 0 < b.length) (h1 : 1 <= r) (h12 : r <= 12) (hm : manyC (histL b) <= 2 ^ r) : Can (histL b) r:=
 ⟨a1x _,λ x hx=>by obtain ⟨v,_,rfl⟩:=a7s hx; omega,by rw [a9J b hb]; omega,by rw [a9J b hb]; omega,h1,h12,by rw [<- b4Y (a5U b hb hl)]; exact hm⟩
def zeroR (b : List Int) : Nat:=(pickI b.length (manyC (histL b)) 11).toNat
def zeroQ (b : List Int) : List Int:=normL (histL b) (zeroR b)
theorem a4p (b : List Int) : pickI b.length (manyC (histL b)) 11 = (zeroR b : Int) /\ 5 <= zeroR b /\ zeroR b <= 11 /\ manyC (histL b) <= 2 ^ zeroR b:=by
 obtain ⟨r,h1,h2,h3,h4⟩:=b4X b.length (manyC (histL b)) 11 (a4Z _) (by omega) (by omega)
 have e : zeroR b = r:=by unfold zeroR; rw [show ((11 : Nat) : Int) = 11 from rfl] at h1; rw [h1]; simp
 rw [e]; exact ⟨h1,h2,h3,h4⟩
theorem b5a {lg : Int} {q : List Int} (h : logC q ≠ 0) (h2 : (logC q : Int) = lg) : badQ lg q = false:=by
 unfold badQ; exact decide_eq_false (λ x=>x.2 ⟨h,h2⟩)
theorem c4M (lg : Int) : badQ lg [] = false:=by unfold badQ; exact decide_eq_false (λ x=>by simp at x)
theorem a5V {b : List Int} (hb : Bytes b) (hl : b.length <= 1000000) (h0 : 0 < b.length) : Can (histL b) (zeroR b):=by
 have:=a4p b
 exact b4Z hb hl h0 (by omega) (by omega) this.2.2.2
theorem c4N {b : List Int} (hb : Bytes b) (hl : b.length <= 1000000) (h0 : 0 < b.length) : a0K (zeroR b) true [zeroQ b] = true:=by
 have hc:=a5V hb hl h0
 have hz:=a4p b
 have hlog:=b4Q hc
 have hlen:=(a5e hc).1.len
 unfold a0K
 rw [if_neg (by omega),if_neg (by
  simp only [List.any_cons,List.any_nil,Bool.or_false]
  rw [b5a (q:=zeroQ b) (by unfold zeroQ; omega) (by unfold zeroQ; rw [hlog])]; decide)]
 rw [if_pos rfl,decide_eq_true_eq]
 have h0 : 0 < (normL (histL b) (zeroR b)).length:=by omega
 refine ⟨List.length_singleton,?_⟩
 rw [List.getD_cons_zero]; unfold zeroQ; exact h0
theorem c4O {b : List Int} (hb : Bytes b) (hl : b.length <= 1000000) (h0 : 0 < b.length) : fitsM (zeroR b) true [zeroQ b] b = true:=by
 have hc:=a5V hb hl h0
 have hn:=a5e hc
 unfold fitsM
 rw [c4N hb hl h0,Bool.true_and,List.all_eq_true]
 intro i hi
 have hi':=List.mem_range.1 hi
 have hg:=hb.get i
 obtain ⟨x,hx⟩ : ∃ x : Nat,b.getD i 0 = x:=⟨(b.getD i 0).toNat,by omega⟩
 unfold fitAt
 rw [decide_eq_true_eq]
 have e0 : ([zeroQ b].getD (listI true (ctxI b i)) []) = normL (histL b) (zeroR b):=by unfold listI; rw [if_pos rfl,List.getD_cons_zero]; rfl
 rw [e0]
 refine ⟨by have:=hn.1.len; omega,?_⟩
 rw [hx,Int.toNat_natCast]
 have h1:=(hn.2.2 x).2 ((a9K b (by omega)).2 (by rw [<- hx]; exact a2V hi'))
 omega
def a0r (b : List Int) : Nat:=(pickI b.length (widN b 256) 9).toNat
def a1i (b : List Int) (c : Nat) : List Int:=if 0 < (a0p b (c : Int)).length then normL (histL (a0p b (c : Int))) (a0r b) else []
def a0y (b : List Int) : List (List Int):=(List.range 256).map (a1i b)
theorem a2W (b : List Int) : pickI b.length (widN b 256) 9 = (a0r b : Int) /\ 5 <= a0r b /\ a0r b <= 9 /\ widN b 256 <= 2 ^ a0r b:=by
 obtain ⟨r,h1,h2,h3,h4⟩:=b4X b.length (widN b 256) 9 (a7v b _) (by omega) (by omega)
 have e : a0r b = r:=by unfold a0r; rw [show ((9 : Nat) : Int) = 9 from rfl] at h1; rw [h1]; simp
 rw [e]; exact ⟨h1,h2,h3,h4⟩
theorem b5b (b : List Int) : ∀ k c,c < k -> manyC (histL (a0p b (c : Nat))) <= widN b k
 | 0,c,h=>by omega
 | k + 1,c,h=>by
  simp only [widN]
  by_cases e : c = k
  · subst e; omega
  · have:=b5b b k c (by omega); omega
theorem c4P (b : List Int) (c : Int) : (a0p b c).length <= b.length:=a4o b c b.length
theorem a5W {b : List Int} (hb : Bytes b) (hl : b.length <= 1000000) {c : Nat} (hc : c < 256) (h0 : 0 < (a0p b (c : Int)).length) : Can (histL (a0p b (c : Int))) (a0r b):=by
 have h1:=a2W b
 have h2:=b5b b 256 c hc
 have h3:=c4P b (c : Int)
 exact b4Z (b4I hb _ _) (by omega) h0 (by omega) (by omega) (by omega)
theorem a9L (b : List Int) : (a0y b).length = 256:=by simp [a0y]
theorem a7B (b : List Int) {c : Nat} (h : c < 256) : (a0y b).getD c [] = a1i b c:=by
 unfold a0y; rw [List.getD_eq_getElem?_getD,List.getElem?_map,List.getElem?_range h]; rfl
theorem c4Q {b : List Int} (hb : Bytes b) (hl : b.length <= 1000000) : a0K (a0r b) false (a0y b) = true:=by
 have hz:=a2W b
 unfold a0K
 rw [if_neg (by omega),if_neg]
 · rw [if_neg (by decide),decide_eq_true_eq]; exact a9L b
 · rw [Bool.not_eq_true,List.any_eq_false]
   intro q hq
   unfold a0y at hq
   obtain ⟨c,hc,rfl⟩:=List.mem_map.1 hq
   unfold a1i
   split
   · rename_i h0
     have hlog:=b4Q (a5W hb hl (List.mem_range.1 hc) h0)
     rw [b5a (by omega) (by rw [hlog])]; decide
   · rw [c4M]; decide
theorem c4R {b : List Int} (hb : Bytes b) (hl : b.length <= 1000000) : fitsM (a0r b) false (a0y b) b = true:=by
 unfold fitsM
 rw [c4Q hb hl,Bool.true_and,List.all_eq_true]
 intro i hi
 have hi':=List.mem_range.1 hi
 have hg:=hb.get i
 have hcr:=a8W hb i hi'
 obtain ⟨x,hx⟩ : ∃ x : Nat,b.getD i 0 = x:=⟨(b.getD i 0).toNat,by omega⟩
 obtain ⟨c,hc⟩ : ∃ c : Nat,ctxI b i = c:=⟨(ctxI b i).toNat,by omega⟩
 have hmem : b.getD i 0 ∈ a0p b (c : Int):=by
  unfold a0p pkL
  exact List.mem_map.2 ⟨i,List.mem_filter.2 ⟨hi,by rw [decide_eq_true_eq]; exact hc⟩,rfl⟩
 have hpos : 0 < (a0p b (c : Int)).length:=List.length_pos_of_mem hmem
 have hcan:=a5W hb hl (c:=c) (by omega) hpos
 have hn:=a5e hcan
 have e : (a0y b).getD (listI false (ctxI b i)) [] = normL (histL (a0p b (c : Int))) (a0r b):=by
  rw [hc]
  show (a0y b).getD ((c : Int)).toNat [] = _
  rw [Int.toNat_natCast,a7B b (by omega)]
  unfold a1i; rw [if_pos hpos]
 unfold fitAt
 rw [decide_eq_true_eq,e]
 refine ⟨by have:=hn.1.len; omega,?_⟩
 rw [hx,Int.toNat_natCast]
 have h1:=(hn.2.2 x).2 ((a9K _ (by omega)).2 (by rw [<- hx]; exact hmem))
 omega
end Go.Proofs.YtflfjpkmjnnodaaGreat
namespace Go.Proofs.YtflfjpkmjnnodaaGreat
open Go.RowKit Go.IntWalk Go.Proofs.YtflfjpkmjnnodaaGreatW.PrintWords
def MadeM (lg : Int) (one : Bool) (qs : List (List Int)) (w : World) (e : Ending) (w' : World) : Prop:=∃ v,e = .returned (.agg #[.int .i64 lg,.bool one,v]) /\ kq.R 84 w' w.heap.size (λ _=>True) v qs /\ Below w.heap.size w w'
theorem cell3 {w : World} {mb : Nat} {a b c : Value} {t : Nat} (h : w.heap[mb]? = some (.cells #[a,b,c] t (0,0))) : (w.cell? ⟨mb,0,none⟩ = some a /\ w.cell? ⟨mb,1,none⟩ = some b /\ w.cell? ⟨mb,2,none⟩ = some c) /\ (w.frozen? ⟨mb,0,none⟩ = false /\ w.frozen? ⟨mb,1,none⟩ = false /\ w.frozen? ⟨mb,2,none⟩ = false):=
 ⟨⟨(a0a h 0).trans rfl,(a0a h 1).trans rfl,(a0a h 2).trans rfl⟩,a0e h 0,a0e h 1,a0e h 2⟩
theorem a5X : (Tryz.prog.info? 26).map (·.size) = some 3:=by kernel_rfl
theorem a9M {w : World} {base : Nat} {v : Value} {q : List Int} (h : (Kd.int .i64).R 3 w base (λ _=>True) v q) (hb : base <= w.heap.size) : kq.R 84 (w.alloc (.cells #[v] 84)) base (λ k=>base <= k) (.slice (some ⟨w.heap.size,0,none⟩) 1 1) [q]:=by
 have hne : ∀ k,v.ownBlock = some k -> base <= k /\ k < w.heap.size:=λ k hk=>((Kd.R_bound h).1 k hk).2.imp id (λ x=>x.1)
 refine ⟨λ k hk=>by cases hk; exact hb,[v],⟨rfl,.inr ⟨w.heap.size,1,#[v],rfl,hb,a0k w _,Nat.le_refl _,by unfold maxLen; omega,rfl,rfl⟩⟩,rfl,λ j p hj=>?_⟩
 have hj0 : j = 0:=by
  rcases Nat.eq_zero_or_pos j with e | e
  · exact e
  · rw [List.getElem?_eq_none (by simp; omega)] at hj; cases hj
 subst hj0
 cases hj
 refine ⟨v,rfl,Kd.R_alloc (Kd.R_mono (Kd.R_tight rfl h) (λ k hk=>⟨(hne k hk.symm).1,λ e=>?_⟩)) _⟩
 have:=(hne k hk.symm).2
 have h2 : k = w.heap.size:=Option.some.inj e
 omega
theorem a7C : (Tryz.prog.info? 84).map (λ i=>(i.zero,i.size,i.bytes)) = some (some (.slice none 0 0),1,24):=by kernel_rfl
theorem b5c (n : Nat) (hn : n <= 1000000) (w : World) : (Instr.makeSlice 24 (.int .i64 n) (.int .i64 n)).run Tryz.prog w = .ok (.slice (some ⟨w.heap.size,0,none⟩) n n) (w.alloc (.cells (madeCells #[.slice none 0 0] n) 84)):=by
 obtain ⟨i0,hi,hzz⟩:=Option.map_eq_some_iff.1 a7C
 simp only [Prod.mk.injEq] at hzz
 obtain ⟨hz0,hz1,hz2⟩:=hzz
 have hr:=run_make (P:=Tryz.prog) w 24 84 i0 (.slice none 0 0) Tryz.underlying24 hi hz0 .i64 .i64 (n : Int) (n : Int) (by omega) (by omega) (by rw [hz2]; omega) (by omega)
 rw [hz1] at hr
 simpa [Value.cells] using hr
theorem a0h {w w1 w2 : World} (h : Below w.heap.size w w1) (k : Below w1.heap.size w1 w2) : Below w.heap.size w w2:=h.trans (k.mono h.size)
theorem c4U (n : Nat) (hn : n <= 1000000) (W : World) (mb base : Nat) (hne : W.heap.size ≠ mb) (hb : base <= W.heap.size) : kq.R 84 (W.alloc (.cells (madeCells #[.slice none 0 0] n) 84)) base (λ k=>k ≠ mb) (.slice (some ⟨W.heap.size,0,none⟩) n n) (List.replicate n []):=by
 have hr:=Kd.reps_made (R:=kq.M (W.alloc (.cells (madeCells #[.slice none 0 0] n) 84)) base (λ k=>k ≠ mb /\ some k ≠ (Value.slice (some ⟨W.heap.size,0,none⟩) n n).ownBlock)) (z:=.slice none 0 0) (size:=1) (z0:=([] : List Int)) rfl Nat.one_pos ⟨.slice none 0 0,rfl,Kd.R_nil _ _ _ _ _⟩ n
 have e : (Value.slice none 0 0).cells = #[.slice none 0 0]:=rfl
 rw [e,Nat.mul_one] at hr
 refine ⟨λ k hk=>by cases hk; exact hne,_,⟨?_,.inr ⟨W.heap.size,n,madeCells #[.slice none 0 0] n,by simp,hb,a0k W _,by simp,by unfold maxLen; omega,?_,?_⟩⟩,hr⟩
 · simp [size_madeCells]; exact (Nat.mul_one n).symm
 · rw [size_madeCells]; exact (Nat.mul_one n).symm
 · rw [List.length_replicate]; exact List.take_of_length_le (by simp [size_madeCells]; exact Nat.le_of_eq (Nat.mul_one n).symm)
theorem a7F (W : World) (mb base : Nat) (hne : W.heap.size ≠ mb) (hb : base <= W.heap.size) : kq.R 84 (W.alloc (.cells (madeCells #[.slice none 0 0] 256) 84)) base (λ k=>k ≠ mb) (.slice (some ⟨W.heap.size,0,none⟩) 256 256) (List.replicate 256 []):=c4U 256 (by omega) W mb base hne hb
theorem b5e (W : World) (o : Obj) (mb base : Nat) (hne : W.heap.size + 1 ≠ mb) (hb : base <= W.heap.size + 1) : kq.R 84 ((W.alloc o).alloc (.cells (madeCells #[.slice none 0 0] 256) 84)) base (λ k=>k ≠ mb) (.slice (some ⟨W.heap.size + 1,0,none⟩) 256 256) (List.replicate 256 []):=by
 have e : (W.alloc o).heap.size = W.heap.size + 1:=by simp
 have:=a7F (W.alloc o) mb base (by rw [e]; exact hne) (by rw [e]; exact hb)
 rw [e] at this; exact this
theorem a2h (W : World) (a o : Obj) : ((W.alloc a).alloc o).heap[W.heap.size + 1]? = some o:=by
 have:=a0k (W.alloc a) o
 rw [show (W.alloc a).heap.size = W.heap.size + 1 by simp] at this; exact this
theorem a1O {w : World} {mb : Nat} {t : Nat} {a b c : Value} (h : w.heap[mb]? = some (.cells #[a,b,c] t (0,0))) (x y z : Value) : (((w.setCell ⟨mb,0,none⟩ x).setCell ⟨mb,1,none⟩ y).setCell ⟨mb,2,none⟩ z).heap[mb]? = some (.cells #[x,y,z] t (0,0)):=by
 rw [a0n (a0n (a0n h 0 _) 1 _) 2]; rfl
theorem a2X {α : Type} {d : Kd α} {e : Nat} {w : World} {base mb : Nat} {v : Value} {xs : List α} (h : d.R e w base (λ k=>k ≠ mb) v xs) (x y z : Value) : d.R e (((w.setCell ⟨mb,0,none⟩ x).setCell ⟨mb,1,none⟩ y).setCell ⟨mb,2,none⟩ z) base (λ k=>k ≠ mb) v xs:=
 Kd.R_far (p:=⟨mb,2,none⟩) (Kd.R_far (p:=⟨mb,1,none⟩) (Kd.R_far (p:=⟨mb,0,none⟩) h (λ _ hk=>hk) x) (λ _ hk=>hk) y) (λ _ hk=>hk) z
theorem b5f {w : World} {g : Nat} {o : Obj} (h : w.heap[g]? = some o) : w.drew.heap[g]? = some o:=h
theorem b5g {e : TypeId} {W : World} {base g n cap : Nat} {ok okp : Nat -> Prop} {xs : List (List Int)} {v : Value} {x : List Int} (h : kq.R e W base ok (.slice (some ⟨g,0,none⟩) n cap) xs) (i : Nat) (hi : i < n) (hq : (Kd.int .i64).R 3 W base okp v x) (hokp : ∀ k,okp k -> ok k /\ k ≠ g) :
    kq.R e (W.setCell ⟨g,i,none⟩ v) base ok (.slice (some ⟨g,0,none⟩) n cap) (xs.set i x):=by
 obtain ⟨c,hcl,_,hcc,_⟩:=Kd.R_elem h [] (i : Int) (by omega) (by omega)
 have hs : kq.sz = 1:=rfl
 have:=(Kd.R_seg h (i : Int) (by omega) (by omega) (seg:=[v]) (j:=0) (x':=x) (okp:=okp) hcl hcc (by rw [hs]; simp) ⟨v,by rw [List.drop_of_length_le (by rw [hcl,hs]; simp)]; simp,hq⟩ hokp).1
 simp only [Int.toNat_natCast,hs,Nat.mul_one,Nat.add_zero] at this
 exact this
def a3r (b : List Int) (i : Nat) : List (List Int):=(List.range 256).map (λ (c : Nat)=>if (c : Int) ∈ (presN b 256).take i then a1i b c else [])
theorem a7G (b : List Int) {i : Nat} (h : i < (presN b 256).length) : ∃ c : Nat,(presN b 256).getD i 0 = c /\ c < 256 /\ 0 < (a0p b (c : Int)).length:=by
 have hm:=a2V h
 obtain ⟨z,hz⟩ : ∃ z,z = (presN b 256).getD i 0:=⟨_,rfl⟩
 rw [<- hz] at hm ⊢
 unfold presN at hm
 obtain ⟨c,hc,rfl⟩:=List.mem_map.1 hm
 obtain ⟨h1,h2⟩:=List.mem_filter.1 hc
 exact ⟨c,rfl,List.mem_range.1 h1,by simpa using h2⟩
theorem b5h (b : List Int) : a3r b 0 = List.replicate 256 []:=by
 unfold a3r
 rw [<- List.length_range (n:=256),<- List.map_const',List.length_range]
 exact List.map_congr_left (λ c _=>by rw [if_neg (by simp)])
theorem b5i (b : List Int) {i c : Nat} (h : i < (presN b 256).length) (hc : (presN b 256).getD i 0 = (c : Int)) : (a3r b i).set c (a1i b c) = a3r b (i + 1):=by
 have e : (presN b 256).take (i + 1) = (presN b 256).take i ++ [(c : Int)]:=by
  rw [List.take_succ_eq_append_getElem h,<- hc,List.getD_eq_getElem?_getD,List.getElem?_eq_getElem h]; rfl
 unfold a3r
 apply List.ext_getElem
 · simp
 · intro k h1 h2
   rw [List.getElem_set]
   simp only [List.getElem_map,List.getElem_range,e,List.mem_append,List.mem_singleton]
   by_cases hk : c = k
   · subst hk; rw [if_pos rfl,if_pos (.inr rfl)]
   · rw [if_neg hk]
     by_cases h3 : (k : Int) ∈ (presN b 256).take i
     · rw [if_pos h3,if_pos (.inl h3)]
     · rw [if_neg h3,if_neg (λ x=>x.elim h3 (λ y=>by omega))]
theorem b5j (b : List Int) : a3r b (presN b 256).length = a0y b:=by
 unfold a3r a0y
 refine List.map_congr_left (λ c hc=>?_)
 rw [List.take_length]
 by_cases h : (c : Int) ∈ presN b 256
 · rw [if_pos h]
 · rw [if_neg h]
   unfold a1i
   rw [if_neg (λ h2=>h ?_)]
   unfold presN
   exact List.mem_map.2 ⟨c,List.mem_filter.2 ⟨hc,by simpa using h2⟩,rfl⟩
def a9N (lg : Int) (w : World) (s3 : Value) (wx : World) : Prop:=∃ mb g : Nat,s3 = .pointer (some ⟨mb,0,none⟩) /\ w.heap.size <= mb /\ w.heap.size <= g /\ mb ≠ g /\ wx.heap[mb]? = some (.cells #[.int .i64 lg,.bool false,.slice (some ⟨g,0,none⟩) 256 256] 26 (0,0)) /\
 kq.R 84 wx w.heap.size (λ k=>k ≠ mb) (.slice (some ⟨g,0,none⟩) 256 256) (List.replicate 256 []) /\ Below w.heap.size w wx
theorem b5k {e : TypeId} {W : World} {base g n cap : Nat} {ok : Nat -> Prop} {xs : List (List Int)} (h : kq.R e W base ok (.slice (some ⟨g,0,none⟩) n cap) xs) (i : Nat) (hi : i < n) : (∃ u,W.cell? ⟨g,i,none⟩ = some u) /\ W.frozen? ⟨g,i,none⟩ = false:=by
 obtain ⟨c,hcl,hm,hcc,hf⟩:=Kd.R_elem h [] (i : Int) (by omega) (by omega)
 obtain ⟨v,rfl,_⟩:=hm
 have h1:=hcc 0 v rfl
 have h2:=hf 0
 have hs : kq.sz = 1:=rfl
 simp only [Int.toNat_natCast,hs,Nat.mul_one,Nat.add_zero] at h1 h2
 exact ⟨⟨v,h1⟩,h2⟩
theorem b5l {lg : Int} {W1 wx : World} {mb : Nat} (g : Nat) (hd : wx.heap[mb]? = some (.cells #[.int .i64 lg,.bool false,.slice (some ⟨g,0,none⟩) 256 256] 26 (0,0))) (he : kq.R 84 wx W1.heap.size (λ k=>k ≠ mb) (.slice (some ⟨g,0,none⟩) 256 256) (List.replicate 256 [])) (hf : Below W1.heap.size W1 wx) (h1 : W1.heap.size <= mb) (h2 : W1.heap.size <= g) (h3 : mb ≠ g) : a9N lg W1 (.pointer (some ⟨mb,0,none⟩)) wx:=⟨mb,g,rfl,h1,h2,h3,hd,he,hf⟩
def ofR (b : List Int) (one : Bool) : Nat:=if one then zeroR b else a0r b
def ofQ (b : List Int) (one : Bool) : List (List Int):=if one then [zeroQ b] else a0y b
theorem c4Y {w W1 wr : World} {lg : Int} {one : Bool} {qs : List (List Int)} {v : Value} (hb : Below w.heap.size w W1) (hlt : w.heap.size < W1.heap.size) (hk : W1.heap[w.heap.size]? = some (.cells #[.int .i64 0,.bool false,.slice none 0 0] 26 (0,0))) (hv : kq.R 84 wr W1.heap.size (λ _=>True) v qs) (hw : Below W1.heap.size W1 wr) :
    (((wr.setCell ⟨w.heap.size,0,none⟩ (.int .i64 lg)).setCell ⟨w.heap.size,1,none⟩ (.bool one)).setCell ⟨w.heap.size,2,none⟩ v).heap[w.heap.size]? = some (.cells #[.int .i64 lg,.bool one,v] 26 (0,0)) /\
    MadeM lg one qs w (.returned (.agg #[.int .i64 lg,.bool one,v])) (((wr.setCell ⟨w.heap.size,0,none⟩ (.int .i64 lg)).setCell ⟨w.heap.size,1,none⟩ (.bool one)).setCell ⟨w.heap.size,2,none⟩ v):=by
 refine ⟨a1O (a0g hk hw) _ _ _,_,rfl,?_,?_⟩
 · have h1 : kq.R 84 wr w.heap.size (λ k=>k ≠ w.heap.size) v qs:=
     Kd.R_mono (Kd.R_lower (Kd.R_bound hv) (Nat.le_of_lt hlt)) (λ k hk=>by have:=hk.2.1; omega)
   exact Kd.R_mono (a2X h1 _ _ _) (λ _ _=>trivial)
 · exact (((hb.trans (hw.mono hb.size)).setCell (Nat.le_refl _) _).setCell (Nat.le_refl _) _).setCell (Nat.le_refl _) _
theorem a5f {b : List Int} {one : Bool} (hb : Bytes b) (hl : b.length <= 131072) (h0 : 0 < b.length) : canM (ofR b one) one (ofQ b one) b = true:=by
 unfold canM
 rw [decide_eq_true hl,Bool.true_and]
 cases one with
 | true=>exact c4O hb (by omega) h0
 | false=>exact c4R hb (by omega)
theorem a2i (κ : IntKind) (e : TypeId) (W : World) (base : Nat) (ok : Nat -> Prop) (hok : ok W.heap.size) (hb : base <= W.heap.size) (xs : List Int) (hl : xs.length <= 1000000) : (Kd.int κ).R e (W.alloc (.cells (xs.map (Value.int κ)).toArray e)) base ok (.slice (some ⟨W.heap.size,0,none⟩) xs.length xs.length) xs:=by
 refine Kd.R_of_own (h1:=λ _=>rfl) ⟨by simp [encs],.inr ⟨W.heap.size,xs.length,_,rfl,hb,a0k W _,Nat.le_refl _,by unfold maxLen; omega,by simp,?_⟩⟩ (λ k hk=>by cases hk; exact hok)
 rw [Nat.mul_one,show (xs.map (Value.int κ)).toArray.toList = encs (Value.int κ) xs from rfl,List.take_of_length_le (by rw [a3e]; exact Nat.le_refl _)]
theorem b5m {a b : List Int} (ha : Bytes a) (hb : Bytes b) : ((strOfNums a).toList == (strOfNums b).toList) = decide (a = b):=by
 have e : ∀ l : List Int,(strOfNums l).toList = l.map (λ x=>UInt8.ofNat x.toNat):=by
  intro l; unfold strOfNums; simp
 rw [e a,e b]
 by_cases h : a = b
 · subst h; simp
 · rw [decide_eq_false h]
   simp only [beq_eq_false_iff_ne,ne_eq]
   intro he
   apply h
   have inj : ∀ (a b : List Int),Bytes a -> Bytes b -> a.map (λ x=>UInt8.ofNat x.toNat) = b.map (λ x=>UInt8.ofNat x.toNat) -> a = b:=by
    intro a
    induction a with
    | nil=>intro b _ _ h; cases b with
     | nil=>rfl
     | cons y b=>simp at h
    | cons x a ih=>
     intro b hxa hyb h
     cases b with
     | nil=>simp at h
     | cons y b=>
      rw [List.map_cons,List.map_cons,List.cons.injEq] at h
      have hx:=hxa x (by simp)
      have hy:=hyb y (by simp)
      have h1:=congrArg UInt8.toNat h.1
      simp only [UInt8.toNat_ofNat'] at h1
      have : x = y:=by omega
      rw [this,ih b (λ z hz=>hxa z (by simp [hz])) (λ z hz=>hyb z (by simp [hz])) h.2]
   exact inj a b ha hb he
theorem c5o : Tryz.zeroCells256 = madeCells #[.int .i64 0] 256:=by kernel_rfl
theorem a9S (n : Nat) (e : TypeId) (W : World) (ok : Nat -> Prop) (hok : ok W.heap.size) (base : Nat) (hb : base <= W.heap.size) (hn : n <= 1000000) : (Kd.int .i64).R e (W.alloc (.cells (madeCells #[.int .i64 0] n) e)) base ok (.slice (some ⟨W.heap.size,0,none⟩) n n) (List.replicate n 0):=by
 have hr:=Kd.reps_made (R:=(Kd.int .i64).M (W.alloc (.cells (madeCells #[.int .i64 0] n) e)) base (λ k=>ok k /\ some k ≠ (Value.slice (some ⟨W.heap.size,0,none⟩) n n).ownBlock)) (z:=.int .i64 0) (size:=1) (z0:=(0 : Int)) rfl Nat.one_pos rfl n
 have e' : (Value.int .i64 0).cells = #[.int .i64 0]:=rfl
 rw [e',Nat.mul_one] at hr
 refine ⟨λ k hk=>by cases hk; exact hok,_,⟨?_,.inr ⟨W.heap.size,n,madeCells #[.int .i64 0] n,by simp,hb,a0k W _,by simp,by unfold maxLen; omega,?_,?_⟩⟩,hr⟩
 · simp [size_madeCells]; exact (Nat.mul_one n).symm
 · rw [size_madeCells]; exact (Nat.mul_one n).symm
 · rw [List.length_replicate]; exact List.take_of_length_le (by simp [size_madeCells]; exact Nat.le_of_eq (Nat.mul_one n).symm)
theorem c5p : histL [] = List.replicate 256 0:=by
 unfold histL mapR
 rw [List.map_congr_left (g:=λ _=>(0 : Int)) (λ _ _=>by simp),List.map_const',List.length_range]
theorem c5q (b : List Int) (k : Nat) (hk : k < b.length) {y : Nat} (hy : b.getD k 0 = y) (h : y < 256) : histL (b.take (k + 1)) = (histL (b.take k)).set y ((histL (b.take k)).getD y 0 + 1):=by
 rw [List.take_succ_eq_append_getElem hk]
 have e : b[k] = (y : Int):=by rw [<- hy,List.getD_eq_getElem?_getD,List.getElem?_eq_getElem hk]; rfl
 rw [e,b4J _ h,a5T _ h]
def c5r (b : List Int) (w : World) (e : Ending) (w' : World) : Prop:=∃ v,e = .returned v /\ (Kd.int .i64).R 3 w' w.heap.size (λ _=>True) v (histL b) /\ Below w.heap.size w w'
set_option maxRecDepth 100000 in
set_option maxHeartbeats 1000000 in
theorem b5u (A : Option Addr) (cp : Nat) (b : List Int) (w : World) (hr : (Kd.int .u8).C w A b.length b) (hl : b.length <= 1000000) (hb : ∀ x ∈ b,0 <= x /\ x < 256) :
    Calls Tryz.prog 195 #[.slice A b.length cp] w (c5r b w):=by
 have HR:=Lib.hid (And.intro hr (And.intro hl hb))
 have HI : Hid ((Kd.int .i64).R 256 (w.alloc (.cells Tryz.zeroCells256 256)) w.heap.size (λ _=>True) (.slice (some ⟨w.heap.size,0,none⟩) 256 256) (histL (b.take 0)) /\ Below w.heap.size w (w.alloc (.cells Tryz.zeroCells256 256))):=by
  rw [c5o,List.take_zero,c5p]
  exact ⟨a9S 256 _ w _ trivial _ (Nat.le_refl _) (by omega),(Below.refl _ _).alloc (Nat.le_refl _) _⟩
 clear hr hb
 go_enter Tryz.func195,Tryz.ntmps195
 go_wp2_with fail
 go_loopw [8] (λ kv wr=>∃ (k : Nat),kv = .int .i64 k /\ k <= b.length /\ Hid ((Kd.int .i64).R 256 wr w.heap.size (λ _=>True) (.slice (some ⟨w.heap.size,0,none⟩) 256 256) (histL (b.take k)) /\ Below w.heap.size w wr)) (λ kv _=>b.length - (intOf kv).toNat)
 case atStart=>exact ⟨0,rfl,by omega,HI⟩
 case round=>
  obtain ⟨k,rfl,hk,H⟩:=hrel
  by_cases hlt : k < b.length
  · obtain ⟨ad,rfl,hcell⟩:=a0w HR.out.1 k hlt
    have hcw:=a0s H.out.2 hcell
    obtain ⟨x,hx⟩ : ∃ x : Nat,b.getD k 0 = x:=by
     have : 0 <= b.getD k 0:=(HR.out.2.2 _ (a2V hlt)).1
     exact ⟨(b.getD k 0).toNat,by omega⟩
    have hx2 : x < 256:=by have:=(HR.out.2.2 _ (a2V hlt)).2; omega
    rw [hx] at hcw
    obtain ⟨hc3,hf3⟩:=a1G H.out.1 x hx2
    obtain ⟨y,hy⟩ : ∃ y,y = (histL (b.take k)).getD x 0:=⟨_,rfl⟩
    have hyr : 0 <= y /\ y <= 1000000:=by
     rw [hy,a5T _ hx2]
     have:=List.count_le_length (a:=(x : Int)) (l:=b.take k)
     rw [List.length_take] at this
     omega
    obtain ⟨hy0,hy1⟩:=hyr
    rw [<- hy] at hc3
    have HY:=Lib.hid (And.intro hy hx)
    have hx256 : (x : Int) < 256:=by omega
    clear hy hx hcell
    go_wp2_with fail
    go_roundw
    case rel=>
     refine ⟨k + 1,by go_num,by omega,?_,H.out.2.setCell (Nat.le_refl _) _⟩
     rw [c5q b k hlt HY.out.2 hx2,<- HY.out.1]
     have:=Kd.R_putn H.out.1 (x : Int) (y + 1)
     rw [Int.toNat_natCast] at this
     exact this
    case measure=>simp [intOf]; omega
  · obtain rfl : k = b.length:=by omega
    rw [List.take_length] at H
    have hrd:=Kd.R_reads' H.out.1
    have hcl : (histL b).length = 256:=a1x _
    have HE:=Lib.hid (a6V .i64 3 wr w.heap.size (λ _=>True) H.out.2.size trivial)
    have HC : Hid ((Kd.int .i64).C (wr.alloc (.cells #[] 3)) (some ⟨w.heap.size,0,none⟩) 256 (histL b)):=by
     have:=Kd.C_alloc hrd.2.2 (.cells #[] 3)
     rw [hcl] at this; exact this
    have HL : Hid ((([] : List Int).length + (histL b).length) * 8 <= 140737488355328):=by show _ <= _; rw [hcl]; decide
    have HB:=Lib.hid (H.out.2.alloc H.out.2.size (.cells #[] 3))
    have HS : Hid (w.heap.size <= (wr.alloc (.cells #[] 3)).heap.size):=by show _ <= _; have:=H.out.2.size; simp; omega
    clear hrd hcl hlt
    go_wp2_with (at_builtin; refine Kd.R_append_rows (Kd.int .i64) (Rr:=(Kd.int .i64).K (wr.alloc (.cells #[] 3))) (w0:=w) (W:=wr.alloc (.cells #[] 3)) w.heap.size rfl (.tmp 18) (.tmp 19) 84 3 (.int .i64 0) 8 rfl Tryz.underlying84 a4G rfl (by decide) (by decide) (.slice (some ⟨wr.heap.size,0,none⟩) 0 0) [] (histL b) (some ⟨w.heap.size,0,none⟩) 256 256 (λ _=>True) (λ _=>False) rfl rfl HE.out HC.out (λ _ _ h=>h) (λ _ h=>h.elim) (λ _ _=>trivial) HB.out HS.out HL.out ?_; intro vi w2 hr2 hb2 hg2 hat2; have HR2:=Lib.hid hr2; have HB2:=Lib.hid hb2; clear hr2 hb2 hg2 hat2)
    go_ret
    rw [List.nil_append] at HR2
    exact ⟨_,rfl,HR2.out,HB2.out⟩
def panE (n : Int) : Ending:=.panicked [{ v:=.iface 27 (.int .i64 n),recovered:=false }]
set_option maxRecDepth 100000 in
theorem a5h (w : World) : Calls Tryz.prog 158 #[.bool false] w λ e w'=>e = .returned (.tuple #[]) /\ w = w':=by
 go_enter Tryz.func158,Tryz.ntmps158
 go_wp2_with fail
 go_end0
 exact ⟨rfl,rfl⟩
set_option maxRecDepth 100000 in
theorem a9T (w : World) : Calls Tryz.prog 158 #[.bool true] w λ e w'=>e = panE 13 /\ w = w':=by
 go_enter Tryz.func158,Tryz.ntmps158
 go_wp2_with fail
 first | exact ⟨rfl,rfl⟩ | (simp [bodyPost,panE])
set_option maxRecDepth 100000 in
theorem a5i (n : Int) (w : World) : Calls Tryz.prog 159 #[.int .i64 n,.int .i64 0] w λ e w'=>e = .returned (.int .i64 n) /\ w = w':=by
 go_enter Tryz.func159,Tryz.ntmps159
 go_wp2_with fail
 go_ret
 exact ⟨rfl,rfl⟩
set_option maxRecDepth 100000 in
theorem a9U (n e : Int) (w : World) (h : ¬ e = 0) : Calls Tryz.prog 159 #[.int .i64 n,.int .i64 e] w λ en w'=>en = panE e /\ w = w':=by
 have hb : (e == 0) = false:=beq_eq_false_iff_ne.2 h
 have hn : (e != 0) = true:=by simp [h]
 go_enter Tryz.func159,Tryz.ntmps159
 go_wp2_with fail
 first | exact ⟨rfl,rfl⟩ | (simp [bodyPost,panE])
theorem c5s {ps : List Int} {T : Nat} : ∀ (f at_ n most : Nat),(runT ps T f at_ n most).1 = 0 -> (runT ps T f at_ n most).2.1 <= most:=by
 intro f
 induction f with
 | zero=>intro _ _ _ h; simp [runT] at h
 | succ f ih=>
  intro at_ n most
  simp only [runT]
  by_cases h1 : T < at_ + 2
  · rw [if_pos h1]; intro h; cases h
  · rw [if_neg h1]
    by_cases h2 : most < n + takeF ps at_ 2
    · rw [if_pos h2]; intro h; cases h
    · rw [if_neg h2]
      by_cases h3 : takeF ps at_ 2 = 3
      · rw [if_pos h3]; exact ih _ _ _
      · rw [if_neg h3]; intro _; simp only []; omega
structure HcRel (base p g : Nat) (ps : List Int) (H : Int × List Int × Nat) (w : World) (left s : Nat) (again : Bool) (q : List Int) (at_ d : Nat) (wr : World) : Prop where
 rd : RfAt wr base p ps at_
 row : (Kd.int .i64).R 3 wr w.heap.size (λ _=>True) (.slice (some ⟨g,0,none⟩) 256 256) q
 ql : q.length = 256
 at_le : at_ <= 8 * ps.length
 eq : hdrT ps (8 * ps.length) d q s left again at_ = H
 fuel : 257 <= s + d
 only : Only (λ k=>k = p) w wr
 gt : p < g /\ w.heap.size <= g
def c5t (base p : Nat) (ps : List Int) (H : Int × List Int × Nat) (w : World) (e : Ending) (w' : World) : Prop:=
 (H.1 = 0 -> ∃ g,e = .returned (.slice (some ⟨g,0,none⟩) 256 256) /\ (Kd.int .i64).R 3 w' w.heap.size (λ _=>True) (.slice (some ⟨g,0,none⟩) 256 256) H.2.1 /\ H.2.1.length = 256 /\ RfAt w' base p ps H.2.2) /\
 (H.1 ≠ 0 -> e = panE H.1) /\ Only (λ k=>k = p) w w'
theorem HcRel.put {base p g : Nat} {ps : List Int} {H : Int × List Int × Nat} {w wr w1 : World} {left s : Nat} {again : Bool} {q : List Int} {at_ d : Nat} (h : HcRel base p g ps H w left s again q at_ d wr) {at2 : Nat} (hr : RfAt w1 base p ps at2) (ho : Only (λ k=>k = p) wr w1) (x : Int) :
    RfAt (w1.setCell ⟨g,s,none⟩ (.int .i64 x)) base p ps at2 /\ (Kd.int .i64).R 3 (w1.setCell ⟨g,s,none⟩ (.int .i64 x)) w.heap.size (λ _=>True) (.slice (some ⟨g,0,none⟩) 256 256) (q.set s x) /\ Only (λ k=>k = p) w (w1.setCell ⟨g,s,none⟩ (.int .i64 x)) /\
     (Kd.int .i64).R 3 w1 w.heap.size (λ _=>True) (.slice (some ⟨g,0,none⟩) 256 256) q:=by
 have hgp:=h.gt
 have h1 : (Kd.int .i64).R 3 w1 w.heap.size (λ _=>True) (.slice (some ⟨g,0,none⟩) 256 256) q:=a3l rfl h.row ho (λ k hk e=>by
  have : g = k:=by simpa [Value.ownBlock] using hk
  omega)
 have h2:=Kd.R_putn h1 (s : Int) x
 rw [Int.toNat_natCast] at h2
 refine ⟨hr.far hgp.1 s _,h2,?_,h1⟩
 have h3:=h.only.trans ho
 exact ⟨h3.os,h3.tape,h3.output,by simp; exact h3.size,λ k hk hs=>by rw [Below.heap_setCell _ _ _ _ (by show k ≠ g; omega)]; exact h3.block k hk hs⟩
set_option maxRecDepth 100000 in
set_option maxHeartbeats 2000000 in
theorem c5u (base p : Nat) (ps : List Int) (at_ left0 : Nat) (w : World) (h : RfAt w base p ps at_) (hps : ∀ x ∈ ps,0 <= x /\ x < 256) (hl : ps.length <= 1000000) (ha : at_ <= 8 * ps.length) (hleft : left0 <= 4096) (hp : p < w.heap.size) :
    Calls Tryz.prog 108 #[.pointer (some ⟨p,0,none⟩),.int .i64 left0] w (c5t base p ps (hdrT ps (8 * ps.length) 257 a0z 0 left0 false at_) w):=by
 obtain ⟨H,hH⟩ : ∃ H,H = hdrT ps (8 * ps.length) 257 a0z 0 left0 false at_:=⟨_,rfl⟩
 rw [<- hH]
 obtain ⟨W,hW⟩ : ∃ W,W = w.alloc (.cells (madeCells #[.int .i64 0] 256) 3):=⟨_,rfl⟩
 have HI : Hid (HcRel base p w.heap.size ps H w left0 0 false a0z at_ 257 W):=by
  refine ⟨?_,?_,by unfold a0z; exact List.length_replicate,ha,hH.symm,by omega,?_,hp,Nat.le_refl _⟩
  · rw [hW]; exact h.below ((Below.refl _ _).alloc (Nat.le_refl _) _)
  · rw [hW]; exact a9S 256 3 w _ trivial _ (Nat.le_refl _) (by omega)
  · rw [hW]; exact (Only.refl _ _).alloc _
 have hmi : ∀ w : World,(Instr.makeSlice 84 (.int .i64 256) (.int .i64 256)).run Tryz.prog w = .ok (.slice (some ⟨w.heap.size,0,none⟩) 256 256) (w.alloc (.cells (madeCells #[.int .i64 0] 256) 3)):=λ w=>a9E 256 (by omega) w
 have HP:=Lib.hid (And.intro hps (And.intro hl ha))
 clear h hps hl ha hH
 go_enter Tryz.func108,Tryz.ntmps108
 go_wp2_with fail
 rw [<- hW]
 obtain ⟨g,hg⟩ : ∃ g,g = w.heap.size:=⟨_,rfl⟩
 rw [<- hg] at HI ⊢
 clear hW hg hmi
 go_loopw [1,6,7] (λ lv av sv wr=>∃ (left s : Nat) (again : Bool),lv = .int .i64 left /\ av = .bool again /\ sv = .int .i64 s /\ left <= 4096 /\ s <= 256 /\ Hid (∃ q at' d,HcRel base p g ps H w left s again q at' d wr)) (λ _ _ sv _=>257 - (intOf sv).toNat)
 case atStart=>exact ⟨left0,0,false,rfl,rfl,rfl,hleft,by omega,a0z,at_,257,HI⟩
 case round=>
  obtain ⟨left,s,again,rfl,rfl,rfl,hl4,hs,HR⟩:=hrel
  obtain ⟨q,at',d,hr⟩:=HR.out
  obtain ⟨d,rfl⟩ : ∃ d',d = d' + 1:=⟨d - 1,by have:=hr.fuel; omega⟩
  have heq:=hr.eq
  simp only [hdrT] at heq
  have HH:=Lib.hid hr
  clear hr HR
  by_cases h0 : left = 0
  · rw [if_pos h0] at heq
    have HE:=Lib.hid heq
    subst h0
    clear heq
    go_wp2_with fail
    go_ret
    exact ⟨λ _=>⟨g,rfl,by rw [<- HE.out]; exact HH.out.row,by rw [<- HE.out]; exact HH.out.ql,by rw [<- HE.out]; exact HH.out.rd⟩,λ h=>by rw [<- HE.out] at h; exact absurd rfl h,HH.out.only⟩
  · rw [if_neg h0] at heq
    by_cases h256 : s = 256
    · rw [if_pos h256] at heq
      have HE:=Lib.hid heq
      subst h256
      clear heq
      go_wp2_with fail
      refine (a9T wr).mono ?_
      rintro e w' ⟨rfl,rfl⟩
      unfold panE
      go_wp2_with fail
      refine ⟨rfl,?_⟩
      exact ⟨(λ h=>by rw [<- HE.out] at h; cases h),(λ _=>by rw [<- HE.out]; rfl),HH.out.only⟩
    · rw [if_neg h256] at heq
      have hsb : ((s : Int) == 256) = false:=beq_eq_false_iff_ne.2 (by omega)
      have hs256 : (s : Int) < 256:=by omega
      have HEQ:=Lib.hid heq
      clear heq
      go_wp2_with fail
      refine (a5h wr).mono ?_
      rintro e w' ⟨rfl,rfl⟩
      go_wp2_with fail
      refine (c5m base p ps at' left wr HH.out.rd HP.out.1 HP.out.2.1 HH.out.at_le (by omega) hl4).mono ?_
      rintro e w1 ⟨t1,t2,t3,t4⟩
      have HO:=Lib.hid t4
      by_cases hT : 8 * ps.length < at' + Lib.bitLen left
      · obtain rfl:=t1 hT
        have HE : Hid ((3,q,0) = H):=by have:=HEQ.out; rw [if_pos hT] at this; exact this
        clear t1 t2 t3 t4
        go_wp2_with fail
        refine (a9U 0 3 w1 (by decide)).mono ?_
        rintro e w' ⟨rfl,rfl⟩
        unfold panE
        go_wp2_with fail
        refine ⟨rfl,?_⟩
        exact ⟨(λ h=>by rw [<- HE.out] at h; cases h),(λ _=>by rw [<- HE.out]; rfl),HH.out.only.trans HO.out⟩
      · have HNT:=Lib.hid hT
        have hT' : at' + Lib.bitLen left <= 8 * ps.length:=by omega
        by_cases hV : left < takeF ps at' (Lib.bitLen left)
        · obtain rfl:=t2 hT' hV
          have HE : Hid ((13,q,0) = H):=by have:=HEQ.out; rw [if_neg hT,if_pos hV] at this; exact this
          clear t1 t2 t3 t4 hT hT' hV
          go_wp2_with fail
          refine (a9U 0 13 w1 (by decide)).mono ?_
          rintro e w' ⟨rfl,rfl⟩
          unfold panE
          go_wp2_with fail
          refine ⟨rfl,?_⟩
          exact ⟨(λ h=>by rw [<- HE.out] at h; cases h),(λ _=>by rw [<- HE.out]; rfl),HH.out.only.trans HO.out⟩
        · obtain ⟨rfl,hrd⟩:=t3 hT' (by omega)
          obtain ⟨V,hVe⟩ : ∃ V,V = takeF ps at' (Lib.bitLen left):=⟨_,rfl⟩
          have hq3:=HEQ.out
          rw [if_neg hT,if_neg hV] at hq3
          rw [<- hVe] at hq3 hV ⊢
          have hVl : V <= left:=by omega
          have HPut:=Lib.hid (HH.out.put hrd HO.out (V : Int))
          obtain ⟨hcl,hfz⟩:=a1G HPut.out.2.2.2 s (by omega)
          have hcl2:=(a1G HPut.out.2.1 s (by omega)).1
          have hqs : (q.set s (V : Int)).getD s 0 = V:=by rw [a5Q _ _ _ _ (by have:=HH.out.ql; omega),if_pos rfl]
          rw [hqs] at hcl2
          have HQ3:=Lib.hid hq3
          have HT2:=Lib.hid hT'
          obtain ⟨at2,hat2⟩ : ∃ a,a = at' + Lib.bitLen left:=⟨_,rfl⟩
          rw [<- hat2] at HPut HQ3 HT2
          clear t1 t2 t3 t4 hT hT' hV hVe hq3 hqs hrd hat2
          by_cases hV0 : V = 0
          · subst hV0
            have hvb : (((0 : Nat) : Int) == 0) = true:=rfl
            cases again with
            | true=>
             have HE : Hid ((13,q,0) = H):=by have:=HQ3.out; rw [if_pos ⟨rfl,rfl⟩] at this; exact this
             go_wp2_with fail
             refine (a5i (0 : Int) w1).mono ?_
             rintro e w' ⟨rfl,rfl⟩
             go_wp2_with fail
             refine (a9T _).mono ?_
             rintro e w' ⟨rfl,rfl⟩
             unfold panE
             go_wp2_with fail
             refine ⟨rfl,?_⟩
             exact ⟨(λ h=>by rw [<- HE.out] at h; cases h),(λ _=>by rw [<- HE.out]; rfl),HPut.out.2.2.1⟩
            | false=>
             by_cases hs1 : s + 1 = 256
             · have HE : Hid ((13,q,0) = H):=by have:=HQ3.out; rw [if_neg (λ h=>by cases h.1),if_pos rfl,if_pos hs1] at this; exact this
               have hsb1 : ((s : Int) + 1 == 256) = true:=by simp; omega
               go_wp2_with fail
               refine (a5i (0 : Int) w1).mono ?_
               rintro e w' ⟨rfl,rfl⟩
               go_wp2_with fail
               refine (a5h _).mono ?_
               rintro e w' ⟨rfl,rfl⟩
               go_wp2_with fail
               refine (a9T _).mono ?_
               rintro e w' ⟨rfl,rfl⟩
               unfold panE
               go_wp2_with fail
               refine ⟨rfl,?_⟩
               exact ⟨(λ h=>by rw [<- HE.out] at h; cases h),(λ _=>by rw [<- HE.out]; rfl),HPut.out.2.2.1⟩
             · have hsb1 : ((s : Int) + 1 == 256) = false:=beq_eq_false_iff_ne.2 (by omega)
               have hq4:=HQ3.out
               rw [if_neg (λ h=>by cases h.1),if_pos rfl,if_neg hs1] at hq4
               have HQ4:=Lib.hid hq4
               have hmost : (254 : Int) - (s : Int) = ((254 - s : Nat) : Int):=by omega
               clear hq4
               go_wp2_with fail
               refine (a5i (0 : Int) w1).mono ?_
               rintro e w' ⟨rfl,rfl⟩
               go_wp2_with fail
               refine (a5h _).mono ?_
               rintro e w' ⟨rfl,rfl⟩
               go_wp2_with fail
               refine (a5h _).mono ?_
               rintro e w' ⟨rfl,rfl⟩
               go_wp2_with fail
               obtain ⟨R,hR⟩ : ∃ R,R = runT ps (8 * ps.length) 100 at2 0 (254 - s):=⟨_,rfl⟩
               have hRle : R.1 = 0 -> R.2.1 <= 254 - s:=λ h=>by rw [hR] at h ⊢; exact c5s _ _ _ _ h
               have hRend : R.1 = 0 -> R.2.2 <= 8 * ps.length:=λ h=>by rw [hR] at h ⊢; exact b5q _ _ _ _ h
               have hrt:=c5n base p ps at2 (254 - s) _ HPut.out.1 HP.out.1 HP.out.2.1 HT2.out (by omega)
               unfold a9R at hrt
               rw [<- hR] at hrt HQ4
               have HRE:=Lib.hid (And.intro hRle hRend)
               clear hR hRle hRend
               refine hrt.mono ?_
               rintro e w2 ⟨r1,r2,r3⟩
               have HO2 : Hid (Only (λ k=>k = p) w w2):=HPut.out.2.2.1.trans r3
               by_cases hr1 : R.1 = 0
               · obtain ⟨rfl,hrd2⟩:=r1 hr1
                 have hle:=HRE.out.1 hr1
                 have hq5:=HQ4.out
                 rw [if_neg (λ h=>h hr1)] at hq5
                 have HNew : Hid (∃ q at' d,HcRel base p g ps H w left (s + R.2.1 + 1) true q at' d w2):=by
                  refine ⟨q.set s 0,R.2.2,d,hrd2,?_,by simp [HH.out.ql],HRE.out.2 hr1,?_,by have:=HH.out.fuel; omega,HO2.out,HH.out.gt⟩
                  · exact a3l rfl HPut.out.2.1 r3 (λ k hk e=>by
                      have : g = k:=by simpa [Value.ownBlock] using hk
                      have:=HH.out.gt
                      omega)
                  · rw [show s + R.2.1 + 1 = s + 1 + R.2.1 by omega]; exact hq5
                 obtain ⟨rn,hrn⟩ : ∃ rn,rn = R.2.1:=⟨_,rfl⟩
                 rw [<- hrn] at hle HNew ⊢
                 clear r1 r2 r3 hrd2 hq5 hrt hrn
                 go_wp2_with fail
                 refine (a5i (rn : Int) w2).mono ?_
                 rintro e w' ⟨rfl,rfl⟩
                 go_wp2_with fail
                 go_roundw
                 case rel=>exact ⟨left,s + rn + 1,true,by first | rfl | (congr 1; omega),rfl,by go_num,hl4,by omega,HNew⟩
                 case measure=>simp [intOf]; omega
               · obtain rfl:=r2 hr1
                 have HE : Hid ((R.1,q,0) = H):=by have:=HQ4.out; rw [if_pos hr1] at this; exact this
                 obtain ⟨rc,hrc⟩ : ∃ rc,rc = R.1:=⟨_,rfl⟩
                 rw [<- hrc] at HE hr1 ⊢
                 clear r1 r2 r3 hrt hrc
                 go_wp2_with fail
                 refine (a9U 0 rc w2 hr1).mono ?_
                 rintro e w' ⟨rfl,rfl⟩
                 unfold panE
                 go_wp2_with fail
                 refine ⟨rfl,?_⟩
                 exact ⟨(λ h=>by rw [<- HE.out] at h; exact absurd h hr1),(λ _=>by rw [<- HE.out]; rfl),HO2.out⟩
          · have hvb : ((V : Int) == 0) = false:=beq_eq_false_iff_ne.2 (by omega)
            have hq4:=HQ3.out
            rw [if_neg (λ h=>hV0 h.2),if_neg hV0] at hq4
            have HNew : Hid (∃ q at' d,HcRel base p g ps H w (left - V) (s + 1) false q at' d (w1.setCell ⟨g,s,none⟩ (.int .i64 (V : Int)))):=
             ⟨q.set s (V : Int),at2,d,HPut.out.1,HPut.out.2.1,by simp [HH.out.ql],HT2.out,hq4,by have:=HH.out.fuel; omega,HPut.out.2.2.1,HH.out.gt⟩
            have hls : (left : Int) - (V : Int) = ((left - V : Nat) : Int):=by omega
            clear hq4
            cases again with
            | true=>
             go_wp2_with fail
             refine (a5i (V : Int) w1).mono ?_
             rintro e w' ⟨rfl,rfl⟩
             go_wp2_with fail
             refine (a5h _).mono ?_
             rintro e w' ⟨rfl,rfl⟩
             go_wp2_with fail
             go_roundw
             case rel=>exact ⟨left - V,s + 1,false,by first | rfl | (congr 1; omega),rfl,by go_num,by omega,by omega,HNew⟩
             case measure=>simp [intOf]; omega
            | false=>
             go_wp2_with fail
             refine (a5i (V : Int) w1).mono ?_
             rintro e w' ⟨rfl,rfl⟩
             go_wp2_with fail
             refine (a5h _).mono ?_
             rintro e w' ⟨rfl,rfl⟩
             go_wp2_with fail
             go_roundw
             case rel=>exact ⟨left - V,s + 1,false,by first | rfl | (congr 1; omega),rfl,by go_num,by omega,by omega,HNew⟩
             case measure=>simp [intOf]; omega
set_option maxRecDepth 100000 in
theorem c5v (a b : Nat) (va : Value) (n x : Int) (older : List PanicEntry) (w : World) (ha : w.cell? ⟨a,0,none⟩ = some va) (hfa : w.frozen? ⟨a,0,none⟩ = false) (hb : w.cell? ⟨b,0,none⟩ = some (.int .i64 x)) (hfb : w.frozen? ⟨b,0,none⟩ = false) (hne : a ≠ b) :
    CallsD Tryz.prog 107 #[.pointer (some ⟨a,0,none⟩),.pointer (some ⟨b,0,none⟩)] (.panicking ({ v:=.iface 27 (.int .i64 n),recovered:=false } :: older)) w λ e u' w'=>
     e = .returned (.tuple #[]) /\ u' = .panicking ({ v:=.iface 27 (.int .i64 n),recovered:=true } :: older) /\ w' = (w.setCell ⟨a,0,none⟩ (.slice none 0 0)).setCell ⟨b,0,none⟩ (.int .i64 n):=by
 have ta : ∀ (v : Value) (w : World),(Instr.typeAssert (.iface 27 v) 20 27 true).run Tryz.prog w = .ok (.tuple #[v,.bool true]) w:=λ v w=>by kernel_rfl
 have hne2 : ¬ b = a:=λ e=>hne e.symm
 refine callsD_of_wpS Tryz.func107 rfl λ c₀ cs hu=>?_
 apply wpS_seq
 apply wpS_region
 simp [wpOpsS,go_sem,recoverD,hu,Tryz.ntmps107,Exit.thenS,ta]
 apply wpS_seq
 apply wpS_region
 simp [wpOpsS,go_sem,Exit.thenS]
 refine wpS_cond (t:=true) (by simp [Act.eval,Array.replicate]) ?_
 simp only [if_true]
 apply wpS_region
 have hb2 : (w.setCell ⟨a,0,none⟩ (.slice none 0 0)).cell? ⟨b,0,none⟩ = some (.int .i64 x):=by
  rw [World.cell?_setCell_other _ _ _ _ (by simp)]; exact hb
 have hfb2 : (w.setCell ⟨a,0,none⟩ (.slice none 0 0)).frozen? ⟨b,0,none⟩ = false:=by simp [hfb,go_sem]
 simp [wpOpsS,go_sem,ha,hfa,hb2,hfb2,bodyPostS,results,Tryz.results107]
set_option maxRecDepth 100000 in
theorem c5w (a b : Nat) (w : World) :
    CallsD Tryz.prog 107 #[.pointer (some ⟨a,0,none⟩),.pointer (some ⟨b,0,none⟩)] .returning w λ e u' w'=>e = .returned (.tuple #[]) /\ u' = .returning /\ w' = w:=by
 have ta : ∀ (w : World),(Instr.typeAssert .nilIface 20 27 true).run Tryz.prog w = .ok (.tuple #[.int .i64 0,.bool false]) w:=λ w=>by kernel_rfl
 refine callsD_of_wpS Tryz.func107 rfl λ c₀ cs hu=>?_
 apply wpS_seq
 apply wpS_region
 simp [wpOpsS,go_sem,recoverD,hu,Tryz.ntmps107,Exit.thenS,ta]
 apply wpS_seq
 apply wpS_region
 simp [wpOpsS,go_sem,Exit.thenS]
 refine wpS_cond (t:=false) (by simp [Act.eval,Array.replicate]) ?_
 simp only [Bool.false_eq_true,if_false]
 refine wpS_of_wp (wp_skip ?_)
 cases c₀
 simp_all [bodyPostS,results,Tryz.results107]
theorem Only.setNew {S : Nat -> Prop} {w w1 : World} (h : Only S w w1) {a : Nat} (ha : w.heap.size <= a) (j : Nat) (u : Value) : Only S w (w1.setCell ⟨a,j,none⟩ u):=
 ⟨h.os,h.tape,h.output,by simp; exact h.size,λ k hk hs=>by rw [Below.heap_setCell _ _ _ _ (by show k ≠ a; omega)]; exact h.block k hk hs⟩
def c5x (base p : Nat) (ps : List Int) (H : Int × List Int × Nat) (w : World) (e : Ending) (w' : World) : Prop:=
 (H.1 = 0 -> ∃ g,e = .returned (.tuple #[.slice (some ⟨g,0,none⟩) 256 256,.int .i64 0]) /\ (Kd.int .i64).R 3 w' w.heap.size (λ _=>True) (.slice (some ⟨g,0,none⟩) 256 256) H.2.1 /\ H.2.1.length = 256 /\ RfAt w' base p ps H.2.2) /\
 (H.1 ≠ 0 -> e = .returned (.tuple #[.slice none 0 0,.int .i64 H.1])) /\ Only (λ k=>k = p) w w'
set_option maxRecDepth 100000 in
set_option maxHeartbeats 1000000 in
theorem b5v (base p r : Nat) (ps : List Int) (at_ : Nat) (w : World) (h : RfAt w base p ps at_) (hps : ∀ x ∈ ps,0 <= x /\ x < 256) (hl : ps.length <= 1000000) (ha : at_ <= 8 * ps.length) (h1 : 1 <= r) (h12 : r <= 12) (hp : p < w.heap.size) :
    Calls Tryz.prog 68 #[.pointer (some ⟨p,0,none⟩),.int .i64 r] w (c5x base p ps (hdrT ps (8 * ps.length) 257 a0z 0 (2 ^ r) false at_) w):=by
 obtain ⟨P,hP⟩ : ∃ P : Nat,P = 2 ^ r:=⟨_,rfl⟩
 rw [<- hP]
 obtain ⟨H,hH⟩ : ∃ H,H = hdrT ps (8 * ps.length) 257 a0z 0 P false at_:=⟨_,rfl⟩
 rw [<- hH]
 have hPI : (2 : Int) ^ r = (P : Int):=by rw [hP]; simp
 have hPb : 1 <= P /\ P <= 4096:=by have:=a1M h12; rw [hPI] at this; omega
 have hw1 : IntKind.i64.wrap (2 ^ r) = (P : Int):=by rw [hPI]; exact i64_in _ (by omega)
 obtain ⟨W,hW⟩ : ∃ W,W = (w.alloc (.cells #[.slice none 0 0] 84)).alloc (.cells #[.int .i64 0] 27):=⟨_,rfl⟩
 have hmf : ∀ (fn : Fn) (first cap : Array Value) (w : World),(Instr.makeFunc fn first cap).run Tryz.prog w = .ok (.func fn first cap) w:=λ _ _ _ _=>rfl
 have hr1 : ¬ (r : Int) < 1:=by omega
 have hr2 : ¬ 12 < (r : Int):=by omega
 have hr0 : (0 : Int) <= r:=by omega
 have HW:=Lib.hid hPI
 have hsz : W.heap.size = w.heap.size + 2:=by rw [hW]; simp
 have hba : W.heap[w.heap.size]? = some (.cells #[.slice none 0 0] 84 (0,0)):=by rw [hW]; exact a0i (a0k _ _) _
 have hbb : W.heap[w.heap.size + 1]? = some (.cells #[.int .i64 0] 27 (0,0)):=by rw [hW]; exact a2h _ _ _
 have hWb : Below w.heap.size w W:=by rw [hW]; exact ((Below.refl _ _).alloc (Nat.le_refl _) _).alloc (by simp) _
 have HCnt:=Lib.hid (c5u base p ps at_ P W (h.below hWb) hps hl ha (by omega) (by omega))
 rw [<- hH] at HCnt
 obtain ⟨a,hae⟩ : ∃ a,a = w.heap.size:=⟨_,rfl⟩
 obtain ⟨b,hbe⟩ : ∃ b,b = w.heap.size + 1:=⟨_,rfl⟩
 rw [<- hae] at hba
 rw [<- hbe] at hbb
 have HA:=Lib.hid (And.intro hae (And.intro hbe (And.intro hsz (And.intro hba (And.intro hbb (And.intro hWb hp))))))
 clear hPI hP hH h hps hl ha hsz hba hbb hWb hp
 go_enter_defers Tryz.func68,Tryz.ntmps68
 go_wp2_with fail
 rw [<- hW,<- hbe,<- hae]
 clear hW hae hbe
 refine HCnt.out.mono ?_
 rintro e w1 ⟨c1,c2,c3⟩
 have hab : p ≠ a /\ p ≠ b /\ a ≠ b /\ a < W.heap.size /\ b < W.heap.size:=by obtain ⟨q1,q2,q3,q4,q5,q6,q7⟩:=HA.out; omega
 have hba1 : w1.heap[a]? = some (.cells #[.slice none 0 0] 84 (0,0)):=by rw [c3.block a hab.2.2.2.1 (λ e=>hab.1 e.symm)]; exact HA.out.2.2.2.1
 have hbb1 : w1.heap[b]? = some (.cells #[.int .i64 0] 27 (0,0)):=by rw [c3.block b hab.2.2.2.2 (λ e=>hab.2.1 e.symm)]; exact HA.out.2.2.2.2.1
 have ca : w1.cell? ⟨a,0,none⟩ = some (.slice none 0 0):=(a0a hba1 0).trans rfl
 have cb : w1.cell? ⟨b,0,none⟩ = some (.int .i64 0):=(a0a hbb1 0).trans rfl
 have fa : w1.frozen? ⟨a,0,none⟩ = false:=a0e hba1 0
 have fb : w1.frozen? ⟨b,0,none⟩ = false:=a0e hbb1 0
 have HC3:=Lib.hid (And.intro c3 hab)
 have hne : ¬ a = b:=hab.2.2.1
 have hne' : ¬ b = a:=λ e=>hab.2.2.1 e.symm
 by_cases h0 : H.1 = 0
 · obtain ⟨g,rfl,d1,d2,d3⟩:=c1 h0
   have HD:=Lib.hid (And.intro d1 (And.intro d2 (And.intro d3 h0)))
   clear c1 c2 c3 d1 d2 d3 hba1 hbb1
   go_wp2_with fail
   refine leaves_cons (f:=107) (args:=#[.pointer (some ⟨a,0,none⟩),.pointer (some ⟨b,0,none⟩)]) (by simp) (by simp [go_sem]) ?_
   refine (c5w a b _).mono ?_
   rintro e u' w'' ⟨rfl,rfl,rfl⟩
   have ca2 : (w1.setCell ⟨a,0,none⟩ (.slice (some ⟨g,0,none⟩) 256 256)).cell? ⟨a,0,none⟩ = some (.slice (some ⟨g,0,none⟩) 256 256):=World.cell?_setCell_same _ _ _ ca
   have cb2 : ((w1.setCell ⟨a,0,none⟩ (.slice (some ⟨g,0,none⟩) 256 256)).setCell ⟨b,0,none⟩ (.int .i64 0)).cell? ⟨b,0,none⟩ = some (.int .i64 0):=World.cell?_setCell_same _ _ _ (by rw [World.cell?_setCell_other _ _ _ _ (by simp)]; exact cb)
   simp [Leaves,settle,results,Tryz.results68,go_sem,ca2,cb2]
   have ho : Only (λ k=>k = p) w w1:=(Only.of_below HA.out.2.2.2.2.2.1).trans HC3.out.1
   refine ⟨λ _=>⟨g,rfl,?_,HD.out.2.1,?_⟩,λ h=>absurd HD.out.2.2.2 h,(ho.setNew (by have:=HA.out.1; omega) 0 _).setNew (by have:=HA.out.2.1; omega) 0 _⟩
   · have hlt:=HC3.out.2
     have h1:=Kd.R_bound HD.out.1
     have h2:=Kd.R_far (p:=⟨b,0,none⟩) (Kd.R_far (p:=⟨a,0,none⟩) h1 (λ k hk=>by show k ≠ a; have:=hk.2.1; omega) (.slice (some ⟨g,0,none⟩) 256 256)) (λ k hk=>by show k ≠ b; have:=hk.2.1; omega) (.int .i64 0)
     exact Kd.R_mono (Kd.R_lower h2 HA.out.2.2.2.2.2.1.size) (λ _ _=>trivial)
   · have h1:=HA.out.1; have h2:=HA.out.2.1; have h3:=HA.out.2.2.2.2.2.2
     exact (HD.out.2.2.1.far (by omega) 0 _).far (by omega) 0 _
 · obtain rfl:=c2 h0
   have HD:=Lib.hid h0
   clear c1 c2 c3 hba1 hbb1
   unfold panE
   go_wp2_with fail
   refine leaves_cons (f:=107) (args:=#[.pointer (some ⟨a,0,none⟩),.pointer (some ⟨b,0,none⟩)]) (by simp) (by simp [go_sem]) ?_
   refine (c5v a b (.slice none 0 0) H.1 0 [] w1 ca fa cb fb hne).mono ?_
   rintro e u' w'' ⟨rfl,rfl,rfl⟩
   have ca2 : (w1.setCell ⟨a,0,none⟩ (.slice none 0 0)).cell? ⟨a,0,none⟩ = some (.slice none 0 0):=World.cell?_setCell_same _ _ _ ca
   have cb2 : ((w1.setCell ⟨a,0,none⟩ (.slice none 0 0)).setCell ⟨b,0,none⟩ (.int .i64 H.1)).cell? ⟨b,0,none⟩ = some (.int .i64 H.1):=World.cell?_setCell_same _ _ _ (by rw [World.cell?_setCell_other _ _ _ _ (by simp)]; exact cb)
   simp [Leaves,settle,results,Tryz.results68,go_sem,ca2,cb2]
   refine ⟨λ h=>absurd h HD.out,λ _=>rfl,?_⟩
   have ho : Only (λ k=>k = p) w w1:=(Only.of_below HA.out.2.2.2.2.2.1).trans HC3.out.1
   exact (ho.setNew (by have:=HA.out.1; omega) 0 _).setNew (by have:=HA.out.2.1; omega) 0 _
end Go.Proofs.YtflfjpkmjnnodaaGreat
namespace Go.Proofs.YtflfjpkmjnnodaaGreat
open Go.RowKit Go.Proofs.YtflfjpkmjnnodaaGreatW.PrintWords HeapL
def a1I (rest : List Int) (s : Nat) : K3:=((s : Int),rest.getD s 0,0)
def candN (rest : List Int) (had : List Bool) (k : Nat) : List K3:=((List.range k).filter (λ s=>!had.getD s false)).map (a1I rest)
def a1t (c q : List Int) (s : Nat) : K3:=((s : Int),q.getD s 0,(1073741824 - c.getD s 0) * 256 + s)
def candT (c q : List Int) (k : Nat) : List K3:=((List.range k).filter (λ s=>decide (0 < c.getD s 0))).map (a1t c q)
theorem b0c (rest : List Int) (had : List Bool) (k : Nat) : candN rest had (k + 1) = if had.getD k false = false then candN rest had k ++ [a1I rest k] else candN rest had k:=by
 unfold candN
 have e : [k].filter (λ s=>!had.getD s false) = if had.getD k false = false then [k] else []:=by
  rw [List.filter_cons,List.filter_nil]; cases had.getD k false <;> rfl
 rw [List.range_succ,List.filter_append,List.map_append,e]
 split
 · rfl
 · rw [List.map_nil,List.append_nil]
theorem b5J (c q : List Int) (k : Nat) : candT c q (k + 1) = if 0 < c.getD k 0 then candT c q k ++ [a1t c q k] else candT c q k:=by
 unfold candT
 rw [List.range_succ,List.filter_append,List.map_append,List.filter_cons,List.filter_nil]
 by_cases h : 0 < c.getD k 0
 · rw [if_pos h,if_pos (decide_eq_true h)]; rfl
 · rw [if_neg h,if_neg (by rw [decide_eq_false h]; decide),List.map_nil,List.append_nil]
theorem b0d (rest : List Int) (had : List Bool) (k : Nat) : (candN rest had k).length <= k:=by
 unfold candN; rw [List.length_map]; exact Nat.le_trans (List.length_filter_le _ _) (by simp)
theorem b0e (c q : List Int) (k : Nat) : (candT c q k).length <= k:=by
 unfold candT; rw [List.length_map]; exact Nat.le_trans (List.length_filter_le _ _) (by simp)
theorem b5K {p : Nat -> Bool} {t : Nat} (ht : t < 256) (hp : p t = true) : ((List.range 256).filter p).Perm (t :: (List.range 256).filter (λ s=>p s && decide (s ≠ t))):=by
 have hm : t ∈ (List.range 256).filter p:=List.mem_filter.2 ⟨List.mem_range.2 ht,hp⟩
 have hn : ((List.range 256).filter p).Nodup:=List.Pairwise.filter _ List.nodup_range
 have e : ((List.range 256).filter p).erase t = (List.range 256).filter (λ s=>p s && decide (s ≠ t)):=by
  rw [hn.erase_eq_filter,List.filter_filter]
  refine List.filter_congr λ s _=>?_
  rw [Bool.and_comm]
  congr 1
  by_cases h : s = t <;> simp [h]
 rw [<- e]
 exact List.perm_cons_erase hm
theorem b5L (rest : List Int) (had : List Bool) : ∀ k s,s < k -> had.getD s false = false -> 0 <= needN rest had k /\ (rest.getD s 0 < rest.getD (needN rest had k).toNat 0 \/ rest.getD s 0 = rest.getD (needN rest had k).toNat 0 /\ needN rest had k <= s)
 | 0,s,h,_=>by omega
 | k + 1,s,h,hs=>by
  have hl:=a5b rest had k
  simp only [needN]
  by_cases e : s = k
  · subst e
    rw [if_neg (by rw [hs]; decide)]
    by_cases h1 : needN rest had s < 0
    · rw [if_pos h1,Int.toNat_natCast]; exact ⟨by omega,.inr ⟨rfl,Int.le_refl _⟩⟩
    · rw [if_neg h1]
      by_cases h2 : rest.getD s 0 > rest.getD (needN rest had s).toNat 0
      · rw [if_pos h2,Int.toNat_natCast]; exact ⟨by omega,.inr ⟨rfl,Int.le_refl _⟩⟩
      · rw [if_neg h2]; exact ⟨by omega,by omega⟩
  · obtain ⟨i1,i2⟩:=b5L rest had k s (by omega) hs
    by_cases h0 : had.getD k false = true
    · rw [if_pos h0]; exact ⟨i1,i2⟩
    · rw [if_neg h0,if_neg (by omega)]
      by_cases h2 : rest.getD k 0 > rest.getD (needN rest had k).toNat 0
      · rw [if_pos h2,Int.toNat_natCast]; exact ⟨by omega,.inl (by omega)⟩
      · rw [if_neg h2]; exact ⟨i1,i2⟩
theorem b5M (q c : List Int) : ∀ k s,s < k -> q.getD s 0 < q.getD (richN q c k) 0 \/ q.getD s 0 = q.getD (richN q c k) 0 /\ (c.getD (richN q c k) 0 < c.getD s 0 \/ c.getD (richN q c k) 0 = c.getD s 0 /\ s <= richN q c k)
 | 0,s,h=>by omega
 | k + 1,s,h=>by
  have hl:=a5c q c k
  by_cases e : s = k
  · subst e
    simp only [richN]
    split
    · exact .inr ⟨rfl,.inr ⟨rfl,Nat.le_refl _⟩⟩
    · omega
  · have ih:=b5M q c k s (by omega)
    simp only [richN]
    split
    · omega
    · exact ih
theorem c5L {rest : List Int} {had : List Bool} {x : K3} (h : x ∈ candN rest had 256) : ∃ s,s < 256 /\ had.getD s false = false /\ x = a1I rest s:=by
 obtain ⟨s,hs,rfl⟩:=List.mem_map.1 h
 obtain ⟨h1,h2⟩:=List.mem_filter.1 hs
 exact ⟨s,List.mem_range.1 h1,by simpa using h2,rfl⟩
theorem b5N {rest : List Int} {had : List Bool} {s : Nat} (h : s < 256) (h2 : had.getD s false = false) : a1I rest s ∈ candN rest had 256:=
 List.mem_map.2 ⟨s,List.mem_filter.2 ⟨List.mem_range.2 h,by show (!had.getD s false) = true; rw [h2]; rfl⟩,rfl⟩
theorem b5O {ys : List K3} {x : K3} (h : x ∈ ys) : ∃ k,k < ys.length /\ ys.getD k z3 = x:=by
 obtain ⟨k,hk,rfl⟩:=List.getElem_of_mem h
 exact ⟨k,hk,by rw [List.getD_eq_getElem?_getD,List.getElem?_eq_getElem hk]; rfl⟩
theorem b5P {ys : List K3} {k : Nat} (h : k < ys.length) : ys.getD k z3 ∈ ys:=by
 rw [List.getD_eq_getElem?_getD,List.getElem?_eq_getElem h]; exact List.getElem_mem _
theorem c5M {rest : List Int} {had : List Bool} {ys : List K3} (hp : ys.Perm (candN rest had 256)) (hh : From lessC z3 ys 0 ys.length) (h0 : 0 < ys.length) :
    ∃ t : Nat,needN rest had 256 = t /\ t < 256 /\ had.getD t false = false /\ ys.getD 0 z3 = a1I rest t:=by
 obtain ⟨s,hs,hsf,e⟩:=c5L (hp.subset (b5P h0))
 obtain ⟨n1,n2⟩:=b5L rest had 256 s hs hsf
 obtain ⟨l1,l2,l3⟩:=a5b rest had 256
 obtain ⟨t,ht⟩ : ∃ t : Nat,needN rest had 256 = t:=⟨_,(Int.toNat_of_nonneg n1).symm⟩
 rw [ht] at n1 n2 l2 l3
 rw [Int.toNat_natCast] at n2 l3
 have hf:=l3 (by omega)
 obtain ⟨k,hk,ek⟩:=b5O (hp.symm.subset (b5N (rest:=rest) (show t < 256 by omega) hf))
 have hr:=From.root ordC hh (Nat.le_refl _) (λ _ _=>trivial) k hk
 rw [ek,e,a7K] at hr
 simp only [a1I,true_and,Int.lt_irrefl,false_or] at hr
 have est : s = t:=by omega
 subst est
 exact ⟨s,ht,hs,hf,e⟩
theorem c5N {rest : List Int} {had : List Bool} {ys zs : List K3} {t : Nat} (hl : had.length = 256) (ht : t < 256) (hf : had.getD t false = false) (hp : ys.Perm (candN rest had 256)) (h : (a1I rest t :: zs).Perm ys) : zs.Perm (candN rest (had.set t true) 256):=by
 have h1:=(b5K (p:=λ s=>!had.getD s false) ht (by show (!had.getD t false) = true; rw [hf]; rfl)).map (a1I rest)
 have h2 : (a1I rest t :: zs).Perm (a1I rest t :: ((List.range 256).filter (λ s=>(!had.getD s false) && decide (s ≠ t))).map (a1I rest)):=(h.trans hp).trans h1
 have h3:=h2.cons_inv
 have e : candN rest (had.set t true) 256 = ((List.range 256).filter (λ s=>(!had.getD s false) && decide (s ≠ t))).map (a1I rest):=by
  unfold candN
  congr 1
  refine List.filter_congr λ s hs=>?_
  rw [List.getD_eq_getElem?_getD,List.getElem?_set]
  by_cases e : t = s
  · subst e; rw [if_pos rfl,if_pos (by omega)]; simp
  · rw [if_neg e,<- List.getD_eq_getElem?_getD]
    have : ¬ s = t:=λ x=>e x.symm
    simp [this]
 rw [e]; exact h3
theorem c5O {c q : List Int} {x : K3} (h : x ∈ candT c q 256) : ∃ s,s < 256 /\ 0 < c.getD s 0 /\ x = a1t c q s:=by
 obtain ⟨s,hs,rfl⟩:=List.mem_map.1 h
 obtain ⟨h1,h2⟩:=List.mem_filter.1 hs
 exact ⟨s,List.mem_range.1 h1,by simpa using h2,rfl⟩
theorem b5Q {c q : List Int} {s : Nat} (h : s < 256) (h2 : 0 < c.getD s 0) : a1t c q s ∈ candT c q 256:=
 List.mem_map.2 ⟨s,List.mem_filter.2 ⟨List.mem_range.2 h,decide_eq_true h2⟩,rfl⟩
theorem c5P {c q : List Int} {ys : List K3} (hi : ∀ s,0 < q.getD s 0 ↔ 0 < c.getD s 0) (hp : ys.Perm (candT c q 256)) (hh : From lessC z3 ys 0 ys.length) (h0 : 0 < ys.length) :
    richN q c 256 < 256 /\ 0 < c.getD (richN q c 256) 0 /\ ys.getD 0 z3 = a1t c q (richN q c 256):=by
 obtain ⟨s,hs,hsf,e⟩:=c5O (hp.subset (b5P h0))
 have n2:=b5M q c 256 s hs
 have l2:=a5c q c 256
 obtain ⟨t,ht⟩ : ∃ t : Nat,t = richN q c 256:=⟨_,rfl⟩
 rw [<- ht] at n2 l2 ⊢
 have hqs:=(hi s).2 hsf
 have hct : 0 < c.getD t 0:=(hi t).1 (by omega)
 obtain ⟨k,hk,ek⟩:=b5O (hp.symm.subset (b5Q (q:=q) (show t < 256 by omega) hct))
 have hr:=From.root ordC hh (Nat.le_refl _) (λ _ _=>trivial) k hk
 rw [ek,e,a7K] at hr
 simp only [a1t] at hr
 have est : s = t:=by omega
 subst est
 exact ⟨hs,hct,e⟩
theorem c5Q {c q : List Int} {ys zs us : List K3} {t : Nat} (hl : q.length = 256) (ht : t < 256) (hf : 0 < c.getD t 0) (hp : ys.Perm (candT c q 256)) (h : (a1t c q t :: zs).Perm ys)
    (hu : us.Perm (((t : Int),q.getD t 0 - 1,(1073741824 - c.getD t 0) * 256 + t) :: zs)) : us.Perm (candT c (q.set t (q.getD t 0 - 1)) 256):=by
 have hpa:=b5K (p:=λ s=>decide (0 < c.getD s 0)) ht (decide_eq_true hf)
 have h2 : (a1t c q t :: zs).Perm (a1t c q t :: ((List.range 256).filter (λ s=>(decide (0 < c.getD s 0)) && decide (s ≠ t))).map (a1t c q)):=(h.trans hp).trans (hpa.map (a1t c q))
 have h3:=h2.cons_inv
 have h4:=hpa.map (a1t c (q.set t (q.getD t 0 - 1)))
 rw [List.map_cons] at h4
 have e1 : a1t c (q.set t (q.getD t 0 - 1)) t = ((t : Int),q.getD t 0 - 1,(1073741824 - c.getD t 0) * 256 + t):=by
  unfold a1t; rw [a3q _ _ _ _ (by omega),if_pos rfl]
 have e2 : ((List.range 256).filter (λ s=>(decide (0 < c.getD s 0)) && decide (s ≠ t))).map (a1t c (q.set t (q.getD t 0 - 1))) = ((List.range 256).filter (λ s=>(decide (0 < c.getD s 0)) && decide (s ≠ t))).map (a1t c q):=by
  refine List.map_congr_left λ s hs=>?_
  have hs2:=(List.mem_filter.1 hs).2
  have : s ≠ t:=by simp at hs2; exact hs2.2
  unfold a1t; rw [a3q _ _ _ _ (by omega),if_neg this]
 rw [e1,e2] at h4
 exact (hu.trans (h3.cons _)).trans h4.symm
open Go.IntWalk
structure GvRel (gq c B : Nat) (w : World) (qs : List Int) (p : Nat) (v : Value) (ys : List K3) (wr : World) : Prop where
 q : (Kd.int .i64).R 3 wr B (λ _=>True) (.slice (some ⟨gq,0,none⟩) 256 c) qs
 h : CKp p B wr v ys
 ne : p ≠ gq /\ v.ownBlock ≠ some gq
 heap : From lessC z3 ys 0 ys.length
 below : Below B w wr
 pB : B <= p
theorem GvRel.start {gq c B : Nat} {w : World} {qs : List Int} {l : Value} {xs : List K3} (hq : (Kd.int .i64).R 3 w B (λ _=>True) (.slice (some ⟨gq,0,none⟩) 256 c) qs)
    (hl : k3.R 253 w B (λ k=>k ≠ gq) l xs) (hB : B <= w.heap.size) :
    CKp w.heap.size B (w.alloc (.cells #[l] 251)) l xs /\ (Kd.int .i64).R 3 (w.alloc (.cells #[l] 251)) B (λ _=>True) (.slice (some ⟨gq,0,none⟩) 256 c) qs /\
     w.heap.size ≠ gq /\ l.ownBlock ≠ some gq /\ Below B w (w.alloc (.cells #[l] 251)):=by
 have h1:=Kd.R_lt hq gq rfl
 refine ⟨⟨a0k _ _,Kd.R_alloc (Kd.R_mono (Kd.R_bound hl) (λ k hk=>by have:=hk.2.2.1; omega)) _⟩,Kd.R_alloc hq _,by omega,λ e=>hl.1 gq e rfl,(Below.refl _ _).alloc hB _⟩
theorem GvRel.of_init {gq c B : Nat} {w w1 w2 : World} {qs : List Int} {p : Nat} {v : Value} {ys : List K3} (hq : (Kd.int .i64).R 3 w1 B (λ _=>True) (.slice (some ⟨gq,0,none⟩) 256 c) qs) (hp : p ≠ gq) (hv : v.ownBlock ≠ some gq) (hb : Below B w w1) (hB : B <= p) (hB1 : B <= w1.heap.size)
    (h : CKp p B w2 v ys) (hh : From lessC z3 ys 0 ys.length) (ho : Only (λ k=>v.ownBlock = some k) w1 w2) : GvRel gq c B w qs p v ys w2:=
 ⟨a3l rfl hq ho (λ k hk e=>hv (by rw [e,<- hk]; rfl)),h,⟨hp,hv⟩,hh,hb.trans (ho.below hB1 (λ k e=>Kd.R_base h.row k e)),hB⟩
theorem GvRel.popped {gq c B g n cap : Nat} {w w1 w2 : World} {qs : List Int} {p : Nat} {ys zs : List K3} (H : GvRel gq c B w qs p (.slice (some ⟨g,0,none⟩) (n + 1) cap) ys w1) (hB1 : B <= w1.heap.size)
    (h : CKp p B w2 (.slice (some ⟨g,0,none⟩) n cap) zs) (hh : From lessC z3 zs 0 n) (ho : Only (λ k=>k = p \/ k = g) w1 w2) : GvRel gq c B w qs p (.slice (some ⟨g,0,none⟩) n cap) zs w2:=by
 have hg : g ≠ gq:=λ e=>H.ne.2 (by rw [e]; rfl)
 have hn:=(Kd.R_reads' h.row).1
 exact ⟨a3l rfl H.q ho (λ k hk e=>by
  have hk' : gq = k:=by simpa [Value.ownBlock] using hk
  subst hk'
  rcases e with e | e
  · exact H.ne.1 e.symm
  · exact hg e.symm),h,⟨H.ne.1,λ e=>hg (by simpa [Value.ownBlock] using e)⟩,by rw [<- hn]; exact hh,
  H.below.trans (ho.below hB1 (λ k e=>by rcases e with e | e; exact e ▸ H.pB; exact e ▸ Kd.R_base h.row g rfl)),H.pB⟩
theorem GvRel.put {gq c B : Nat} {w w1 : World} {qs : List Int} {p : Nat} {v : Value} {ys : List K3} (H : GvRel gq c B w qs p v ys w1) (t : Nat) (y : Int) : GvRel gq c B w (qs.set t y) p v ys (w1.setCell ⟨gq,t,none⟩ (.int .i64 y)):=by
 have ho : Only (λ k=>k = gq) w1 (w1.setCell ⟨gq,t,none⟩ (.int .i64 y)):=(Only.refl _ _).set1 _ _
 have hr:=Kd.R_putn H.q (t : Int) y
 rw [Int.toNat_natCast] at hr
 refine ⟨hr,⟨a1o H.h.blk (p:=⟨gq,t,none⟩) H.ne.1 _,?_⟩,H.ne,H.heap,H.below.setCell (Kd.R_base H.q gq rfl) _,H.pB⟩
 exact Kd.R_mono (Kd.R_step (Kd.R_tight rfl H.h.row) (λ k hk hlt=>ho.block k hlt (λ e=>H.ne.2 (by rw [<- e]; exact hk.symm)))) (λ k hk=>H.h.row.1 k hk.symm)
theorem c5R {rest : List Int} {m : Nat} {st : List Int × List Bool} {t : Nat} (h : needN rest (a0P rest m st).2 256 = t) : a0P rest (m + 1) st = ((a0P rest m st).1.set t ((a0P rest m st).1.getD t 0 + 1),(a0P rest m st).2.set t true):=by
 simp only [a0P]; rw [h,Int.toNat_natCast]
structure GvNum (rest : List Int) (had : List Bool) (ys : List K3) (k : Nat) (st : List Int × List Bool) : Prop where
 ql : st.1.length = 256
 hl : st.2.length = 256
 rng : ∀ s,0 <= st.1.getD s 0 /\ st.1.getD s 0 <= 8192 + k
 free : freeN st.2 + k = freeN had
 perm : ys.Perm (candN rest st.2 256)
theorem GvNum.some {rest : List Int} {had : List Bool} {ys : List K3} {k : Nat} {st : List Int × List Bool} (h : GvNum rest had ys k st) (hk : k < freeN had) : 0 < ys.length:=by
 obtain ⟨s,hs,hf⟩:=a9C h.hl (by have:=h.free; omega)
 exact List.length_pos_of_mem (h.perm.symm.subset (b5N hs hf))
theorem GvNum.next {rest : List Int} {had : List Bool} {ys zs : List K3} {k t : Nat} {st : List Int × List Bool} (h : GvNum rest had ys k st) (ht : t < 256) (hf : st.2.getD t false = false) (hz : (a1I rest t :: zs).Perm ys) : GvNum rest had zs (k + 1) (st.1.set t (st.1.getD t 0 + 1),st.2.set t true):=by
 refine ⟨by simp [h.ql],by simp [h.hl],λ s=>?_,?_,c5N h.hl ht hf h.perm hz⟩
 · show 0 <= (st.1.set t (st.1.getD t 0 + 1)).getD s 0 /\ (st.1.set t (st.1.getD t 0 + 1)).getD s 0 <= 8192 + ((k + 1 : Nat) : Int)
   rw [a3q _ _ _ _ (by rw [h.ql]; exact ht)]
   have h1:=h.rng t; have h2:=h.rng s
   split <;> omega
 · have:=b4P (s:=t) (by rw [h.hl]; exact ht) hf
   have:=h.free
   show freeN (st.2.set t true) + (k + 1) = _
   omega
theorem c5S (a b c : Value) (w : World) : (Instr.field 253 (.agg #[a,b,c]) 0).run Tryz.prog w = .ok a w:=by kernel_rfl
def c5T (gq c B : Nat) (qs' : List Int) (w : World) (e : Ending) (w' : World) : Prop:=e = .returned (.tuple #[]) /\ (Kd.int .i64).R 3 w' B (λ _=>True) (.slice (some ⟨gq,0,none⟩) 256 c) qs' /\ Below B w w'
set_option maxRecDepth 100000 in
set_option maxHeartbeats 1000000 in
theorem c5U (gq c B : Nat) (qs : List Int) (l : Value) (rest : List Int) (had : List Bool) (m : Nat) (w : World) (hq : (Kd.int .i64).R 3 w B (λ _=>True) (.slice (some ⟨gq,0,none⟩) 256 c) qs)
    (hl : k3.R 253 w B (λ k=>k ≠ gq) l (candN rest had 256)) (hB : B <= w.heap.size) (hqs : qs.length = 256) (hhl : had.length = 256) (hr : ∀ s,0 <= qs.getD s 0 /\ qs.getD s 0 <= 8192) (hm : m <= freeN had) (hm2 : m <= 4096) :
    Calls Tryz.prog 235 #[.slice (some ⟨gq,0,none⟩) 256 c,l,.int .i64 m] w (c5T gq c B (a0P rest m (qs,had)).1 w):=by
 have HS:=Lib.hid (GvRel.start hq hl hB)
 have HM:=Lib.hid (And.intro hB (And.intro hqs (And.intro hhl (And.intro hr hm))))
 clear hq hl hB hqs hhl hr hm
 obtain ⟨A,cl,rfl⟩:=Kd.R_slice HS.out.1.row
 have ta:=a9Z
 go_enter Tryz.func235,Tryz.ntmps235
 go_wp2_with fail
 refine (b5I _ HS.out.1 (by have:=b0d rest had 256; omega)).mono ?_
 rintro e w2 ⟨rfl,ys,h1,h2,h3,h4⟩
 have HI : Hid (GvRel gq c B w qs w.heap.size (.slice A (candN rest had 256).length cl) ys w2 /\ GvNum rest had ys 0 (qs,had)):=
  ⟨GvRel.of_init HS.out.2.1 HS.out.2.2.1 HS.out.2.2.2.1 HS.out.2.2.2.2 HM.out.1 (by simp; have:=HM.out.1; omega) h1 h3 h4,⟨HM.out.2.1,HM.out.2.2.1,λ s=>by have:=HM.out.2.2.2.1 s; show 0 <= qs.getD s 0 /\ qs.getD s 0 <= 8192 + ((0 : Nat) : Int); omega,rfl,h2⟩⟩
 clear h1 h2 h3 h4
 go_wp2_with fail
 go_loopw [9] (λ kv wr=>∃ (k : Nat) (v : Value) (ys : List K3),kv = .int .i64 k /\ k <= m /\ Hid (GvRel gq c B w (a0P rest k (qs,had)).1 w.heap.size v ys wr /\ GvNum rest had ys k (a0P rest k (qs,had)))) (λ kv _=>m - (intOf kv).toNat)
 case atStart=>exact ⟨0,_,ys,rfl,by omega,HI⟩
 case round=>
  obtain ⟨k,v,ys,rfl,hk,H⟩:=hrel
  by_cases hlt : k < m
  · have hpos:=H.out.2.some (by have:=HM.out.2.2.2.2; omega)
    obtain ⟨g,cap,rfl,-⟩:=Kd.R_form H.out.1.h.row hpos
    obtain ⟨t,ht1,ht2,ht3,ht4⟩:=c5M H.out.2.perm H.out.1.heap hpos
    obtain ⟨n,hn⟩ : ∃ n,ys.length = n + 1:=⟨ys.length - 1,by omega⟩
    rw [hn] at H
    have hn6 : n <= 100000:=by have:=H.out.2.perm.length_eq; have:=b0d rest (a0P rest k (qs,had)).2 256; omega
    have HT:=Lib.hid (And.intro ht1 (And.intro ht2 (And.intro ht3 (And.intro ht4 hn))))
    have HBr : Hid (B <= wr.heap.size):=Nat.le_trans HM.out.1 H.out.1.below.size
    clear ht1 ht3 ht4 hn hpos
    go_wp2_with fail
    refine (b5H ordC _ H.out.1.h hn6 (λ _ _=>trivial) (by have:=H.out.1.heap; rw [HT.out.2.2.2.2] at this; exact this)).mono ?_
    rintro e w3 ⟨rfl,zs,h1,h2,h3,h4⟩
    have H3 : Hid (GvRel gq c B w (a0P rest k (qs,had)).1 w.heap.size (.slice (some ⟨g,0,none⟩) n cap) zs w3):=GvRel.popped H.out.1 HBr.out h1 h3 h4
    rw [HT.out.2.2.2.1] at h2 ⊢
    have HZ:=Lib.hid (GvNum.next H.out.2 ht2 HT.out.2.2.1 h2)
    clear h1 h2 h3 h4
    obtain ⟨hc3,hf3⟩:=a1G H3.out.q t ht2
    obtain ⟨hy0,hy1⟩:=H.out.2.rng t
    obtain ⟨y,hy⟩ : ∃ y,y = (a0P rest k (qs,had)).1.getD t 0:=⟨_,rfl⟩
    rw [<- hy] at hc3 hy0 hy1
    have HY:=Lib.hid hy
    have ht256 : (t : Int) < 256:=by omega
    clear hy
    simp only [a1I]
    obtain ⟨z,hz⟩ : ∃ z,z = rest.getD t 0:=⟨_,rfl⟩
    rw [<- hz]
    have fd:=c5S (.int .i64 t) (.int .i64 z) (.int .i64 0)
    clear hz
    go_wp2_with fail
    go_roundw
    case rel=>
     have hg:=c5R (st:=(qs,had)) HT.out.1
     refine ⟨k + 1,.slice (some ⟨g,0,none⟩) n cap,zs,by go_num,by omega,?_⟩
     rw [hg,<- HY.out]
     exact ⟨H3.out.put t (y + 1),by rw [HY.out]; exact HZ.out⟩
    case measure=>simp [intOf]; omega
  · have hkm : k = m:=by omega
    subst hkm
    go_wp2_with fail
    go_end0
    exact ⟨rfl,H.out.1.q,H.out.1.below⟩
structure TkRel (gq cq B : Nat) (W0 : World) (qs : List Int) (p : Nat) (v : Value) (ys : List K3) (wr : World) : Prop where
 q : (Kd.int .i64).R 3 wr B (λ _=>True) (.slice (some ⟨gq,0,none⟩) 256 cq) qs
 h : CKp p B wr v ys
 ne : p ≠ gq /\ v.ownBlock ≠ some gq
 below : Below B W0 wr
 pB : B <= p
theorem TkRel.start {gq cq B : Nat} {W0 w : World} {qs : List Int} (hq : (Kd.int .i64).R 3 w B (λ _=>True) (.slice (some ⟨gq,0,none⟩) 256 cq) qs) (hb : Below B W0 w) (hB : B <= w.heap.size) :
    TkRel gq cq B W0 qs w.heap.size (.slice none 0 0) [] (w.alloc (.cells #[.slice none 0 0] 251)):=by
 have h1:=Kd.R_lt hq gq rfl
 exact ⟨Kd.R_alloc hq _,⟨a0k _ _,Kd.R_nil _ _ _ _ _⟩,⟨by omega,by simp [Value.ownBlock]⟩,hb.alloc hB _,hB⟩
theorem TkRel.app {gq cq B : Nat} {W0 W wa : World} {qs : List Int} {p : Nat} {v v1 : Value} {ys zs : List K3} (H : TkRel gq cq B W0 qs p v ys W) (hB : B <= W.heap.size) (hr : k3.R 253 wa B (λ k=>k ≠ p) v1 zs) (hg : W.grownBy wa v.ownBlock)
    (hat : v1.ownBlock = v.ownBlock \/ ∃ b,v1.ownBlock = some b /\ W.heap.size <= b) : TkRel gq cq B W0 qs p v1 zs (wa.setCell ⟨p,0,none⟩ v1):=by
 have hpv : some p ≠ v.ownBlock:=λ e=>H.h.row.1 p e.symm rfl
 have hgl:=Kd.R_lt H.q gq rfl
 have hb1:=a0V H.h.blk hg hpv
 have hne1 : v1.ownBlock ≠ some gq:=λ e=>by
  rcases hat with h | ⟨b,h,hle⟩
  · exact H.ne.2 (by rw [<- h]; exact e)
  · rw [h] at e; injection e with e; omega
 have h1:=Kd.R_grown1 H.q rfl hg H.ne.2
 have ho : Only (λ k=>k = p) wa (wa.setCell ⟨p,0,none⟩ v1):=(Only.refl _ _).set1 _ _
 refine ⟨a3l rfl h1 ho (λ k hk e=>H.ne.1 (by rw [<- e]; simpa [Value.ownBlock] using hk.symm)),⟨a0n hb1 0 _,Kd.R_far (p:=⟨p,0,none⟩) hr (λ k hk=>hk) _⟩,⟨H.ne.1,hne1⟩,?_,H.pB⟩
 exact (b2x H.below hg (λ k hk=>Kd.R_base H.h.row k hk) hB).setCell H.pB _
theorem GvRel.alloc {gq c B : Nat} {w : World} {qs : List Int} {p : Nat} {v : Value} {ys : List K3} {wr : World} (H : GvRel gq c B w qs p v ys wr) (hB : B <= wr.heap.size) (o : Obj) : GvRel gq c B w qs p v ys (wr.alloc o):=
 ⟨Kd.R_alloc H.q o,H.h.below ((Below.refl _ _).alloc (Nat.le_refl _) o),H.ne,H.heap,H.below.alloc hB o,H.pB⟩
theorem GvRel.far {gq c B : Nat} {w : World} {qs : List Int} {p : Nat} {v : Value} {ys : List K3} {wr : World} (H : GvRel gq c B w qs p v ys wr) {g : Nat} (h1 : g ≠ gq) (h2 : p ≠ g) (h3 : v.ownBlock ≠ some g) (hB : B <= g) (j : Nat) (u : Value) : GvRel gq c B w qs p v ys (wr.setCell ⟨g,j,none⟩ u):=by
 have ho : Only (λ k=>k = g) wr (wr.setCell ⟨g,j,none⟩ u):=(Only.refl _ _).set1 _ _
 refine ⟨a3l rfl H.q ho (λ k hk e=>h1 (by rw [<- e]; simpa [Value.ownBlock] using hk.symm)),⟨a1o H.h.blk (p:=⟨g,j,none⟩) h2 _,?_⟩,H.ne,H.heap,H.below.setCell hB _,H.pB⟩
 exact Kd.R_mono (Kd.R_step (Kd.R_tight rfl H.h.row) (λ k hk hlt=>ho.block k hlt (λ e=>h3 (by rw [<- e]; exact hk.symm)))) (λ k hk=>H.h.row.1 k hk.symm)
theorem GvRel.pushed {gq c B : Nat} {w w1 w2 : World} {qs : List Int} {p : Nat} {v v' : Value} {ys zs : List K3} (H : GvRel gq c B w qs p v ys w1) (hB : B <= w1.heap.size) (h : CKp p B w2 v' zs) (hh : From lessC z3 zs 0 zs.length)
    (hat : v'.ownBlock = v.ownBlock \/ ∃ b,v'.ownBlock = some b /\ w1.heap.size <= b) (ho : Only (λ k=>k = p \/ v.ownBlock = some k) w1 w2) : GvRel gq c B w qs p v' zs w2:=by
 have hgl:=Kd.R_lt H.q gq rfl
 refine ⟨a3l rfl H.q ho (λ k hk e=>?_),h,⟨H.ne.1,λ e=>?_⟩,hh,H.below.trans (ho.below hB (λ k e=>?_)),H.pB⟩
 · have hk' : gq = k:=by simpa [Value.ownBlock] using hk
   subst hk'
   rcases e with e | e
   · exact H.ne.1 e.symm
   · exact H.ne.2 e
 · rcases hat with h | ⟨b,h,hle⟩
   · exact H.ne.2 (by rw [<- h]; exact e)
   · rw [h] at e; injection e with e; omega
 · rcases e with e | e
   · exact e ▸ H.pB
   · exact Kd.R_base H.h.row k e
theorem c5V (c : List Int) (m : Nat) (q : List Int) : a0L c (m + 1) q = (a0L c m q).set (richN (a0L c m q) c 256) ((a0L c m q).getD (richN (a0L c m q) c 256) 0 - 1):=rfl
def b0f (c q : List Int) (m : Nat) : Prop:=∀ k,k <= m -> (a0L c k q).length = 256 /\ (∀ s,0 <= (a0L c k q).getD s 0 /\ (a0L c k q).getD s 0 <= 100000) /\ ∀ s,0 < (a0L c k q).getD s 0 ↔ 0 < c.getD s 0
def b5R (gq cq B : Nat) (qs' : List Int) (W0 : World) (e : Ending) (w' : World) : Prop:=e = .returned (.tuple #[]) /\ (Kd.int .i64).R 3 w' B (λ _=>True) (.slice (some ⟨gq,0,none⟩) 256 cq) qs' /\ Below B W0 w'
set_option maxRecDepth 100000 in
set_option maxHeartbeats 2000000 in
theorem c5W (gq cq cc : Nat) (A : Option Addr) (W0 : World) (qs c : List Int) (m : Nat) (w : World) (hq : (Kd.int .i64).R 3 w W0.heap.size (λ _=>True) (.slice (some ⟨gq,0,none⟩) 256 cq) qs)
    (hc : (Kd.int .i64).C W0 A 256 c) (hb : Below W0.heap.size W0 w) (hcl : c.length = 256) (hcr : ∀ s,0 <= c.getD s 0 /\ c.getD s 0 <= 1073741824) (hok : b0f c qs m) (hm2 : m <= 2000000) (hpos : 0 < m -> ∃ s,s < 256 /\ 0 < c.getD s 0) :
    Calls Tryz.prog 236 #[.slice (some ⟨gq,0,none⟩) 256 cq,.slice A 256 cc,.int .i64 m] w (b5R gq cq W0.heap.size (a0L c m qs) W0):=by
 have HQ:=Lib.hid hq
 have HC:=Lib.hid (And.intro hc (And.intro hcl hcr))
 have HO:=Lib.hid hok
 have HP:=Lib.hid hpos
 have HB:=Lib.hid hb
 have HI : Hid (TkRel gq cq W0.heap.size W0 qs w.heap.size (.slice none 0 0) [] (w.alloc (.cells #[.slice none 0 0] 251))):=TkRel.start hq hb hb.size
 clear hq hc hb hcl hcr hok hpos
 go_enter Tryz.func236,Tryz.ntmps236
 go_wp2_with fail
 go_loopw [12] (λ kv wr=>∃ (k : Nat) (v : Value),kv = .int .i64 k /\ k <= 256 /\ Hid (TkRel gq cq W0.heap.size W0 qs w.heap.size v (candT c qs k) wr)) (λ kv _=>256 - (intOf kv).toNat)
 case atStart=>exact ⟨0,_,rfl,by omega,HI⟩
 case round=>
  obtain ⟨k,v,rfl,hk,H⟩:=hrel
  by_cases hlt : k < 256
  · obtain ⟨hqc,-⟩:=a1G H.out.q k hlt
    obtain ⟨y,hy⟩ : ∃ y,y = qs.getD k 0:=⟨_,rfl⟩
    rw [<- hy] at hqc
    have hy2:=(HO.out 0 (Nat.zero_le _)).2.1 k
    have hyc:=(HO.out 0 (Nat.zero_le _)).2.2 k
    simp only [a0L] at hy2 hyc
    rw [<- hy] at hy2 hyc
    obtain ⟨hy0,hy1⟩:=hy2
    have HY:=Lib.hid (And.intro hy hyc)
    clear hy hyc
    by_cases hpos : 0 < y
    · obtain ⟨ad,rfl,hcc⟩:=a0w HC.out.1 k hlt
      obtain ⟨z,hz⟩ : ∃ z,z = c.getD k 0:=⟨_,rfl⟩
      obtain ⟨hz0,hz1⟩:=HC.out.2.2 k
      rw [<- hz] at hcc hz0 hz1
      have hcw:=a0s H.out.below hcc
      have hcw2 : (wr.alloc (.cells #[.int .i64 k,.int .i64 y,.int .i64 (IntKind.i64.wrap (IntKind.i64.wrap (IntKind.i64.wrap (1073741824 - z) * 256) + (k : Int)))] 253)).cell? (ad.add k) = some (.int .i64 z):=a0s ((Below.refl _ _).alloc (Nat.le_refl _) _) hcw
      have HZ:=Lib.hid hz
      have HE : Hid (IntKind.i64.wrap (IntKind.i64.wrap (IntKind.i64.wrap (1073741824 - z) * 256) + (k : Int)) = (1073741824 - z) * 256 + k):=by
       show _ = _
       rw [i64_in (1073741824 - z) (by omega),i64_in ((1073741824 - z) * 256) (by omega),i64_in ((1073741824 - z) * 256 + (k : Int)) (by omega)]
      clear hz hcc
      have hpc:=H.out.h.cell
      have hpf:=a0e H.out.h.blk 0
      have hpl:=a0f H.out.h.blk
      have hpn : ¬ w.heap.size = wr.heap.size:=by omega
      have hpn' : ¬ wr.heap.size = w.heap.size:=by omega
      have hfr : Hid (∀ k,wr.heap.size <= k -> k ≠ w.heap.size):=λ k hk e=>by omega
      have HL : Hid (((candT c qs k).length + 1) * 24 <= 140737488355328):=by show _ <= _; have:=b0e c qs k; omega
      have HN : Hid (some w.heap.size ≠ v.ownBlock):=λ e=>H.out.h.row.1 _ e.symm rfl
      have HBr : Hid (W0.heap.size <= wr.heap.size):=H.out.below.size
      go_wp2_with fail
      go_region_law (first | (refine a5x k3 (w0:=W0) (W:=wr) W0.heap.size rfl (.tmp 19) (.tmp 31) 251 253 _ 24 rfl Tryz.underlying251 a9Y rfl (by decide) (by decide) v (candT c qs k) ((k : Int),y,IntKind.i64.wrap (IntKind.i64.wrap (IntKind.i64.wrap (1073741824 - z) * 256) + (k : Int))) [.int .i64 k,.int .i64 y,.int .i64 (IntKind.i64.wrap (IntKind.i64.wrap (IntKind.i64.wrap (1073741824 - z) * 256) + (k : Int)))] (λ k=>k ≠ w.heap.size) (λ _=>False) rfl rfl (a5B _ _ _ _) (λ _ h=>h.elim) hfr.out H.out.h.row H.out.below HBr.out HL.out ?_; intro v1 w1 hr1 hb1 hg1 hat1; have hb2:=a0V H.out.h.blk hg1 HN.out; have hc2 : w1.cell? ⟨w.heap.size,0,none⟩ = some v:=(a0a hb2 0).trans rfl; have hf2:=a0e hb2 0; have HT:=Lib.hid (TkRel.app H.out HBr.out hr1 hg1 hat1); obtain ⟨A1,c1,rfl⟩:=Kd.R_slice hr1; simp only [List.length_append,List.length_singleton] at HT; clear hr1 hb1 hg1 hat1) | fail)
      all_goals
       go_wp2_with fail
       go_roundw
       case rel=>
        refine ⟨k + 1,.slice A1 ((candT c qs k).length + 1) c1,by go_num,by omega,?_⟩
        rw [b5J,if_pos (HY.out.2.1 hpos)]
        unfold a1t
        rw [<- HY.out.1,<- HZ.out,<- HE.out]
        exact HT.out
       case measure=>simp [intOf]; omega
    · go_wp2_with fail
      go_roundw
      case rel=>
       refine ⟨k + 1,v,by go_num,by omega,?_⟩
       rw [b5J,if_neg (λ h=>hpos (HY.out.2.2 h))]
       exact H.out
      case measure=>simp [intOf]; omega
  · obtain rfl : k = 256:=by omega
    obtain ⟨A1,c1,rfl⟩:=Kd.R_slice H.out.h.row
    have ta:=a9Z
    go_wp2_with fail
    refine (b5I _ H.out.h (by have:=b0e c qs 256; omega)).mono ?_
    rintro e w2 ⟨rfl,ys,h1,h2,h3,h4⟩
    have HI2 : Hid (GvRel gq cq W0.heap.size W0 qs w.heap.size (.slice A1 (candT c qs 256).length c1) ys w2 /\ ys.Perm (candT c qs 256)):=
     ⟨GvRel.of_init H.out.q H.out.ne.1 H.out.ne.2 H.out.below H.out.pB H.out.below.size h1 h3 h4,h2⟩
    clear h1 h2 h3 h4 H
    go_wp2_with fail
    go_loopw [37] (λ kv wr=>∃ (k : Nat) (v : Value) (ys : List K3),kv = .int .i64 k /\ k <= m /\ Hid (GvRel gq cq W0.heap.size W0 (a0L c k qs) w.heap.size v ys wr /\ ys.Perm (candT c (a0L c k qs) 256))) (λ kv _=>m - (intOf kv).toNat)
    case atStart=>exact ⟨0,_,ys,rfl,by omega,HI2⟩
    case round=>
     obtain ⟨k,v,ys,rfl,hk,H⟩:=hrel
     by_cases hlt : k < m
     · obtain ⟨hql,hqr,hqi⟩:=HO.out k hk
       have hpos : 0 < ys.length:=by
        obtain ⟨s,hs,hsp⟩:=HP.out (by omega)
        exact List.length_pos_of_mem (H.out.2.symm.subset (b5Q hs hsp))
       obtain ⟨g,cap,rfl,-⟩:=Kd.R_form H.out.1.h.row hpos
       obtain ⟨t,ht⟩ : ∃ t,t = richN (a0L c k qs) c 256:=⟨_,rfl⟩
       obtain ⟨ht1,ht2,ht3⟩:=c5P hqi H.out.2 H.out.1.heap hpos
       rw [<- ht] at ht1 ht2 ht3
       obtain ⟨n,hn⟩ : ∃ n,ys.length = n + 1:=⟨ys.length - 1,by omega⟩
       rw [hn] at H
       have hn6 : n <= 100000:=by have:=H.out.2.length_eq; have:=b0e c (a0L c k qs) 256; omega
       have HT:=Lib.hid (And.intro ht (And.intro ht1 (And.intro ht2 (And.intro ht3 hn))))
       have HBr : Hid (W0.heap.size <= wr.heap.size):=H.out.1.below.size
       obtain ⟨hy0,hy1⟩:=hqr t
       have HQL:=Lib.hid (And.intro hql hqi)
       have hct:=(HC.out.2.2 t)
       clear ht ht2 ht3 hn hpos hqr hql hqi
       go_wp2_with fail
       refine (b5H ordC _ H.out.1.h hn6 (λ _ _=>trivial) (by have:=H.out.1.heap; rw [HT.out.2.2.2.2] at this; exact this)).mono ?_
       rintro e w3 ⟨rfl,zs,h1,h2,h3,h4⟩
       have H3 : Hid (GvRel gq cq W0.heap.size W0 (a0L c k qs) w.heap.size (.slice (some ⟨g,0,none⟩) n cap) zs w3):=GvRel.popped H.out.1 HBr.out h1 h3 h4
       rw [HT.out.2.2.2.1] at h2 ⊢
       have HZ:=Lib.hid h2
       clear h1 h2 h3 h4
       obtain ⟨hc3,hf3⟩:=a1G H3.out.q t ht1
       obtain ⟨y,hy⟩ : ∃ y,y = (a0L c k qs).getD t 0:=⟨_,rfl⟩
       have HY:=Lib.hid hy
       simp only [a1t]
       rw [<- hy] at hc3 hy0 hy1 ⊢
       obtain ⟨z,hz⟩ : ∃ z,z = (1073741824 - c.getD t 0) * 256 + (t : Int):=⟨_,rfl⟩
       rw [<- hz]
       have HZ2:=Lib.hid hz
       clear hy hz
       have hgl : gq < w3.heap.size:=Kd.R_lt H3.out.q gq rfl
       have hg1 : ¬ gq = w3.heap.size:=by omega
       have hg2 : ¬ w3.heap.size = gq:=by omega
       have ht256 : (t : Int) < 256:=by omega
       go_wp2_with fail
       have H4 : Hid (GvRel gq cq W0.heap.size W0 ((a0L c k qs).set t (y - 1)) w.heap.size (.slice (some ⟨g,0,none⟩) n cap) zs ((w3.setCell ⟨gq,t,none⟩ (.int .i64 (y - 1))).alloc (.cells #[.int .i64 t,.int .i64 (y - 1),.int .i64 z] 253))):=
        (H3.out.put t (y - 1)).alloc (H3.out.put t (y - 1)).below.size _
       have hzl : zs.length = n:=by have:=HZ.out.length_eq; rw [HT.out.2.2.2.2] at this; simpa using this
       refine (c5J ordC ((t : Int),y - 1,z) _ H4.out.h H4.out.below.size (by omega) (λ _ _=>trivial) trivial H4.out.heap).mono ?_
       rintro e w5 ⟨rfl,v',us,h1,h2,h3,h4,h5⟩
       have H5 : Hid (GvRel gq cq W0.heap.size W0 (a0L c (k + 1) qs) w.heap.size v' us w5 /\ us.Perm (candT c (a0L c (k + 1) qs) 256)):=by
        have e:=c5V c k qs
        rw [<- HT.out.1,<- HY.out] at e
        refine ⟨by rw [e]; exact H4.out.pushed H4.out.below.size h1 h3 h4 h5,?_⟩
        rw [e,HY.out]
        refine c5Q HQL.out.1 ht1 HT.out.2.2.1 H.out.2 HZ.out ?_
        rw [<- HY.out,<- HZ2.out]
        exact h2
       clear h1 h2 h3 h4 h5
       go_wp2_with fail
       go_roundw
       case rel=>exact ⟨k + 1,v',us,by go_num,by omega,H5⟩
       case measure=>simp [intOf]; omega
     · have hkm : k = m:=by omega
       subst hkm
       go_wp2_with fail
       go_end0
       exact ⟨rfl,H.out.1.q,H.out.1.below⟩
theorem c5X (gq cq cc : Nat) (A : Option Addr) (W0 : World) (B : Nat) (hB : B = W0.heap.size) (qs c : List Int) (m : Nat) (w : World) (hq : (Kd.int .i64).R 3 w B (λ _=>True) (.slice (some ⟨gq,0,none⟩) 256 cq) qs)
    (hc : (Kd.int .i64).C W0 A 256 c) (hb : Below B W0 w) (hcl : c.length = 256) (hcr : ∀ s,0 <= c.getD s 0 /\ c.getD s 0 <= 1073741824) (hok : b0f c qs m) (hm2 : m <= 2000000) (hpos : 0 < m -> ∃ s,s < 256 /\ 0 < c.getD s 0) :
    Calls Tryz.prog 236 #[.slice (some ⟨gq,0,none⟩) 256 cq,.slice A 256 cc,.int .i64 m] w (b5R gq cq B (a0L c m qs) W0):=by
 subst hB; exact c5W gq cq cc A W0 qs c m w hq hc hb hcl hcr hok hm2 hpos
end Go.Proofs.YtflfjpkmjnnodaaGreat
namespace Go.Proofs.YtflfjpkmjnnodaaGreat
open Go.RowKit Go.IntWalk Go.Proofs.YtflfjpkmjnnodaaGreatW.PrintWords Go.Proofs.YtflfjpkmjnnodaaGreatW.PrintLast Go.Proofs.YtflfjpkmjnnodaaGreatW.PrintMore
set_option maxRecDepth 100000 in
set_option maxHeartbeats 400000 in
theorem a5Z (A : Option Addr) (cp : Nat) (c : List Int) (w : World) (hr : (Kd.int .i64).C w A c.length c) (hR : a0M c = true) :
    Calls Tryz.prog 190 #[.slice A c.length cp] w λ e w'=>e = .returned (.int .i64 (manyC c)) /\ w = w':=by
 have hm:=hr.2.1
 have HR:=Lib.hid (And.intro hr hR)
 clear hr hR
 go_enter Tryz.func190,Tryz.ntmps190
 go_wp2_with fail
 go_loop [3,8] (λ mv kv=>∃ (k pc : Nat),mv = .int .i64 pc /\ kv = .int .i64 k /\ k <= c.length /\ pc <= k /\ Hid (pc = posC c k)) (λ _ kv=>c.length - (intOf kv).toNat)
 case atStart=>exact ⟨0,0,rfl,rfl,by omega,by omega,by show _ = _; simp [posC]⟩
 case round=>
  obtain ⟨k,pc,rfl,rfl,hk,hpc,H⟩:=hrel
  by_cases hlt : k < c.length
  · obtain ⟨ad,rfl,hcell⟩:=a0w HR.out.1 k hlt
    obtain ⟨x,hx⟩ : ∃ x,x = c.getD k 0:=⟨_,rfl⟩
    rw [<- hx] at hcell
    have HX:=Lib.hid hx
    clear hx
    by_cases h0 : 0 < x
    · have HP : Hid (pc + 1 = posC c (k + 1)):=by show _ = _; rw [a9y _ _ hlt,<- HX.out,if_pos h0,<- H.out]
      go_wp2_with fail
      refine (a8I _ _ _ _ HR.out.1).mono ?_
      rintro e w' ⟨rfl,rfl⟩
      rw [HR.out.2]
      go_wp2_with fail
      go_round
      case rel=>exact ⟨k + 1,pc + 1,by go_num,by go_num,by omega,by omega,HP⟩
      case measure=>simp [intOf]; omega
    · have HP : Hid (pc = posC c (k + 1)):=by show _ = _; rw [a9y _ _ hlt,<- HX.out,if_neg h0,<- H.out]; rfl
      go_wp2_with fail
      go_round
      case rel=>exact ⟨k + 1,pc,rfl,by go_num,by omega,by omega,HP⟩
      case measure=>simp [intOf]; omega
  · obtain rfl : k = c.length:=by omega
    have HE : Hid (pc = manyC c):=by
     show _ = _; rw [H.out]; unfold posC manyC; rw [if_pos HR.out.2,List.take_length]
    go_wp2_with fail
    go_ret
    exact ⟨a1D (by rw [HE.out]),rfl⟩
set_option maxRecDepth 100000 in
theorem c5Y (n : Nat) (w : World) (h : n <= 1000000) : Calls Tryz.prog 194 #[.int .i64 n] w λ e w'=>e = .returned (.int .i64 (ceilI n)) /\ w = w':=by
 by_cases h2 : n < 2
 · have HE : Hid (ceilI n = 0):=by
     show _ = _
     have : n = 0 \/ n = 1:=by omega
     rcases this with rfl | rfl <;> rfl
   go_enter Tryz.func194,Tryz.ntmps194
   go_wp2_with fail
   go_ret
   exact ⟨a1D (by rw [HE.out]; rfl),rfl⟩
 · go_enter Tryz.func194,Tryz.ntmps194
   go_wp2_with fail
   refine (a5H _ _ (by omega)).mono ?_
   rintro e w' ⟨rfl,rfl⟩
   go_wp2_with fail
   go_ret
   exact ⟨rfl,rfl⟩
theorem b5S (a b : Int) : mx a b = max a b:=by unfold mx; split <;> omega
theorem c5Z (a b : Int) : mn a b = min a b:=by unfold mn; split <;> omega
set_option maxRecDepth 100000 in
theorem c6a (first x y : Int) (A : Option Addr) (cp : Nat) (w : World) (hr : (Kd.int .i64).C w A 2 [x,y]) :
    Calls Tryz.prog 192 #[.int .i64 first,.slice A 2 cp] w λ e w'=>e = .returned (.int .i64 (mx (mx first x) y)) /\ w = w':=by
 obtain ⟨ad,rfl,hc⟩:=a5C hr (by decide)
 have h0:=hc 0 (by decide)
 have h1:=hc 1 (by decide)
 simp only [List.getD_cons_zero,List.getD_cons_succ] at h0 h1
 rw [show ad.add 0 = ad from rfl] at h0
 clear hc hr
 have h2 : w.cell? ⟨ad.block,ad.off + 1,none⟩ = some (.int .i64 y):=by rw [<- h1]; simp [Addr.add]
 clear h1
 go_enter Tryz.func192,Tryz.ntmps192
 go_wp2_with fail
 go_loop [0,9] (λ mv kv=>(mv = .int .i64 first /\ kv = .int .i64 0) \/ (mv = .int .i64 (max first x) /\ kv = .int .i64 1) \/ (mv = .int .i64 (max (max first x) y) /\ kv = .int .i64 2)) (λ _ kv=>2 - (intOf kv).toNat)
 case atStart=>exact .inl ⟨rfl,rfl⟩
 case round=>
  rcases hrel with ⟨rfl,rfl⟩ | ⟨rfl,rfl⟩ | ⟨rfl,rfl⟩
  · go_wp2_with fail
    go_round
    case rel=>exact .inr (.inl ⟨rfl,rfl⟩)
    case measure=>simp [intOf]
  · go_wp2_with fail
    go_round
    case rel=>exact .inr (.inr ⟨by rw [Int.max_assoc],rfl⟩)
    case measure=>simp [intOf]
  · go_wp2_with fail
    go_ret
    exact ⟨a1D (by rw [b5S,b5S,Int.max_assoc]),rfl⟩
theorem c6b {W : World} (x y : Int) {ok : Nat -> Prop} (hok : ok W.heap.size) (base : Nat) (hb : base <= W.heap.size) : (Kd.int .i64).R 3 (W.alloc (.cells #[.int .i64 x,.int .i64 y] 3)) base ok (.slice (some ⟨W.heap.size,0,none⟩) 2 2) [x,y]:=by
 refine ⟨λ k hk=>by cases hk; exact hok,[.int .i64 x,.int .i64 y],⟨rfl,.inr ⟨W.heap.size,2,#[.int .i64 x,.int .i64 y],by simp,hb,a0k W _,by simp,by unfold maxLen; omega,rfl,rfl⟩⟩,?_⟩
 refine Reps.snoc (ps:=[x]) (cs:=[.int .i64 x]) (p:=y) (c:=[.int .i64 y]) (Reps.snoc (ps:=[]) (cs:=[]) (p:=x) (c:=[.int .i64 x]) (Reps.none _ _) ?_ rfl) ?_ rfl
 · rfl
 · rfl
set_option maxRecDepth 100000 in
theorem b5T (n m : Nat) (most : Int) (w : World) (hn : n <= 1000000) (hm : m <= 1000000) :
    Calls Tryz.prog 143 #[.int .i64 n,.int .i64 m,.int .i64 most] w λ e w'=>e = .returned (.int .i64 (pickI n m most)) /\ Below w.heap.size w w':=by
 have hf:=b4L n (by omega)
 obtain ⟨f,hf1⟩ : ∃ f,f = a0q (n : Int):=⟨_,rfl⟩
 rw [<- hf1] at hf
 have H:=Lib.hid hf1
 clear hf1
 have HC : Hid (∀ W : World,(Kd.int .i64).C (W.alloc (.cells #[.int .i64 5,.int .i64 (ceilI m)] 3)) (some ⟨W.heap.size,0,none⟩) 2 [5,(ceilI m : Int)]):=λ W=>by
  have:=c6b (W:=W) 5 (ceilI m : Int) (ok:=λ _=>True) trivial W.heap.size (Nat.le_refl _)
  exact (Kd.R_reads' this).2.2
 go_enter Tryz.func143,Tryz.ntmps143
 go_wp2_with fail
 refine (a6T _ _ (by omega)).mono ?_
 rintro e w' ⟨rfl,rfl⟩
 rw [<- H.out]
 go_wp2_with fail
 refine (c5Y _ _ hm).mono ?_
 rintro e w' ⟨rfl,rfl⟩
 go_wp2_with fail
 refine (c6a _ _ _ _ _ _ (HC.out _)).mono ?_
 rintro e w' ⟨rfl,rfl⟩
 go_wp2_with fail
 go_ret
 refine ⟨a1D ?_,(Below.refl _ _).alloc (Nat.le_refl _) _⟩
 unfold pickI
 rw [<- H.out,c5Z]
end Go.Proofs.YtflfjpkmjnnodaaGreat
namespace Go.Proofs.YtflfjpkmjnnodaaGreat
open Go.RowKit Go.IntWalk Go.Proofs.YtflfjpkmjnnodaaGreatW.PrintWords HeapL
structure CnRel (N : Nat) (w0 : World) (c : List Int) (P n : Int) (k : Nat) (v : Value) (S : Int) (w : World) : Prop where
 q : (Kd.int .i64).R 3 w N (λ _=>True) (.slice (some ⟨N,0,none⟩) 256 256) (qTo c P n k)
 l : k3.R 253 w N (λ b=>b ≠ N) v (candN (restL c P n) (hadL c P n) k)
 below : Below N w0 w
 sum : S = (qTo c P n k).sum
 rng : 0 <= S /\ S <= 4096 * k
theorem c6c (c : List Int) (P n : Int) {k : Nat} (hk : k < 256) : (hadL c P n).getD k false = decide (c.getD k 0 * P / n = 0):=by
 unfold hadL; rw [List.getD_eq_getElem?_getD,List.getElem?_map,List.getElem?_range hk]; rfl
theorem b5U (c : List Int) (P n : Int) {k : Nat} (hk : k < 256) : qTo c P n (k + 1) = (qTo c P n k).set k (q0F c P n k):=(a7z (q0F c P n) hk).symm
theorem c6d (c : List Int) (P n : Int) {k : Nat} (hk : k < 256) : (qTo c P n k).getD k 0 = 0:=by unfold qTo; rw [a4n _ hk,if_neg (by omega)]
theorem c6e (c : List Int) (P n : Int) {k : Nat} (hk : k < 256) : (qTo c P n (k + 1)).sum = (qTo c P n k).sum + q0F c P n k:=by
 rw [b5U c P n hk,a7w _ _ _ (by unfold qTo; rw [a1x]; exact hk)]
 have : (qTo c P n k).getD k 0 = 0:=by unfold qTo; rw [a4n _ hk,if_neg (by omega)]
 omega
theorem CnRel.next {N : Nat} {w0 wr wr' : World} {c : List Int} {P n : Int} {k : Nat} {v v' : Value} {S y : Int} (H : CnRel N w0 c P n k v S wr) (hk : k < 256) (hq : (Kd.int .i64).R 3 wr' N (λ _=>True) (.slice (some ⟨N,0,none⟩) 256 256) ((qTo c P n k).set k y))
    (hl : k3.R 253 wr' N (λ b=>b ≠ N) v' (candN (restL c P n) (hadL c P n) (k + 1))) (hb : Below N w0 wr') (hy : y = q0F c P n k) (hy2 : 0 <= y /\ y <= 4096) : CnRel N w0 c P n (k + 1) v' (S + y) wr':=by
 have hs:=H.sum; have hr:=H.rng
 refine ⟨by rw [b5U c P n hk,<- hy]; exact hq,hl,hb,by rw [c6e c P n hk,<- hy,hs],by omega,by omega⟩
theorem CnRel.far {N : Nat} {w0 wr : World} {c : List Int} {P n : Int} {k : Nat} {v : Value} {S : Int} (H : CnRel N w0 c P n k v S wr) (j : Nat) (y : Int) :
    (Kd.int .i64).R 3 (wr.setCell ⟨N,j,none⟩ (.int .i64 y)) N (λ _=>True) (.slice (some ⟨N,0,none⟩) 256 256) ((qTo c P n k).set j y) /\ k3.R 253 (wr.setCell ⟨N,j,none⟩ (.int .i64 y)) N (λ b=>b ≠ N) v (candN (restL c P n) (hadL c P n) k) /\ Below N w0 (wr.setCell ⟨N,j,none⟩ (.int .i64 y)):=by
 have:=Kd.R_putn H.q (j : Int) y
 rw [Int.toNat_natCast] at this
 exact ⟨this,Kd.R_far (p:=⟨N,j,none⟩) H.l (λ k hk=>hk) _,H.below.setCell (Nat.le_refl _) _⟩
theorem b5V : ∀ {l : List Int},(∀ x ∈ l,x = 0) -> l.sum = 0
 | [],_=>rfl
 | a :: l,h=>by rw [List.sum_cons,h a (by simp),b5V (λ x hx=>h x (by simp [hx]))]; rfl
theorem c6f {c : List Int} {r : Nat} (h : Can c r) : ∃ s,s < 256 /\ 0 < c.getD s 0:=by
 refine Classical.byContradiction λ hn=>?_
 have : c.sum = 0:=b5V (λ x hx=>by
  obtain ⟨s,hs,rfl⟩:=List.getElem_of_mem hx
  have h1:=h.nonneg _ hx
  have h2 : ¬ 0 < c.getD s 0:=λ hp=>hn ⟨s,by have:=h.len; omega,hp⟩
  rw [List.getD_eq_getElem?_getD,List.getElem?_eq_getElem hs] at h2
  simp only [Option.getD_some] at h2
  omega)
 have:=h.pos
 omega
set_option maxRecDepth 100000 in
set_option maxHeartbeats 2000000 in
theorem b5W (A : Option Addr) (cp : Nat) (c : List Int) (r : Nat) (w : World) (hr : (Kd.int .i64).C w A 256 c) (h : Can c r) :
    Calls Tryz.prog 191 #[.slice A 256 cp,.int .i64 r] w (a9I c r w):=by
 have HR:=Lib.hid hr
 have HC:=Lib.hid h
 have hR : a0M c = true:=rightC_iff.2 ⟨h.len,h.nonneg,h.le⟩
 have hT : a1b c = c.sum:=by unfold a1b; rw [if_pos hR]
 have hM : manyC c <= 2 ^ r:=by unfold manyC; rw [if_pos hR]; exact h.many
 obtain ⟨n,hn⟩ : ∃ n : Nat,c.sum = n:=⟨c.sum.toNat,by have:=h.pos; omega⟩
 have hr' : (Kd.int .i64).C w A c.length c:=by rw [h.len]; exact hr
 have HTot:=Lib.hid (b2L A cp c w hr')
 rw [hT,hn,h.len] at HTot
 obtain ⟨P,hP⟩ : ∃ P : Nat,2 ^ r = P:=⟨_,rfl⟩
 have hPI : (2 : Int) ^ r = (P : Int):=by rw [<- hP]; simp
 have hPb : 1 <= P /\ P <= 4096:=by have:=a1M h.r12; rw [hPI] at this; omega
 have HM2 : Hid (∀ W,Below w.heap.size w W -> Calls Tryz.prog 190 #[.slice A 256 cp] W λ e w'=>e = .returned (.int .i64 (manyC c)) /\ W = w'):=λ W hb=>by
  have:=a5Z A cp c W (Kd.C_below hr' hb) hR
  rw [h.len] at this; exact this
 have HN : Hid (c.sum = n /\ 2 ^ r = P /\ (2 : Int) ^ r = (P : Int) /\ manyC c <= P):=⟨hn,hP,hPI,by omega⟩
 have hn0 : ((n : Int) == 0) = false:=by have:=h.pos; simp; omega
 have hn1 : 1 <= n /\ n <= 1073741824:=by have:=h.pos; have:=h.le; omega
 have hr1 : decide ((r : Int) < 1) = false:=decide_eq_false (by have:=h.r1; omega)
 have hr2 : decide (12 < (r : Int)) = false:=decide_eq_false (by have:=h.r12; omega)
 have hr0 : (0 : Int) <= r:=by omega
 have hr12 : (r : Int) <= 12:=by have:=h.r12; omega
 have hw1 : IntKind.i64.wrap (2 ^ r) = (P : Int):=by rw [hPI]; exact i64_in _ (by omega)
 have hmp : decide (P < manyC c) = false:=decide_eq_false (by have:=HN.out.2.2.2; omega)
 clear hr hr' h hR hT hM hn hP hPI
 have hmi : ∀ w : World,(Instr.makeSlice 84 (.int .i64 256) (.int .i64 256)).run Tryz.prog w = .ok (.slice (some ⟨w.heap.size,0,none⟩) 256 256) (w.alloc (.cells (madeCells #[.int .i64 0] 256) 3)):=λ w=>a9E 256 (by omega) w
 go_enter Tryz.func191,Tryz.ntmps191
 go_wp2_with fail
 refine HTot.out.mono ?_
 rintro e w1 ⟨rfl,rfl⟩
 go_wp2_with fail
 go_quiet ((go_at_call 190; refine Calls.quiet_of_same ((HM2.out _ (a0b (Below.refl _ _) _)).mono λ e w' h=>⟨h.1,h.2.symm⟩)))
 have HB0 : Hid (Below w.heap.size w (w.drewN nq)):=a0b (Below.refl _ _) _
 obtain ⟨w1,hw1'⟩ : ∃ w1,w1 = w.drewN nq:=⟨_,rfl⟩
 rw [<- hw1'] at HB0 ⊢
 clear hw1'
 obtain ⟨N,hNs⟩ : ∃ N,N = w1.heap.size:=⟨_,rfl⟩
 have HNs:=Lib.hid hNs
 have HI : Hid (CnRel N w1 c P n 0 (.slice none 0 0) 0 (w1.alloc (.cells (madeCells #[.int .i64 0] 256) 3))):=by
  refine ⟨?_,?_,?_,?_,by omega⟩
  · rw [(a9G c P n).1,hNs]; exact a9S 256 3 w1 _ trivial _ (Nat.le_refl _) (by omega)
  · exact Kd.R_nil _ _ _ _ _
  · rw [hNs]; exact (Below.refl _ _).alloc (Nat.le_refl _) _
  · rw [(a9G c P n).1]; decide
 go_wp2_with fail
 rw [<- hNs]
 obtain ⟨W,hW⟩ : ∃ W,W = w1.alloc (.cells (madeCells #[.int .i64 0] 256) 3):=⟨_,rfl⟩
 rw [<- hW] at HI ⊢
 clear hW hNs hmi hmp
 go_loopw [8,9,34] (λ lv sv kv wr=>∃ (k : Nat) (S : Int),sv = .int .i64 S /\ kv = .int .i64 k /\ k <= 256 /\ 0 <= S /\ S <= 4096 * k /\ Hid (CnRel N w1 c P n k lv S wr)) (λ _ _ kv _=>256 - (intOf kv).toNat)
 case atStart=>exact ⟨0,0,rfl,rfl,by omega,by omega,by omega,HI⟩
 case round=>
  obtain ⟨k,S,rfl,rfl,hk,hS0,hS1,H⟩:=hrel
  by_cases hlt : k < 256
  · have hC:=Kd.C_below HR.out (HB0.out.trans (H.out.below.mono (by have:=HB0.out.size; have:=HNs.out; omega)))
    obtain ⟨ad,rfl,hcx⟩:=a0w hC k (by omega)
    have hcg:=HC.out.get k
    have hq0:=HC.out.q0 k
    rw [HN.out.2.2.1,HN.out.1] at hq0
    obtain ⟨x,hx⟩ : ∃ x : Nat,c.getD k 0 = x:=⟨(c.getD k 0).toNat,by omega⟩
    rw [hx] at hcx hcg
    obtain ⟨hq1,hq2⟩:=a1G H.out.q k hlt
    rw [c6d c P n hlt] at hq1
    obtain ⟨m,hm⟩ : ∃ m : Nat,m = x * P:=⟨_,rfl⟩
    have hxn : x <= n:=by have:=HN.out.1; omega
    have hm42 : m <= 4398046511104:=by
     rw [hm]
     calc x * P <= 1073741824 * 4096:=Nat.mul_le_mul (by omega) (by omega)
      _ = 4398046511104:=by decide
    have hmI : (x : Int) * (P : Int) = (m : Int):=by rw [hm]; simp
    have hmR : (x : Int) * 2 ^ r = (m : Int):=by rw [HN.out.2.2.1]; exact hmI
    have hdq : (m : Int) / (n : Int) = ((m / n : Nat) : Int):=by simp
    have hrm : (m : Int) % (n : Int) = ((m % n : Nat) : Int):=by simp
    obtain ⟨dq,hdqe⟩ : ∃ dq,dq = m / n:=⟨_,rfl⟩
    obtain ⟨rm,hrme⟩ : ∃ rm,rm = m % n:=⟨_,rfl⟩
    rw [<- hdqe] at hdq
    rw [<- hrme] at hrm
    have hdb : dq <= 4398046511104:=by rw [hdqe]; exact Nat.le_trans (Nat.div_le_self _ _) hm42
    have hn00 : ¬ (n : Int) = 0:=by omega
    have HX:=Lib.hid (And.intro hx (And.intro hm (And.intro hdqe (And.intro hrme hq0))))
    have hwm : IntKind.i64.wrap ((x : Int) * 2 ^ r) = (m : Int):=by rw [hmR]; exact i64_in _ (by omega)
    clear hx hm hdqe hrme hC hmR hq0
    obtain ⟨A1,c1,rfl⟩:=Kd.R_slice H.out.l
    have HL0:=Lib.hid (H.out.far k (dq : Int))
    have HQF : Hid (q0F c P n k = if dq = 0 then min (x : Int) 1 else dq):=by
     show _ = _
     unfold q0F
     rw [HX.out.1,hmI,hdq]
     by_cases e : dq = 0
     · rw [if_pos e,if_pos (by omega)]
     · rw [if_neg e,if_neg (by omega)]
    have HHD : Hid ((hadL c P n).getD k false = decide (dq = 0)):=by
     show _ = _
     rw [c6c c P n hlt,HX.out.1,hmI,hdq]
     by_cases e : dq = 0
     · rw [decide_eq_true (by omega),decide_eq_true e]
     · rw [decide_eq_false (by omega),decide_eq_false e]
    by_cases hz : 0 < dq
    · have hdq4 : dq <= 4096:=by
        have:=HX.out.2.2.2.2.2.1
        rw [HQF.out,if_neg (by omega)] at this; omega
      have HSz : Hid (N <= (wr.setCell ⟨N,k,none⟩ (.int .i64 (dq : Int))).heap.size):=by show _ <= _; have:=Kd.R_lt HL0.out.1 N rfl; omega
      have HLn : Hid (((candN (restL c P n) (hadL c P n) k).length + 1) * 24 <= 140737488355328):=by show _ <= _; have:=b0d (restL c P n) (hadL c P n) k; omega
      have HFr : Hid (∀ j,(wr.setCell ⟨N,k,none⟩ (.int .i64 (dq : Int))).heap.size <= j -> j ≠ N):=λ j hj e=>by have:=Kd.R_lt HL0.out.1 N rfl; omega
      have HNe : Hid ((Value.slice A1 (candN (restL c P n) (hadL c P n) k).length c1).ownBlock ≠ some N):=λ e=>HL0.out.2.1.1 N e rfl
      have hqg : ((qTo c P n k).set k (dq : Int)).getD k 0 = (dq : Int):=by rw [a3q _ _ _ _ (by unfold qTo; rw [a1x]; omega),if_pos rfl]
      obtain ⟨L,hL⟩ : ∃ L,L = candN (restL c P n) (hadL c P n) k:=⟨_,rfl⟩
      obtain ⟨Q,hQ⟩ : ∃ Q,Q = (qTo c P n k).set k (dq : Int):=⟨_,rfl⟩
      rw [<- hL] at HLn HNe
      have HL1 : Hid (k3.R 253 (wr.setCell ⟨N,k,none⟩ (.int .i64 (dq : Int))) N (λ b=>b ≠ N) (.slice A1 L.length c1) L):=by rw [hL]; exact HL0.out.2.1
      have HQ1 : Hid ((Kd.int .i64).R 3 (wr.setCell ⟨N,k,none⟩ (.int .i64 (dq : Int))) N (λ _=>True) (.slice (some ⟨N,0,none⟩) 256 256) Q):=by rw [hQ]; exact HL0.out.1
      rw [<- hQ] at hqg
      have HQG:=Lib.hid (And.intro hqg (And.intro hL hQ))
      have HB1:=Lib.hid HL0.out.2.2
      have HH:=Lib.hid H.out
      rw [<- hL]
      clear hqg hL hQ HL0 H
      go_wp2_with (at_builtin; refine Kd.R_append k3 (w0:=w1) (W:=wr.setCell ⟨N,k,none⟩ (.int .i64 (dq : Int))) N rfl (.tmp 53) (.tmp 61) 251 253 _ 24 rfl Tryz.underlying251 a9Y rfl (by decide) (by decide) (.slice A1 L.length c1) L ((k : Int),(rm : Int),0) [.int .i64 k,.int .i64 rm,.int .i64 0] (λ b=>b ≠ N) (λ _=>False) rfl (by simp [go_sem]) (a5B _ _ _ _) (λ _ h=>h.elim) HFr.out HL1.out HB1.out HSz.out HLn.out ?_; intro v2 w2 hr2 hb2 hg2 hat2; have HQ2:=Lib.hid (Kd.R_grown1 HQ1.out rfl hg2 HNe.out); have hq5:=(a1G HQ2.out k hlt).1; rw [HQG.out.1] at hq5; have HR2:=Lib.hid hr2; have HB2:=Lib.hid hb2; clear hr2 hb2 hg2 hat2)
      go_roundw
      case rel=>
       refine ⟨k + 1,S + dq,rfl,by go_num,by omega,by omega,by omega,?_⟩
       have hq2:=HQ2.out
       rw [HQG.out.2.2] at hq2
       refine HH.out.next hlt hq2 ?_ HB2.out (by rw [HQF.out,if_neg (by omega)]) (by omega)
       rw [b0c,if_pos (by rw [HHD.out]; exact decide_eq_false (by omega))]
       have e : a1I (restL c P n) k = ((k : Int),(rm : Int),0):=by
        unfold a1I restL
        rw [a4n _ hlt,HX.out.1,hmI,hrm]
       rw [e,<- HQG.out.2.1]; exact HR2.out
      case measure=>simp [intOf]; omega
    · have hz0 : dq = 0:=by omega
      subst hz0
      by_cases hx0 : 0 < x
      · go_wp2_with fail
        go_roundw
        case rel=>
         refine ⟨k + 1,S + 1,by go_num,by go_num,by omega,by omega,by omega,?_⟩
         have hqq:=Kd.R_putn HL0.out.1 (k : Int) (1 : Int)
         rw [Int.toNat_natCast,b4U] at hqq
         refine H.out.next hlt hqq ?_ (HL0.out.2.2.setCell (Nat.le_refl _) _) (by rw [HQF.out,if_pos rfl]; omega) (by omega)
         rw [b0c,if_neg (by rw [HHD.out]; simp)]
         exact Kd.R_far (p:=⟨N,k,none⟩) HL0.out.2.1 (λ k hk=>hk) _
        case measure=>simp [intOf]; omega
      · go_wp2_with fail
        go_roundw
        case rel=>
         refine ⟨k + 1,S + 0,by go_num,by go_num,by omega,by omega,by omega,?_⟩
         refine H.out.next hlt HL0.out.1 ?_ HL0.out.2.2 (by rw [HQF.out,if_pos rfl]; omega) (by omega)
         rw [b0c,if_neg (by rw [HHD.out]; simp)]
         exact HL0.out.2.1
        case measure=>simp [intOf]; omega
  · obtain rfl : k = 256:=by omega
    obtain ⟨A1,c1,rfl⟩:=Kd.R_slice H.out.l
    have HQ0 : Hid ((Kd.int .i64).R 3 wr N (λ _=>True) (.slice (some ⟨N,0,none⟩) 256 256) (q0L c P n)):=by rw [<- (a9H c P n).1]; exact H.out.q
    have HS : Hid (S = (q0L c P n).sum):=by rw [<- (a9H c P n).1]; exact H.out.sum
    have HPP : Hid ((P : Int) = 2 ^ r /\ (n : Int) = c.sum):=⟨HN.out.2.2.1.symm,HN.out.1.symm⟩
    have HB1:=Lib.hid H.out.below
    have HL1:=Lib.hid H.out.l
    obtain ⟨M,hM⟩ : ∃ M : Nat,M = giveM c (2 ^ r) c.sum:=⟨_,rfl⟩
    have hMv : max (0 : Int) ((P : Int) - S) = (M : Int):=by
     rw [hM]; unfold giveM; rw [<- HPP.out.1,<- HPP.out.2,<- HS.out]; omega
    have hM4 : M <= 4096:=by omega
    obtain ⟨T,hT⟩ : ∃ T : Nat,T = (S - P).toNat:=⟨_,rfl⟩
    have hTv : max (0 : Int) (S - (P : Int)) = (T : Int):=by rw [hT]; omega
    have HMT:=Lib.hid (And.intro hM hT)
    have hTb : T <= 2000000:=by omega
    obtain ⟨L,hL⟩ : ∃ L,L = candN (restL c P n) (hadL c P n) 256:=⟨_,rfl⟩
    rw [<- hL]
    have HLE:=Lib.hid hL
    clear hM hT hL H
    go_wp2_with fail
    have hgw0:=a5d HC.out 0 (Nat.zero_le _)
    have hen:=HC.out.enough
    rw [<- HPP.out.1,<- HPP.out.2] at hgw0 hen
    refine (c5U N 256 N (q0L c P n) (.slice A1 L.length c1) (restL c P n) (hadL c P n) M wr HQ0.out (by rw [HLE.out]; exact HL1.out) (by have:=Kd.R_lt HQ0.out N rfl; omega) (a1x _) (by simp [hadL])
     (λ s=>⟨(hgw0.2.2.1 s).1,by have:=(hgw0.2.2.1 s).2; simp only [a0P] at this; omega⟩) (by rw [<- HS.out] at hen; omega) hM4).mono ?_
    clear hgw0 hen
    rintro e w3 ⟨rfl,hq3,hb3⟩
    obtain ⟨G,hG⟩ : ∃ G,G = (a0P (restL c P n) M (q0L c P n,hadL c P n)).1:=⟨_,rfl⟩
    rw [<- hG] at hq3
    have H3:=Lib.hid (And.intro hq3 (And.intro hb3 hG))
    clear hq3 hb3 hG hMv
    go_wp2_with fail
    have hge:=a9D HC.out
    have hgw:=(a5d HC.out M (by rw [<- HMT.out.1]; exact Nat.le_refl _)).2.2.2.2.1
    rw [<- HMT.out.1,<- HPP.out.1,<- HPP.out.2,<- H3.out.2.2] at hge
    rw [<- HPP.out.1,<- HPP.out.2,<- H3.out.2.2,<- HS.out] at hgw
    have hTe : (G.sum - 2 ^ r).toNat = T:=by
     rw [<- HPP.out.1,hgw]
     have h1 : M = ((P : Int) - S).toNat:=by
      have:=HMT.out.1; unfold giveM at this; rw [<- HPP.out.1,<- HPP.out.2,<- HS.out] at this; exact this
     have h2:=HMT.out.2
     omega
    have HT2 : Hid (b0f c G T):=λ k hk=>by
     have:=(a7x HC.out hge.1 k (by rw [hTe]; exact hk)).1
     exact ⟨this.len,this.rng,this.iff⟩
    have HNL : Hid (a0L c T G = normL c r):=by
     show _ = _
     unfold normL
     simp only []
     rw [<- HMT.out.1,<- HPP.out.1,<- HPP.out.2,<- H3.out.2.2,HPP.out.1,hTe]
    have HB3 : Hid (Below N w1 w3):=HB1.out.trans H3.out.2.1
    have hcs:=HC.out.le
    clear hge hgw
    refine (c5X N 256 cp A w1 N HNs.out G c T w3 H3.out.1 (Kd.C_below HR.out HB0.out) HB3.out HC.out.len (λ s=>⟨(HC.out.get s).1,by have:=(HC.out.get s).2; omega⟩) HT2.out hTb (λ _=>c6f HC.out)).mono ?_
    rintro e w4 ⟨rfl,hq4,hb4⟩
    have H4:=Lib.hid (And.intro hq4 hb4)
    clear hq4 hb4 hTe
    go_wp2_with fail
    go_ret2
    have hNl : w.heap.size <= N:=by rw [HNs.out]; exact HB0.out.size
    refine ⟨_,rfl,?_,HB0.out.trans (H4.out.2.mono hNl)⟩
    rw [<- HNL.out]
    exact Kd.R_lower H4.out.1 hNl
end Go.Proofs.YtflfjpkmjnnodaaGreat
namespace Go.Proofs.YtflfjpkmjnnodaaGreat
open Go.RowKit Go.IntWalk Go.Proofs.YtflfjpkmjnnodaaGreatW.PrintWords
set_option maxRecDepth 100000 in
theorem c6g (i : Int) (p : Nat) (v : Value) (w : World) (h : w.cell? ⟨p,0,none⟩ = some v) :
    Calls Tryz.prog 223 #[.int .i64 i,.pointer (some ⟨p,0,none⟩)] w λ e w'=>e = .returned v /\ w = w':=by
 go_enter Tryz.func223,Tryz.ntmps223
 go_wp2_with fail
 go_ret
 exact ⟨rfl,rfl⟩
set_option maxRecDepth 100000 in
set_option maxHeartbeats 2000000 in
theorem c6h (p ch r : Nat) (Ah : Option Addr) (h : List Int) (w : World) (hp : w.heap[p]? = some (.cells #[.slice Ah 256 ch] 84 (0,0))) (hv : (Kd.int .i64).C w Ah 256 h) (hc : Can h r) (hm : 0 < manyC h) :
    Calls Tryz.prog 142 #[.int .i64 r,.int .i64 1,.func (Fn.func 223) #[] #[.pointer (some ⟨p,0,none⟩)]] w (MadeM r true [normL h r] w):=by
 obtain ⟨W2,hW2⟩ : ∃ W2,W2 = (w.alloc (.cells #[.int .i64 0,.bool false,.slice none 0 0] 26)).alloc (.cells #[.int .i64 r,.bool true,.slice none 0 0] 26):=⟨_,rfl⟩
 have hb2 : Below w.heap.size w W2:=by rw [hW2]; exact ((Below.refl w.heap.size w).alloc (Nat.le_refl _) _).alloc (by simp) _
 have hs2 : W2.heap.size = w.heap.size + 2:=by rw [hW2]; simp
 have hm1 : W2.heap[w.heap.size + 1]? = some (.cells #[.int .i64 r,.bool true,.slice none 0 0] 26 (0,0)):=by rw [hW2]; exact a2h _ _ _
 have hm0 : W2.heap[w.heap.size]? = some (.cells #[.int .i64 0,.bool false,.slice none 0 0] 26 (0,0)):=by rw [hW2]; exact a0i (a0k _ _) _
 have HP2:=Lib.hid (a0g hp hb2)
 have HV2:=Lib.hid (Kd.C_below hv hb2)
 have H2:=Lib.hid (And.intro hb2 (And.intro hs2 (And.intro hm1 hm0)))
 have HC:=Lib.hid (And.intro hc hm)
 clear hp hv hb2 hs2 hm1 hm0 hc hm
 go_enter Tryz.func142,Tryz.ntmps142
 go_wp2_with fail
 rw [<- hW2]
 clear hW2
 obtain ⟨m0,hm0⟩ : ∃ m0,m0 = w.heap.size:=⟨_,rfl⟩
 have HM0:=Lib.hid hm0
 rw [<- hm0] at H2 ⊢
 clear hm0
 obtain ⟨m1,hm1⟩ : ∃ m1,m1 = m0 + 1:=⟨_,rfl⟩
 have HM1:=Lib.hid hm1
 rw [<- hm1] at H2 ⊢
 clear hm1
 go_loopw [16] (λ kv wr=>(kv = .int .i64 0 /\ wr = W2) \/ (kv = .int .i64 1 /\ Hid (∃ A1 c1,wr.heap[m1]? = some (.cells #[.int .i64 r,.bool true,.slice A1 1 c1] 26 (0,0)) /\ wr.heap[m0]? = some (.cells #[.int .i64 0,.bool false,.slice none 0 0] 26 (0,0)) /\ kq.R 84 wr W2.heap.size (λ _=>True) (.slice A1 1 c1) [normL h r] /\ Below m0 w wr))) (λ kv _=>1 - (intOf kv).toNat)
 case atStart=>exact .inl ⟨rfl,rfl⟩
 case round=>
  rcases hrel with ⟨rfl,rfl⟩ | ⟨rfl,H⟩
  · have hpc : wr.cell? ⟨p,0,none⟩ = some (.slice Ah 256 ch):=(a0a HP2.out 0).trans rfl
    go_wp2_with fail
    refine (c6g 0 p (.slice Ah 256 ch) wr hpc).mono ?_
    rintro e w' ⟨rfl,rfl⟩
    go_wp2_with fail
    have hmany:=a5Z Ah ch h wr (by rw [HC.out.1.len]; exact HV2.out) (rightC_iff.2 ⟨HC.out.1.len,HC.out.1.nonneg,HC.out.1.le⟩)
    rw [HC.out.1.len] at hmany
    refine hmany.mono ?_
    rintro e w' ⟨rfl,rfl⟩
    have hmp : 0 < manyC h:=HC.out.2
    clear hmany
    go_wp2_with fail
    refine (b5W Ah ch h r wr HV2.out HC.out.1).mono ?_
    rintro e w5 ⟨vq,rfl,hq,hb5⟩
    obtain ⟨Aq,cq,rfl⟩:=Kd.R_slice hq
    obtain ⟨ql,hql⟩ : ∃ ql,ql = (normL h r).length:=⟨_,rfl⟩
    have HQ:=Lib.hid hq
    rw [<- hql] at HQ ⊢
    have HB5:=Lib.hid hb5
    have h15 : w5.heap[m1]? = some (.cells #[.int .i64 r,.bool true,.slice none 0 0] 26 (0,0)):=a0g H2.out.2.2.1 hb5
    have H05:=Lib.hid (a0g H2.out.2.2.2 hb5)
    obtain ⟨⟨ca,cb,cc⟩,fa,fb,fc⟩:=cell3 h15
    have H15:=Lib.hid h15
    have HBB : Hid (Below wr.heap.size wr w5):=hb5
    have HS5 : Hid (wr.heap.size <= w5.heap.size):=hb5.size
    have hm1l:=a0f h15
    have hm1n : ¬ m1 = w5.heap.size:=by omega
    have hm1n' : ¬ w5.heap.size = m1:=by omega
    have HL : Hid ((([] : List (List Int)).length + 1) * 24 <= 140737488355328):=by show _ <= _; simp
    clear hq hb5 h15 hql
    go_wp2_with (at_builtin; refine Kd.R_append kq (w0:=wr) (W:=w5) wr.heap.size rfl (.tmp 32) (.tmp 34) 24 84 (.slice none 0 0) 24 rfl Tryz.underlying24 a7C rfl (by decide) (by decide) (.slice none 0 0) [] (normL h r) [.slice Aq ql cq] (λ _=>True) (λ _=>True) rfl (by simp [go_sem]) ⟨_,rfl,HQ.out⟩ (λ _ _=>⟨trivial,by simp [Value.ownBlock]⟩) (λ _ _=>trivial) (Kd.R_nil _ _ _ _ _) HBB.out HS5.out HL.out ?_; intro v1 w6 hr6 hb6 hg6 hat6; have h16:=a0V H15.out hg6 (by simp [Value.ownBlock]); have H16:=Lib.hid h16; have H06:=Lib.hid (a0V H05.out hg6 (by simp [Value.ownBlock])); obtain ⟨⟨da,db,dc⟩,ga,gb,gc⟩:=cell3 h16; obtain ⟨A1,c1,rfl⟩:=Kd.R_slice hr6; have HR6:=Lib.hid hr6; have HB6:=Lib.hid hb6; clear hr6 hb6 hg6 hat6 h16)
    go_roundw
    case rel=>
     have hmm : m0 <= wr.heap.size /\ m1 < wr.heap.size /\ m0 ≠ m1:=by have:=a0f H2.out.2.2.1; have:=a0f H2.out.2.2.2; have:=HM1.out; omega
     have h1:=H16.out
     have h0:=H06.out
     refine .inr ⟨rfl,A1,c1,?_,?_,?_,?_⟩
     · exact a0n h1 2 _
     · exact a1o h0 (p:=⟨m1,2,none⟩) hmm.2.2 _
     · refine Kd.R_mono (Kd.R_far (p:=⟨m1,2,none⟩) (Kd.R_bound HR6.out) (λ k hk=>?_) _) (λ _ _=>trivial)
       show k ≠ m1
       have:=hk.2.1
       omega
     · refine (H2.out.1.trans (HB6.out.mono hmm.1)).setCell ?_ _
       show m0 <= m1
       have:=HM1.out; omega
    case measure=>simp [intOf]
  · obtain ⟨A1,c1,h1,h2,h3,h4⟩:=H.out
    obtain ⟨⟨ca,cb,cc⟩,fa,fb,fc⟩:=cell3 h1
    obtain ⟨⟨da,db,dc⟩,ga,gb,gc⟩:=cell3 h2
    have HH:=Lib.hid (And.intro h2 (And.intro h3 h4))
    clear h1 h2 h3 h4 H
    go_wp2_with fail
    have hmm : m0 < W2.heap.size:=a0f H2.out.2.2.2
    refine bodyPost_ret (results_cell_row (fn:=Tryz.f142) (p:=6) (ty:=26) rfl _ _ _ _ _ _ _ rfl (a1O HH.out.1 _ _ _) Tryz.underlying26 rfl a5X) rfl ?_
    have hw0:=HM0.out
    subst hw0
    refine ⟨_,rfl,?_,((HH.out.2.2.setCell (Nat.le_refl _) _).setCell (Nat.le_refl _) _).setCell (Nat.le_refl _) _⟩
    have h4 : kq.R 84 wr w.heap.size (λ k=>k ≠ w.heap.size) (.slice A1 1 c1) [normL h r]:=Kd.R_mono (Kd.R_lower (Kd.R_bound HH.out.2.1) (by omega)) (λ k hk=>by have:=hk.2.1; omega)
    exact Kd.R_mono (a2X h4 _ _ _) (λ _ _=>trivial)
theorem a1P {w : World} {g : Nat} {a b c : Value} (hg : w.heap[g]? = some (.cells #[a,b,c] 26 (0,0))) : (loadVar 26 ⟨g,0,none⟩).run Tryz.prog w = .ok (.agg #[a,b,c]) w:=
 run_loadVar_row w g _ _ _ _ _ hg Tryz.underlying26 rfl a5X
theorem a2d {fn : Func} {p u : Tmp} {ty : TypeId} (h : fn.results = #[.cell p ty,.tmp u]) (tmps : Array Value) (w : World) (g : Nat) (cs : Array Value)
    (hp : tmps.getD p undef = .pointer (some ⟨g,0,none⟩)) (hl : (loadVar ty ⟨g,0,none⟩).run Tryz.prog w = .ok (.agg cs) w) :
    (results fn tmps).run Tryz.prog w = .ok (.tuple #[.agg cs,tmps.getD u undef]) w:=by
 have hp' : tmps[p]?.getD undef = .pointer (some ⟨g,0,none⟩):=by simpa using hp
 simp [results,h,hp',asAddr,hl]
def b0g (b : List Int) (w : World) (e : Ending) (w' : World) : Prop:=
 (b.length = 0 /\ e = .returned (.tuple #[.agg #[.int .i64 0,.bool false,.slice none 0 0],.int .i64 1]) /\ Below w.heap.size w w') \/
 (0 < b.length /\ ∃ v,e = .returned (.tuple #[.agg #[.int .i64 (zeroR b),.bool true,v],.int .i64 0]) /\ kq.R 84 w' w.heap.size (λ _=>True) v [zeroQ b] /\ Below w.heap.size w w')
theorem b5X {b : List Int} (hb : Bytes b) (hl : b.length <= 1000000) (h0 : 0 < b.length) : 0 < manyC (histL b):=by
 rw [b4Y (a5U b hb hl)]
 have hx:=hb _ (List.getElem_mem h0)
 obtain ⟨s,hs⟩ : ∃ s : Nat,b[0] = (s : Int):=⟨(b[0]).toNat,by omega⟩
 have hs2 : s < 256:=by omega
 have hp:=(a9K b hs2).2 (by rw [<- hs]; exact List.getElem_mem h0)
 refine List.countP_pos_iff.2 ⟨(histL b).getD s 0,a2V (by unfold histL; rw [a1x]; exact hs2),by simpa using hp⟩
set_option maxRecDepth 100000 in
set_option maxHeartbeats 1000000 in
theorem b5Y (A : Option Addr) (cp : Nat) (b : List Int) (w : World) (hr : (Kd.int .u8).C w A b.length b) (hb : Bytes b) (hl : b.length <= 1000000) (h0 : 0 < b.length) :
    Calls Tryz.prog 180 #[.slice A b.length cp] w (b0g b w):=by
 have hne : ((b.length : Int) == 0) = false:=by simp; intro e; subst e; simp at h0
 have hne2 : ¬ b = []:=by intro e; subst e; simp at h0
 obtain ⟨W1,hW1⟩ : ∃ W1,W1 = w.alloc (.cells #[.int .i64 0,.bool false,.slice none 0 0] 26):=⟨_,rfl⟩
 have hb1 : Below w.heap.size w W1:=by rw [hW1]; exact (Below.refl w.heap.size w).alloc (Nat.le_refl _) _
 have hk1 : W1.heap[w.heap.size]? = some (.cells #[.int .i64 0,.bool false,.slice none 0 0] 26 (0,0)):=by rw [hW1]; exact a0k _ _
 have HB1:=Lib.hid hb1
 have HK1:=Lib.hid hk1
 have HR:=Lib.hid hr
 have HX:=Lib.hid (And.intro hb (And.intro hl h0))
 have hZ:=a4p b
 obtain ⟨zr,hzr⟩ : ∃ zr,zr = zeroR b:=⟨_,rfl⟩
 rw [<- hzr] at hZ
 have HZ:=Lib.hid (And.intro hzr hZ)
 clear hb1 hk1 hr hb hl h0 hZ hzr
 go_enter Tryz.func180,Tryz.ntmps180
 go_wp2_with fail
 rw [<- hW1]
 clear hW1
 refine (b5u A cp b W1 (Kd.C_below HR.out HB1.out) HX.out.2.1 HX.out.1).mono ?_
 rintro e w2 ⟨v,rfl,hv,hb2⟩
 obtain ⟨Ah,ch,rfl⟩:=Kd.R_slice hv
 have hhl : (histL b).length = 256:=a1x _
 have hrd:=(Kd.R_reads' hv).2.2
 have hmany:=a5Z Ah ch (histL b) (w2.alloc (.cells #[.slice Ah 256 ch] 84)) (Kd.C_alloc hrd _) (a5U b HX.out.1 HX.out.2.1)
 rw [hhl] at hrd hmany ⊢
 have HV:=Lib.hid (Kd.C_alloc hrd (.cells #[.slice Ah 256 ch] 84))
 have HMa:=Lib.hid hmany
 have HB2 : Hid (Below w.heap.size w w2):=HB1.out.trans (hb2.mono HB1.out.size)
 have HK2:=Lib.hid (a0g HK1.out hb2)
 clear hv hb2 hrd hmany hhl
 go_wp2_with fail
 have HP3:=Lib.hid (a0k w2 (.cells #[.slice Ah 256 ch] 84))
 have HB3 : Hid (Below w.heap.size w (w2.alloc (.cells #[.slice Ah 256 ch] 84))):=HB2.out.alloc HB2.out.size _
 have HK3:=Lib.hid (a0i HK2.out (.cells #[.slice Ah 256 ch] 84))
 obtain ⟨w3,hw3⟩ : ∃ w3,w3 = w2.alloc (.cells #[.slice Ah 256 ch] 84):=⟨_,rfl⟩
 rw [<- hw3] at HP3 HB3 HK3 HV HMa ⊢
 obtain ⟨p0,hp0⟩ : ∃ p0,p0 = w2.heap.size:=⟨_,rfl⟩
 rw [<- hp0] at HP3 ⊢
 clear hw3 hp0
 refine HMa.out.mono ?_
 rintro e w4 ⟨rfl,rfl⟩
 go_wp2_with fail
 refine (b5T b.length (manyC (histL b)) 11 _ HX.out.2.1 (by have:=a4Z (histL b); omega)).mono ?_
 rw [HZ.out.2.1]
 rintro e w4 ⟨rfl,hb4⟩
 have HB4 : Hid (Below w.heap.size w w4):=HB3.out.trans (hb4.mono HB3.out.size)
 have HK4:=Lib.hid (a0g HK3.out hb4)
 have HP4:=Lib.hid (a0g HP3.out hb4)
 have HV4:=Lib.hid (Kd.C_below HV.out hb4)
 clear hb4
 go_wp2_with fail
 refine (c6h p0 ch zr Ah (histL b) w4 HP4.out HV4.out (by rw [HZ.out.1]; exact a5V HX.out.1 HX.out.2.1 HX.out.2.2) (b5X HX.out.1 HX.out.2.1 HX.out.2.2)).mono ?_
 rintro e w5 ⟨v,rfl,hv,hb5⟩
 obtain ⟨Av,cv,rfl⟩:=Kd.R_slice hv
 obtain ⟨⟨m0,m1,m2⟩,⟨f0,f1,f2⟩⟩:=cell3 (a0g HK4.out hb5)
 have HE:=Lib.hid (c4Y (lg:=(zr : Nat)) (one:=true) HB4.out (a0f HK4.out) HK4.out hv hb5)
 clear hv hb5
 go_wp2_with fail
 refine bodyPost_ret (a2d (fn:=Tryz.f180) (p:=2) (u:=3) (ty:=26) rfl _ _ _ _ rfl (a1P HE.out.1)) rfl ?_
 obtain ⟨v2,h1,h2,h3⟩:=HE.out.2
 injection h1 with h1
 injection h1 with h1
 have h1' : Value.slice Av [normL (histL b) zr].length cv = v2:=by
  have:=congrArg (λ a : Array Value=>a.getD 2 Go.undef) h1
  simpa using this
 refine .inr ⟨HX.out.2.2,Value.slice Av [normL (histL b) zr].length cv,?_,?_,h3⟩
 · rw [<- HZ.out.1]; rfl
 · rw [<- h1'] at h2
   unfold zeroQ; rw [<- HZ.out.1]; exact h2
set_option maxRecDepth 100000 in
theorem c6i (A : Option Addr) (cp : Nat) (w : World) : Calls Tryz.prog 180 #[.slice A 0 cp] w (b0g [] w):=by
 have hk1 : (w.alloc (.cells #[.int .i64 0,.bool false,.slice none 0 0] 26)).heap[w.heap.size]? = some (.cells #[.int .i64 0,.bool false,.slice none 0 0] 26 (0,0)):=a0k _ _
 have HB : Hid (Below w.heap.size w (w.alloc (.cells #[.int .i64 0,.bool false,.slice none 0 0] 26))):=(Below.refl _ _).alloc (Nat.le_refl _) _
 have HK:=Lib.hid hk1
 clear hk1
 go_enter Tryz.func180,Tryz.ntmps180
 go_wp2_with fail
 refine bodyPost_ret (a2d (fn:=Tryz.f180) (p:=2) (u:=3) (ty:=26) rfl _ _ _ _ rfl (a1P HK.out)) rfl ?_
 exact .inl ⟨rfl,rfl,HB.out⟩
theorem a2F {fn : Func} {p u v : Tmp} {ty : TypeId} (h : fn.results = #[.cell p ty,.tmp u,.tmp v]) (tmps : Array Value) (w : World) (g : Nat) (cs : Array Value)
    (hp : tmps.getD p undef = .pointer (some ⟨g,0,none⟩)) (hl : (loadVar ty ⟨g,0,none⟩).run Tryz.prog w = .ok (.agg cs) w) :
    (results fn tmps).run Tryz.prog w = .ok (.tuple #[.agg cs,tmps.getD u undef,tmps.getD v undef]) w:=by
 have hp' : tmps[p]?.getD undef = .pointer (some ⟨g,0,none⟩):=by simpa using hp
 simp [results,h,hp',asAddr,hl]
set_option maxRecDepth 100000 in
theorem b5Z (v : Nat) (w : World) (hv : v < 256) : Calls Tryz.prog 224 #[.int .u8 v] w λ e w'=>e = .returned (.bool (decide (5 <= v /\ v <= 11))) /\ w = w':=by
 by_cases h : 5 <= v
 · have e : decide (5 <= v /\ v <= 11) = decide (v <= 11):=by simp [h]
   rw [e]
   go_enter Tryz.func224,Tryz.ntmps224
   go_wp2_with fail
   go_ret
   exact ⟨a0X (by simp; omega),rfl⟩
 · have e : decide (5 <= v /\ v <= 11) = false:=by simp [h]
   rw [e]
   go_enter Tryz.func224,Tryz.ntmps224
   go_wp2_with fail
   go_ret
   exact ⟨rfl,rfl⟩
theorem c6j (ps : List Int) (hps : ∀ x ∈ ps,0 <= x /\ x < 256) (h : 0 < ps.length) : takeF ps 0 8 = (ps.getD 0 0).toNat /\ (ps.getD 0 0).toNat < 256:=by
 have hx:=hps _ (a1A h)
 obtain ⟨y,hy⟩ : ∃ y : Nat,ps.getD 0 0 = y:=⟨(ps.getD 0 0).toNat,by omega⟩
 have hb : BitsAt ps 0 (a0t y 8):=λ i hi=>by
  rw [a0J] at hi
  unfold bitI
  rw [show (0 + i) / 8 = 0 by omega,show (0 + i) % 8 = i by omega,hy,Int.toNat_natCast,a9m _ _ _ hi,a9n]
 have:=a7m hb (by omega)
 rw [this,hy]; omega
def b0h (ps : List Int) (w : World) (e : Ending) (w' : World) : Prop:=
 ((a0v ps).1 = 0 -> ∃ vm vp,e = .returned (.tuple #[.agg #[.int .i64 (a0v ps).2.1,.bool true,vm],vp,.int .i64 0]) /\ kq.R 84 w' w.heap.size (λ _=>True) vm [(a0v ps).2.2.1] /\ (Kd.int .u8).R 5 w' w.heap.size (λ _=>True) vp (a0v ps).2.2.2) /\
 ((a0v ps).1 ≠ 0 -> e = .returned (.tuple #[.agg #[.int .i64 0,.bool false,.slice none 0 0],.slice none 0 0,.int .i64 (a0v ps).1])) /\ Below w.heap.size w w'
set_option maxRecDepth 100000 in
set_option maxHeartbeats 2000000 in
theorem b6a (A : Option Addr) (c : Nat) (ps : List Int) (w : World) (hr : (Kd.int .u8).C w A ps.length ps) (hps : ∀ x ∈ ps,0 <= x /\ x < 256) (hl : ps.length <= 1000000) (hc : ps.length <= c) (hnil : A = none -> c = 0) :
    Calls Tryz.prog 182 #[.slice A ps.length c] w (b0h ps w):=by
 obtain ⟨W,hW⟩ : ∃ W,W = w.alloc (.cells #[.int .i64 0,.bool false,.slice none 0 0] 26):=⟨_,rfl⟩
 have hb1 : Below w.heap.size w W:=by rw [hW]; exact (Below.refl _ _).alloc (Nat.le_refl _) _
 have hk1 : W.heap[w.heap.size]? = some (.cells #[.int .i64 0,.bool false,.slice none 0 0] 26 (0,0)):=by rw [hW]; exact a0k _ _
 have HB1:=Lib.hid hb1
 have HK1:=Lib.hid hk1
 have HR:=Lib.hid (And.intro (Kd.C_below hr hb1) (And.intro hps (And.intro hl (And.intro hc hnil))))
 clear hr hps hl hc hnil hb1 hk1
 go_enter Tryz.func182,Tryz.ntmps182
 go_wp2_with fail
 rw [<- hW]
 clear hW
 refine (a9V A c ps W HR.out.1 HR.out.2.2.1 HR.out.2.2.2.1 HR.out.2.2.2.2).mono ?_
 rintro e w1 ⟨p,rfl,hp,hrd,hb⟩
 have H1:=Lib.hid (And.intro hp (And.intro hrd hb))
 have HK2:=Lib.hid (a0g HK1.out hb)
 clear hp hrd hb
 go_wp2_with fail
 refine (a7J W.heap.size p ps 0 8 w1 H1.out.2.1 HR.out.2.1 HR.out.2.2.1 (by omega) (by decide)).mono ?_
 rintro e w2 ⟨t1,t2,t3⟩
 have HO2:=Lib.hid t3
 have hnp : w.heap.size ≠ p:=by have:=H1.out.1; have:=a0f HK1.out; omega
 have hk3 : w2.heap[w.heap.size]? = some (.cells #[.int .i64 0,.bool false,.slice none 0 0] 26 (0,0)):=by rw [t3.block _ (a0f HK2.out) hnp]; exact HK2.out
 have HK3:=Lib.hid hk3
 have hbW : Below w.heap.size w w2:=(HB1.out.trans (H1.out.2.2.mono HB1.out.size)).trans (t3.below (Nat.le_trans HB1.out.size H1.out.2.2.size) (λ k hk=>by have:=H1.out.1; have:=HB1.out.size; omega))
 have HBW:=Lib.hid hbW
 by_cases h0 : ps.length = 0
 · obtain ⟨rfl,hrd⟩:=t2 (by omega)
   have HE : Hid (a0v ps = (3,0,[],[])):=by show _ = _; unfold a0v; rw [if_pos h0]
   obtain ⟨⟨ca,cb,cc⟩,fa,fb,fc⟩:=cell3 hk3
   clear t1 t2 t3 hrd hk3 hbW
   go_wp2_with fail
   refine bodyPost_ret (a2F (fn:=Tryz.f182) (p:=2) (u:=3) (v:=4) (ty:=26) rfl _ _ _ _ rfl (a1P (a1O HK3.out _ _ _))) rfl ?_
   refine ⟨(λ h=>by rw [HE.out] at h; cases h),(λ _=>by rw [HE.out]; rfl),?_⟩
   exact ((HBW.out.setCell (Nat.le_refl _) _).setCell (Nat.le_refl _) _).setCell (Nat.le_refl _) _
 · obtain ⟨rfl,hrd⟩:=t1 (by omega)
   obtain ⟨f1,f2⟩:=c6j ps HR.out.2.1 (by omega)
   rw [f1]
   obtain ⟨v,hv⟩ : ∃ v,v = (ps.getD 0 0).toNat:=⟨_,rfl⟩
   rw [<- hv] at f2 ⊢
   have HV:=Lib.hid hv
   have HRD:=Lib.hid hrd
   clear t1 t2 t3 hrd f1 hv
   by_cases hlog : 5 <= v /\ v <= 11
   · have hd:=Lib.hid (decide_eq_true hlog)
     obtain ⟨H,hH⟩ : ∃ H,H = hdrT ps (8 * ps.length) 257 a0z 0 (2 ^ v) false 8:=⟨_,rfl⟩
     have hpl : p < w2.heap.size:=by
      obtain ⟨A2,c2,hb2,-⟩:=HRD.out.ex
      exact a0f hb2
     have HTk:=Lib.hid (b5v W.heap.size p v ps 8 w2 HRD.out HR.out.2.1 HR.out.2.2.1 (by omega) (by omega) (by omega) hpl)
     rw [<- hH] at HTk
     have hSM : a0v ps = if H.1 ≠ 0 then (H.1,0,[],[]) else if H.2.2 % 8 ≠ 0 /\ (ps.getD (H.2.2 / 8) 0).toNat / 2 ^ (H.2.2 % 8) ≠ 0 then (4,0,[],[]) else (0,v,H.2.1,ps.drop ((H.2.2 + 7) / 8)):=by
      unfold a0v; rw [if_neg h0,<- HV.out,if_neg (by omega),<- hH]
     have hHe : H.1 = 0 -> H.2.2 <= 8 * ps.length:=λ h=>by rw [hH] at h ⊢; exact a7I _ _ _ _ _ _ (by omega) h
     have HS:=Lib.hid (And.intro hSM hHe)
     clear hk3 hbW hpl hH hSM hHe
     go_wp2_with fail
     refine (b5Z v w2 f2).mono ?_
     rw [hd.out]
     rintro e w' ⟨rfl,rfl⟩
     go_wp2_with fail
     refine HTk.out.mono ?_
     rintro e w3 ⟨c1,c2,c3⟩
     have hk4 : w3.heap[w.heap.size]? = some (.cells #[.int .i64 0,.bool false,.slice none 0 0] 26 (0,0)):=by rw [c3.block _ (a0f HK3.out) hnp]; exact HK3.out
     have HK4:=Lib.hid hk4
     have HB4 : Hid (Below w.heap.size w w3):=HBW.out.trans (c3.below HBW.out.size (λ k hk=>by have:=H1.out.1; have:=HB1.out.size; omega))
     by_cases hz : H.1 = 0
     · obtain ⟨g,rfl,d1,d2,d3⟩:=c1 hz
       have HD:=Lib.hid (And.intro d1 (And.intro d2 d3))
       have hPd:=b5w W.heap.size p ps H.2.2 w3 d3 HR.out.2.1 HR.out.2.2.1 (HS.out.2 hz)
       have HPd:=Lib.hid hPd
       have HS23:=Lib.hid c3.size
       clear c1 c2 c3 d1 d2 d3 hk4 hPd
       go_wp2_with fail
       refine HPd.out.mono ?_
       rintro e w4 ⟨rfl,p2,p3⟩
       have hk5 : w4.heap[w.heap.size]? = some (.cells #[.int .i64 0,.bool false,.slice none 0 0] 26 (0,0)):=by rw [p3.block _ (a0f HK4.out) hnp]; exact HK4.out
       have HK5:=Lib.hid hk5
       have HB5 : Hid (Below w.heap.size w w4):=HB4.out.trans (p3.below HB4.out.size (λ k hk=>by have:=H1.out.1; have:=HB1.out.size; omega))
       cases hpd : padOk ps H.2.2 with
       | false=>
        have HE : Hid (a0v ps = (4,0,[],[])):=by
         have:=HS.out.1
         rw [if_neg (λ h=>h hz)] at this
         unfold padOk at hpd
         rw [if_pos (by have h:=of_decide_eq_false hpd; exact Classical.not_not.1 h)] at this; exact this
        obtain ⟨⟨ca,cb,cc⟩,fa,fb,fc⟩:=cell3 hk5
        clear p2 p3 hk5 hpd
        go_wp2_with fail
        refine bodyPost_ret (a2F (fn:=Tryz.f182) (p:=2) (u:=3) (v:=4) (ty:=26) rfl _ _ _ _ rfl (a1P (a1O HK5.out _ _ _))) rfl ?_
        refine ⟨(λ h=>by rw [HE.out] at h; cases h),(λ _=>by rw [HE.out]; rfl),?_⟩
        exact ((HB5.out.setCell (Nat.le_refl _) _).setCell (Nat.le_refl _) _).setCell (Nat.le_refl _) _
       | true=>
        have HE : Hid (a0v ps = (0,v,H.2.1,ps.drop ((H.2.2 + 7) / 8))):=by
         have:=HS.out.1
         rw [if_neg (λ h=>h hz)] at this
         unfold padOk at hpd
         rw [if_neg (of_decide_eq_true hpd)] at this; exact this
        have hpl : p < w2.heap.size:=by
         obtain ⟨A2,c2,hb2,-⟩:=HRD.out.ex
         exact a0f hb2
        have hq4 : (Kd.int .i64).R 3 w4 w2.heap.size (λ _=>True) (.slice (some ⟨g,0,none⟩) 256 256) H.2.1:=Kd.R_mono (Kd.R_step (Kd.R_bound HD.out.1) (λ k hk hlt=>p3.block k hlt (by have:=hk.2.1; omega))) (λ _ _=>trivial)
        have hs24 : w2.heap.size <= w4.heap.size:=Nat.le_trans HS23.out p3.size
        obtain ⟨w5,hw5⟩ : ∃ w5,w5 = w4.alloc (.cells #[.slice (some ⟨g,0,none⟩) 256 256] 84):=⟨_,rfl⟩
        have hb45 : Below w4.heap.size w4 w5:=by rw [hw5]; exact (Below.refl _ _).alloc (Nat.le_refl _) _
        have HQ5 : Hid (kq.R 84 w5 w2.heap.size (λ _=>True) (.slice (some ⟨w4.heap.size,0,none⟩) 1 1) [H.2.1]):=by show kq.R _ _ _ _ _ _; rw [hw5]; exact Kd.R_mono (a9M hq4 hs24) (λ _ _=>trivial)
        have HR5:=Lib.hid ((p2 hpd).below hb45)
        have HK6:=Lib.hid (a0g hk5 hb45)
        have HB6:=Lib.hid (HB5.out.trans (hb45.mono HB5.out.size))
        have HSz : Hid (w.heap.size < w2.heap.size):=by show _ < _; have:=a0f HK3.out; omega
        have hat:=HS.out.2 hz
        have HAT : Hid (8 * ((H.2.2 + 7) / 8) <= 8 * ps.length):=by show _ <= _; omega
        obtain ⟨s4,hs4⟩ : ∃ s4,s4 = w4.heap.size:=⟨_,rfl⟩
        rw [<- hs4] at HQ5
        clear p2 p3 hk5 hpd hq4 hs24 hb45 hpl hat
        go_wp2_with fail
        rw [<- hw5,<- hs4]
        clear hw5 hs4
        refine (b5y W.heap.size p ps _ w5 HR5.out HR.out.2.2.1 HAT.out).mono ?_
        rintro e w6 ⟨vp,rfl,hvp,hb6⟩
        have hk7:=a0g HK6.out hb6
        have HK7:=Lib.hid hk7
        have HP6:=Lib.hid hvp
        have HQ6:=Lib.hid (Kd.R_below HQ5.out hb6)
        have HB7:=Lib.hid (HB6.out.trans (hb6.mono HB6.out.size))
        have HS5:=Lib.hid (HB6.out.size)
        obtain ⟨⟨ca,cb,cc⟩,fa,fb,fc⟩:=cell3 hk7
        clear hk7 hvp hb6
        go_wp2_with fail
        refine bodyPost_ret (a2F (fn:=Tryz.f182) (p:=2) (u:=3) (v:=4) (ty:=26) rfl _ _ _ _ rfl (a1P (a1O HK7.out _ _ _))) rfl ?_
        refine ⟨(λ _=>?_),(λ h=>by rw [HE.out] at h; exact absurd rfl h),((HB7.out.setCell (Nat.le_refl _) _).setCell (Nat.le_refl _) _).setCell (Nat.le_refl _) _⟩
        rw [HE.out]
        have e8 : (8 * ((H.2.2 + 7) / 8) + 7) / 8 = (H.2.2 + 7) / 8:=by omega
        have hp6:=HP6.out
        rw [e8] at hp6
        have h5:=a0f HK6.out
        refine ⟨_,_,rfl,?_,?_⟩
        · have h4 : kq.R 84 w6 w.heap.size (λ k=>k ≠ w.heap.size) (.slice (some ⟨s4,0,none⟩) 1 1) [H.2.1]:=Kd.R_mono (Kd.R_lower (Kd.R_bound HQ6.out) (by have:=HSz.out; omega)) (λ k hk=>by have:=hk.2.1; have:=HSz.out; omega)
          exact Kd.R_mono (a2X h4 _ _ _) (λ _ _=>trivial)
        · have h4 : (Kd.int .u8).R 5 w6 w.heap.size (λ k=>k ≠ w.heap.size) vp (ps.drop ((H.2.2 + 7) / 8)):=Kd.R_mono (Kd.R_lower (Kd.R_bound hp6) (by omega)) (λ k hk=>by have:=hk.2.1; omega)
          exact Kd.R_mono (a2X h4 _ _ _) (λ _ _=>trivial)
     · obtain rfl:=c2 hz
       have HE : Hid (a0v ps = (H.1,0,[],[])):=by have:=HS.out.1; rw [if_pos hz] at this; exact this
       obtain ⟨⟨ca,cb,cc⟩,fa,fb,fc⟩:=cell3 hk4
       have hzb : (H.1 == 0) = false:=beq_eq_false_iff_ne.2 hz
       have hzn : (H.1 != 0) = true:=by simp [hz]
       clear c1 c2 c3 hk4
       go_wp2_with fail
       refine bodyPost_ret (a2F (fn:=Tryz.f182) (p:=2) (u:=3) (v:=4) (ty:=26) rfl _ _ _ _ rfl (a1P (a1O HK4.out _ _ _))) rfl ?_
       refine ⟨(λ h=>by rw [HE.out] at h; exact absurd h hz),(λ _=>by rw [HE.out]; rfl),?_⟩
       exact ((HB4.out.setCell (Nat.le_refl _) _).setCell (Nat.le_refl _) _).setCell (Nat.le_refl _) _
   · have HE : Hid (a0v ps = (13,0,[],[])):=by show _ = _; unfold a0v; rw [if_neg h0,<- HV.out,if_pos (by omega)]
     have hd:=Lib.hid (decide_eq_false hlog)
     obtain ⟨⟨ca,cb,cc⟩,fa,fb,fc⟩:=cell3 hk3
     clear hk3 hbW hlog
     go_wp2_with fail
     refine (b5Z v w2 f2).mono ?_
     rw [hd.out]
     rintro e w' ⟨rfl,rfl⟩
     go_wp2_with fail
     refine bodyPost_ret (a2F (fn:=Tryz.f182) (p:=2) (u:=3) (v:=4) (ty:=26) rfl _ _ _ _ rfl (a1P (a1O HK3.out _ _ _))) rfl ?_
     refine ⟨(λ h=>by rw [HE.out] at h; cases h),(λ _=>by rw [HE.out]; rfl),?_⟩
     exact ((HBW.out.setCell (Nat.le_refl _) _).setCell (Nat.le_refl _) _).setCell (Nat.le_refl _) _
theorem b0i (w : World) : WrVal (w.alloc (.cells #[.slice none 0 0,.int .i64 0] 229)) w.heap.size w.heap.size (.slice none 0 0) []:=⟨a0k _ _,Kd.R_nil _ _ _ _ _⟩
theorem PutRel.bel {base p : Nat} {v0 : Value} {bs : List Bool} {w0 w w' : World} (h : PutRel base p v0 bs w w') (hb : Below w0.heap.size w0 w) (hp : w0.heap.size <= p) (hv : ∀ k,v0.ownBlock = some k -> w0.heap.size <= k) : Below w0.heap.size w0 w':=by
 obtain ⟨_,_,_,ho⟩:=h
 exact hb.trans (ho.below hb.size (λ k hk=>by
  rcases hk with hk | hk
  · exact hk ▸ hp
  · exact hv k hk))
def c6l (r : Nat) (q : List Int) (w : World) (e : Ending) (w' : World) : Prop:=∃ v,e = .returned v /\ (Kd.int .u8).R 5 w' w.heap.size (λ _=>True) v (packB (headB r q)) /\ Below w.heap.size w w'
set_option maxRecDepth 100000 in
set_option maxHeartbeats 400000 in
theorem c6m (r c : Nat) (A : Option Addr) (q : List Int) (w : World) (hr : kq.C w A 1 [q]) (hn : Nrm q r) :
    Calls Tryz.prog 181 #[.agg #[.int .i64 r,.bool true,.slice A 1 c]] w (c6l r q w):=by
 obtain ⟨W,hW⟩ : ∃ W,W = (w.alloc (.cells #[.int .i64 r,.bool true,.slice A 1 c] 26)).alloc (.cells #[.slice none 0 0,.int .i64 0] 229):=⟨_,rfl⟩
 have HI:=Lib.hid (b0i (w.alloc (.cells #[.int .i64 r,.bool true,.slice A 1 c] 26)))
 have HB : Hid (Below w.heap.size w W):=by show Below _ _ _; rw [hW]; exact ((Below.refl _ _).alloc (Nat.le_refl _) _).alloc (by simp) _
 have HK : Hid (W.heap[w.heap.size]? = some (.cells #[.int .i64 r,.bool true,.slice A 1 c] 26 (0,0))):=by show _ = _; rw [hW]; exact a0i (a0k _ _) _
 have hs : (w.alloc (.cells #[.int .i64 r,.bool true,.slice A 1 c] 26)).heap.size = w.heap.size + 1:=by simp
 have HR:=Lib.hid (And.intro hr hn)
 have hr12:=hn.r12
 rw [hs] at HI
 rw [<- hW] at HI
 clear hr hn
 obtain ⟨P,hP⟩ : ∃ P,P = w.heap.size + 1:=⟨_,rfl⟩
 rw [<- hP] at HI hs
 have HP:=Lib.hid hP
 have HPW : Hid (P <= W.heap.size):=by show _ <= _; rw [hW,hP]; simp
 clear hP
 go_enter Tryz.func181,Tryz.ntmps181
 go_wp2_with fail
 refine (a6X _).mono ?_
 rw [<- hW,hs]
 clear hW hs
 rintro e w1 ⟨rfl,rfl⟩
 have hk0:=(cell3 HK.out).1
 obtain ⟨ka,kb,kc⟩:=hk0
 go_wp2_with fail
 refine (a2o P P (.slice none 0 0) [] r 8 w1 HI.out HPW.out (by simp) (by omega) (by decide)).mono ?_
 rintro e w2 ⟨rfl,hp⟩
 have HB2 : Hid (Below w.heap.size w w2):=hp.bel HB.out (by have:=HP.out; omega) (λ k hk=>by simp [Value.ownBlock] at hk)
 obtain ⟨v1,m1,m2,m3⟩:=hp
 have HM:=Lib.hid (And.intro m1 (And.intro m2 m3))
 have hk2 : w2.heap[w.heap.size]? = some (.cells #[.int .i64 r,.bool true,.slice A 1 c] 26 (0,0)):=by
  rw [m3.block _ (a0f HK.out) (λ h=>by rcases h with h | h; have:=HP.out; omega; simp [Value.ownBlock] at h)]; exact HK.out
 clear m1 m2 m3 ka kb kc
 obtain ⟨⟨ka,kb,kc⟩,-⟩:=cell3 hk2
 obtain ⟨ad,Bq,cq,rfl,hcq',-,hCq⟩:=kq_at HR.out.1 0 (by omega)
 have hcq:=a0s HB2.out hcq'
 clear hcq'
 have e0 : ([q] : List (List Int)).getD 0 [] = q:=rfl
 rw [e0,HR.out.2.len] at hcq hCq
 have hadd : ad.add 0 = ad:=rfl
 rw [hadd] at hcq
 have HQ:=Lib.hid hCq
 clear hCq hk2 e0 hadd
 go_wp2_with fail
 refine (b6b P P cq r Bq v1 ([] ++ a0t r 8) q w w2 HM.out.1 (Nat.le_trans HPW.out HM.out.2.2.size) (by simp [a0J]) HQ.out HB2.out (by have:=HP.out; omega) (by have:=HP.out; omega) HR.out.2).mono ?_
 rintro e w3 ⟨rfl,hp⟩
 have HB3 : Hid (Below w.heap.size w w3):=hp.bel HB2.out (by have:=HP.out; omega) (λ k hk=>by have:=Kd.R_base HM.out.1.row k hk; have:=HP.out; omega)
 obtain ⟨v2,m1,_,_⟩:=hp
 have HM3:=Lib.hid m1
 clear m1
 have HLn : Hid (([] ++ a0t r 8 ++ hdrB q 257 0 (2 ^ r)).length <= 900000):=by
  show _ <= _
  have e2 : (2 : Int) ^ r = ((2 ^ r : Nat) : Int):=by simp
  have h1:=a5g HR.out.2.r12 HR.out.2.len HR.out.2.nn 257 0 (2 ^ r) (by omega) (by rw [List.drop_zero,HR.out.2.sum,e2]) (by rw [Nat.pow_succ]; have:=Nat.two_pow_pos r; omega)
  have h2 : (256 - 0) * (r + 3) <= 256 * 15:=Nat.mul_le_mul (by omega) (by omega)
  rw [List.nil_append,List.length_append,a0J]; omega
 go_wp2_with fail
 refine (a7H _ _ _ _ _ HM3.out HLn.out).mono ?_
 rintro e w4 ⟨v4,rfl,hv4,hb4⟩
 have H4 : Hid ((Kd.int .u8).R 5 w4 w.heap.size (λ _=>True) v4 (packB (headB r q)) /\ Below w.heap.size w w4):=by
  refine ⟨?_,HB3.out.trans (hb4.mono HB3.out.size)⟩
  have:=Kd.R_lower hv4 HB3.out.size
  rw [List.nil_append] at this; exact this
 clear hv4 hb4
 go_wp2_with fail
 go_ret
 exact ⟨v4,rfl,H4.out.1,H4.out.2⟩
def a1q (b : List Int) : List Int:=packB (headB (zeroR b) (zeroQ b)) ++ packB (a0Z (zeroR b : Nat) true [zeroQ b] b ++ [true])
theorem a7N {b : List Int} (hb : Bytes b) (hl : b.length <= 1000000) (h0 : 0 < b.length) : Nrm (zeroQ b) (zeroR b):=by
 have h:=a5e (a5V hb hl h0)
 have hz:=a4p b
 exact ⟨h.1.len,h.1.nonneg,h.2.1,by omega,by omega⟩
def b6c (b : List Int) (w : World) (e : Ending) (w' : World) : Prop:=
 (b.length = 0 /\ e = .returned (.tuple #[.slice none 0 0,.int .i64 1]) /\ Below w.heap.size w w') \/
 (0 < b.length /\ ∃ v,e = .returned (.tuple #[v,.int .i64 0]) /\ (Kd.int .u8).R 5 w' w.heap.size (λ _=>True) v (a1q b) /\ Below w.heap.size w w')
theorem c6n {w w' : World} {e : Ending} (h : b0g [] w e w') : e = .returned (.tuple #[.agg #[.int .i64 0,.bool false,.slice none 0 0],.int .i64 1]) /\ Below w.heap.size w w':=by
 rcases h with ⟨_,h1,h2⟩ | ⟨h,_⟩
 · exact ⟨h1,h2⟩
 · cases h
set_option maxRecDepth 100000 in
theorem c6o (A : Option Addr) (cp : Nat) (w : World) : Calls Tryz.prog 130 #[.slice A 0 cp] w (b6c [] w):=by
 have HZ:=Lib.hid ((c6i A cp w).mono (λ e w' h=>c6n h))
 go_enter Tryz.func130,Tryz.ntmps130
 go_wp2_with fail
 refine HZ.out.mono ?_
 rintro e w1 ⟨rfl,hb1⟩
 have HB1:=Lib.hid hb1
 clear hb1
 go_wp2_with fail
 go_ret2
 exact .inl ⟨rfl,rfl,HB1.out.alloc HB1.out.size _⟩
set_option maxRecDepth 100000 in
set_option maxHeartbeats 1000000 in
theorem b6d (A : Option Addr) (cp : Nat) (b : List Int) (w : World) (hr : (Kd.int .u8).C w A b.length b) (hb : Bytes b) (hl : b.length <= 40000) :
    Calls Tryz.prog 130 #[.slice A b.length cp] w (b6c b w):=by
 by_cases h0 : 0 < b.length
 · have HR:=Lib.hid (And.intro hr (And.intro hb (And.intro hl h0)))
   have HN:=Lib.hid (a7N hb (by omega) h0)
   have HCan : Hid (canM (zeroR b : Nat) true [zeroQ b] b = true):=a5f (one:=true) hb (by omega) h0
   have hzero:=b5Y A cp b w hr hb (by omega) h0
   have HZ:=Lib.hid hzero
   obtain ⟨r,hr'⟩ : ∃ r,r = zeroR b:=⟨_,rfl⟩
   obtain ⟨q,hq'⟩ : ∃ q,q = zeroQ b:=⟨_,rfl⟩
   have HRQ:=Lib.hid (And.intro hr' hq')
   clear hr hb hl h0 hzero
   go_enter Tryz.func130,Tryz.ntmps130
   go_wp2_with fail
   refine HZ.out.mono ?_
   rintro e w1 (⟨h,_⟩ | ⟨_,v,rfl,hv,hb1⟩)
   · have:=HR.out.2.2.2; omega
   obtain ⟨Av,cv,rfl⟩:=Kd.R_slice hv
   rw [<- hr']
   rw [<- hq'] at hv
   have HV : Hid (kq.C w1 Av 1 [q]):=(Kd.R_reads' hv).2.2
   have HB1:=Lib.hid hb1
   have e1 : ([zeroQ b] : List (List Int)).length = 1:=rfl
   rw [e1]
   clear hv hb1 e1 hr' hq'
   obtain ⟨w2,hw2⟩ : ∃ w2,w2 = w1.alloc (.cells #[.int .i64 r,.bool true,.slice Av 1 cv] 26):=⟨_,rfl⟩
   have HB2 : Hid (Below w.heap.size w w2):=by show Below _ _ _; rw [hw2]; exact HB1.out.alloc HB1.out.size _
   have HV2 : Hid (kq.C w2 Av 1 [q]):=by show kq.C _ _ _ _; rw [hw2]; exact Kd.C_alloc HV.out _
   have hk2 : w2.heap[w1.heap.size]? = some (.cells #[.int .i64 r,.bool true,.slice Av 1 cv] 26 (0,0)):=by rw [hw2]; exact a0k _ _
   have HK2:=Lib.hid hk2
   obtain ⟨mb,hmb⟩ : ∃ mb,mb = w1.heap.size:=⟨_,rfl⟩
   rw [<- hmb] at HK2
   clear hk2
   go_wp2_with fail
   rw [<- hw2,<- hmb]
   clear hw2 hmb
   refine (b4b (r : Nat) true Av cv [q] A cp b w2 HV2.out (by simp) (Kd.C_below HR.out.1 HB2.out) HR.out.2.1 HR.out.2.2.1).mono ?_
   rintro e w3 ⟨_,h2,hb3⟩
   obtain ⟨vp,rfl,hvp⟩:=h2 (by rw [HRQ.out.1,HRQ.out.2]; exact HCan.out)
   obtain ⟨Ap,cpp,rfl⟩:=Kd.R_slice hvp
   have HB3 : Hid (Below w.heap.size w w3):=HB2.out.trans (hb3.mono HB2.out.size)
   have hk3:=a0g HK2.out hb3
   have HV3 : Hid (kq.C w3 Av 1 [q]):=Kd.C_below HV2.out hb3
   have HP3:=Lib.hid (Kd.R_reads' hvp).2.2
   have HFit:=Lib.hid (a5N (a5O (by rw [HRQ.out.1,HRQ.out.2]; exact HCan.out : canM (r : Nat) true [q] b = true)).1 HR.out.2.1)
   obtain ⟨Pl,hPl⟩ : ∃ Pl,Pl = packB (a0Z (r : Nat) true [q] b ++ [true]):=⟨_,rfl⟩
   have HPl:=Lib.hid hPl
   rw [<- hPl] at HP3 ⊢
   obtain ⟨⟨ka,kb,kc⟩,-⟩:=cell3 hk3
   have HPlen : Hid (Pl.length <= 700000):=by
    show _ <= _
    rw [hPl,a0x,List.length_append]
    have:=HFit.out; have:=HR.out.2.2.1; simp only [List.length_singleton]; omega
   clear h2 hb3 hvp hk3 hPl
   have HKK:=Lib.hid (And.intro ka (And.intro kb kc))
   clear ka kb kc
   obtain ⟨ka,kb,kc⟩:=HKK.out
   go_wp2_with fail
   refine (c6m r cv Av q w3 HV3.out (by rw [HRQ.out.1,HRQ.out.2]; exact HN.out)).mono ?_
   rintro e w4 ⟨vh,rfl,hvh,hb4⟩
   obtain ⟨Ah,ch,rfl⟩:=Kd.R_slice hvh
   have HB4 : Hid (Below w.heap.size w w4):=HB3.out.trans (hb4.mono HB3.out.size)
   have HP4 : Hid ((Kd.int .u8).C w4 Ap Pl.length Pl):=Kd.C_below HP3.out hb4
   have HH4 : Hid ((Kd.int .u8).R 5 w4 w.heap.size (λ _=>True) (.slice Ah (packB (headB r q)).length ch) (packB (headB r q))):=Kd.R_lower hvh HB3.out.size
   have HHl : Hid ((packB (headB r q)).length <= 10000):=by
    show _ <= _
    have hn:=HN.out
    rw [<- HRQ.out.1,<- HRQ.out.2] at hn
    have e2 : (2 : Int) ^ r = ((2 ^ r : Nat) : Int):=by simp
    have h1:=a5g hn.r12 hn.len hn.nn 257 0 (2 ^ r) (by omega) (by rw [List.drop_zero,hn.sum,e2]) (by rw [Nat.pow_succ]; have:=Nat.two_pow_pos r; omega)
    have h2 : (256 - 0) * (r + 3) <= 256 * 15:=Nat.mul_le_mul (by omega) (by have:=hn.r12; omega)
    rw [a0x]; unfold headB
    rw [List.length_append,a0J]; omega
   obtain ⟨Hl,hHl⟩ : ∃ Hl,Hl = packB (headB r q):=⟨_,rfl⟩
   have HHd:=Lib.hid hHl
   rw [<- hHl] at HH4 HHl ⊢
   have HL : Hid ((Hl.length + Pl.length) * 1 <= 140737488355328):=by show _ <= _; have:=HHl.out; have:=HPlen.out; omega
   have HS4 : Hid (w.heap.size <= w4.heap.size):=HB4.out.size
   clear hvh hb4 hHl ka kb kc
   go_wp2_with (at_builtin; refine Kd.R_append_rows (Kd.int .u8) (Rr:=(Kd.int .u8).K w4) (w0:=w) (W:=w4) w.heap.size rfl (.tmp 25) (.tmp 26) 22 5 (.int .u8 0) 1 rfl Tryz.underlying22 a0C rfl (by decide) (by decide) (.slice Ah Hl.length ch) Hl Pl Ap Pl.length cpp (λ _=>True) (λ _=>False) rfl rfl HH4.out HP4.out (λ _ _ h=>h) (λ _ h=>h.elim) (λ _ _=>trivial) HB4.out HS4.out HL.out ?_; intro vi w5 hr5 hb5 hg5 hat5; have HR5:=Lib.hid hr5; have HB5:=Lib.hid hb5; clear hr5 hb5 hg5 hat5)
   go_ret2
   refine .inr ⟨HR.out.2.2.2,_,rfl,?_,HB5.out⟩
   unfold a1q
   rw [<- HRQ.out.1,<- HRQ.out.2,<- HPl.out,<- HHd.out]
   exact HR5.out
 · have hbe : b = []:=List.eq_nil_of_length_eq_zero (by omega)
   subst hbe
   exact c6o A cp w
theorem a7O (ps : List Int) : (∃ k,k ≠ 0 /\ a0v ps = (k,0,[],[])) \/ ∃ r q m,5 <= r /\ r <= 11 /\ a0v ps = (0,r,q,ps.drop m):=by
 unfold a0v
 by_cases h0 : ps.length = 0
 · rw [if_pos h0]; exact .inl ⟨3,by decide,rfl⟩
 · rw [if_neg h0]
   by_cases h1 : (ps.getD 0 0).toNat < 5 \/ 11 < (ps.getD 0 0).toNat
   · rw [if_pos h1]; exact .inl ⟨13,by decide,rfl⟩
   · rw [if_neg h1]; dsimp only
     obtain ⟨H,hH⟩ : ∃ H,H = hdrT ps (8 * ps.length) 257 a0z 0 (2 ^ (ps.getD 0 0).toNat) false 8:=⟨_,rfl⟩
     rw [<- hH]
     by_cases h2 : H.1 ≠ 0
     · rw [if_pos h2]; exact .inl ⟨_,h2,rfl⟩
     · rw [if_neg h2]
       by_cases h3 : H.2.2 % 8 ≠ 0 /\ (ps.getD (H.2.2 / 8) 0).toNat / 2 ^ (H.2.2 % 8) ≠ 0
       · rw [if_pos h3]; exact .inl ⟨4,by decide,rfl⟩
       · rw [if_neg h3]; exact .inr ⟨_,_,_,by omega,by omega,rfl⟩
theorem b0j {ps : List Int} (h : Bytes ps) : Bytes (a0v ps).2.2.2:=by
 rcases a7O ps with ⟨k,_,e⟩ | ⟨r,q,m,_,_,e⟩
 · rw [e]; intro x hx; cases hx
 · rw [e]; exact λ x hx=>h x (List.mem_of_mem_drop hx)
theorem c6p (ps : List Int) : (a0v ps).2.2.2.length <= ps.length:=by
 rcases a7O ps with ⟨k,_,e⟩ | ⟨r,q,m,_,_,e⟩
 · rw [e]; simp
 · rw [e]; simp
def c6q (r : Nat) (q p : List Int) (w : World) (e : Ending) (w' : World) : Prop:=
 ∃ Am cm Ap cp,e = .returned (.tuple #[.agg #[.int .i64 r,.bool true,.slice Am 1 cm],.slice Ap p.length cp,.int .i64 0]) /\ kq.R 84 w' w.heap.size (λ _=>True) (.slice Am 1 cm) [q] /\ (Kd.int .u8).R 5 w' w.heap.size (λ _=>True) (.slice Ap p.length cp) p /\ Below w.heap.size w w'
theorem c6r (A : Option Addr) (c : Nat) (ps : List Int) {r : Nat} {q p : List Int} (w : World) (hr : (Kd.int .u8).C w A ps.length ps) (hps : Bytes ps) (hl : ps.length <= 1000000) (hc : ps.length <= c) (hnil : A = none -> c = 0) (h : a0v ps = (0,r,q,p)) :
    Calls Tryz.prog 182 #[.slice A ps.length c] w (c6q r q p w):=by
 refine (b6a A c ps w hr hps hl hc hnil).mono ?_
 intro e w' hp
 unfold b0h at hp
 rw [h] at hp
 obtain ⟨vm,vp,rfl,hm,hv⟩:=hp.1 rfl
 obtain ⟨Am,cm,rfl⟩:=Kd.R_slice hm
 obtain ⟨Ap,cp,rfl⟩:=Kd.R_slice hv
 exact ⟨Am,cm,Ap,cp,rfl,hm,hv,hp.2.2⟩
theorem c6s (A : Option Addr) (c : Nat) (ps : List Int) {k : Int} (w : World) (hr : (Kd.int .u8).C w A ps.length ps) (hps : Bytes ps) (hl : ps.length <= 1000000) (hc : ps.length <= c) (hnil : A = none -> c = 0) (h : (a0v ps).1 = k) (hk : k ≠ 0) :
    Calls Tryz.prog 182 #[.slice A ps.length c] w (λ e w'=>e = .returned (.tuple #[.agg #[.int .i64 0,.bool false,.slice none 0 0],.slice none 0 0,.int .i64 k]) /\ Below w.heap.size w w'):=by
 refine (b6a A c ps w hr hps hl hc hnil).mono ?_
 intro e w' hp
 unfold b0h at hp
 rw [h] at hp
 exact ⟨hp.2.1 hk,hp.2.2⟩
def dec0M (ps : List Int) (n : Int) : Int × List Int:=if (a0v ps).1 ≠ 0 then ((a0v ps).1,[]) else decM ((a0v ps).2.1 : Nat) true [(a0v ps).2.2.1] (a0v ps).2.2.2 n
set_option maxRecDepth 100000 in
set_option maxHeartbeats 1000000 in
theorem c6t (A : Option Addr) (c : Nat) (ps : List Int) (n : Int) (w : World) (hr : (Kd.int .u8).C w A ps.length ps) (hps : Bytes ps) (hl : ps.length <= 1000000) (hc : ps.length <= c) (hnil : A = none -> c = 0) :
    Calls Tryz.prog 131 #[.slice A ps.length c,.int .i64 n] w (ReadPost (dec0M ps n) w):=by
 obtain ⟨k,r,q,p,hS⟩ : ∃ k r q p,a0v ps = (k,r,q,p):=⟨_,_,_,_,rfl⟩
 have hpb:=b0j hps
 have hpl:=c6p ps
 rw [hS] at hpb hpl
 by_cases hk : k = 0
 · subst hk
   have HD : Hid (dec0M ps n = decM (r : Nat) true [q] p n):=by show _ = _; unfold dec0M; rw [hS,if_neg (λ h=>h rfl)]
   have HS:=Lib.hid (c6r A c ps w hr hps hl hc hnil hS)
   have HP:=Lib.hid (And.intro hpb (Nat.le_trans hpl hl))
   rw [HD.out]
   clear hr hps hl hc hnil hS hpb hpl
   go_enter Tryz.func131,Tryz.ntmps131
   go_wp2_with fail
   refine HS.out.mono ?_
   rintro e w1 ⟨Am,cm,Ap,cp,rfl,hm,hv,hb1⟩
   obtain ⟨w2,hw2⟩ : ∃ w2,w2 = w1.alloc (.cells #[.int .i64 r,.bool true,.slice Am 1 cm] 26):=⟨_,rfl⟩
   have hb2 : Below w1.heap.size w1 w2:=by rw [hw2]; exact (Below.refl _ _).alloc (Nat.le_refl _) _
   have HB2:=Lib.hid (hb1.trans (hb2.mono hb1.size))
   have HM:=Lib.hid (Kd.C_below (Kd.R_reads' hm).2.2 hb2)
   have HV:=Lib.hid (Kd.C_below (Kd.R_reads' hv).2.2 hb2)
   clear hm hv hb1 hb2
   go_wp2_with fail
   rw [<- hw2]
   clear hw2
   refine (b4a r true Am cm [q] Ap cp p n w2 HM.out (by simp) HV.out HP.out.1 HP.out.2).mono ?_
   rintro e w3 ⟨⟨v,rfl,hv⟩,hb3⟩
   have H3:=Lib.hid (And.intro hv hb3)
   clear hv hb3
   go_wp2_with fail
   go_ret2
   exact ⟨⟨v,rfl,Kd.R_lower H3.out.1 HB2.out.size⟩,HB2.out.trans (H3.out.2.mono HB2.out.size)⟩
 · have HD : Hid (dec0M ps n = (k,[])):=by show _ = _; unfold dec0M; rw [hS,if_pos hk]
   have HS:=Lib.hid (c6s A c ps w hr hps hl hc hnil (by rw [hS]) hk)
   have hkb : (k == 0) = false:=beq_eq_false_iff_ne.2 hk
   have hkn : (k != 0) = true:=by simp [hk]
   rw [HD.out]
   clear hr hps hl hc hnil hS hpb hpl
   go_enter Tryz.func131,Tryz.ntmps131
   go_wp2_with fail
   refine HS.out.mono ?_
   rintro e w1 ⟨rfl,hb1⟩
   have HB1:=Lib.hid hb1
   clear hb1
   go_wp2_with fail
   go_ret2
   exact ⟨⟨_,rfl,Kd.R_nil _ _ _ _ _⟩,HB1.out.alloc HB1.out.size _⟩
def Told (k : Int) (y : List Int) (w : World) (e : Ending) (w' : World) : Prop:=
 ∃ A c,e = .returned (.tuple #[.slice A y.length c,.int .i64 k]) /\ (Kd.int .u8).R 5 w' w.heap.size (λ _=>True) (.slice A y.length c) y /\ Below w.heap.size w w'
theorem ReadPost.told {k : Int} {y : List Int} {w : World} {e : Ending} {w' : World} (h : ReadPost (k,y) w e w') : Told k y w e w':=by
 obtain ⟨⟨v,rfl,hv⟩,hb⟩:=h
 obtain ⟨A,c,rfl⟩:=Kd.R_slice hv
 exact ⟨A,c,rfl,hv,hb⟩
theorem c6u (A : Option Addr) (c : Nat) (ps : List Int) (n : Int) {k : Int} {y : List Int} (w : World) (hr : (Kd.int .u8).C w A ps.length ps) (hps : Bytes ps) (hl : ps.length <= 1000000) (hc : ps.length <= c) (hnil : A = none -> c = 0) (h : dec0M ps n = (k,y)) :
    Calls Tryz.prog 131 #[.slice A ps.length c,.int .i64 n] w (Told k y w):=by
 have:=c6t A c ps n w hr hps hl hc hnil
 rw [h] at this
 exact this.mono λ e w' hp=>hp.told
theorem c6v (A : Option Addr) (cp : Nat) (b : List Int) (w : World) (hr : (Kd.int .u8).C w A b.length b) (hb : Bytes b) (hl : b.length <= 40000) (h0 : 0 < b.length) :
    Calls Tryz.prog 130 #[.slice A b.length cp] w (Told 0 (a1q b) w):=by
 refine (b6d A cp b w hr hb hl).mono ?_
 rintro e w' (⟨h,_⟩ | ⟨_,v,rfl,hv,hbl⟩)
 · omega
 · obtain ⟨A1,c1,rfl⟩:=Kd.R_slice hv
   exact ⟨A1,c1,rfl,hv,hbl⟩
theorem c6w {b : List Int} (hb : Bytes b) (hl : b.length <= 40000) (h0 : 0 < b.length) : a0v (a1q b) = (0,zeroR b,zeroQ b,packB (a0Z (zeroR b : Nat) true [zeroQ b] b ++ [true])):=by
 have hn:=a7N hb (by omega) h0
 have hz:=a4p b
 exact c5f (by omega) (by omega) hn.len hn.nn (by rw [hn.sum])
theorem c6x {b : List Int} (hb : Bytes b) (hl : b.length <= 40000) (h0 : 0 < b.length) : dec0M (a1q b) b.length = (0,b):=by
 unfold dec0M
 rw [c6w hb hl h0,if_neg (λ h=>h rfl)]
 have hc : canM (zeroR b : Nat) true [zeroQ b] b = true:=a5f (one:=true) hb (by omega) h0
 dsimp only
 exact b4o hc hb
theorem c6y (b : List Int) : Bytes (a1q b):=λ x hx=>by
 unfold a1q at hx
 rcases List.mem_append.1 hx with h | h
 · exact a4S _ x h
 · exact a4S _ x h
theorem b6e {b : List Int} (hb : Bytes b) (hl : b.length <= 40000) (h0 : 0 < b.length) : 0 < (a1q b).length /\ (a1q b).length <= 710000:=by
 have hn:=a7N hb (by omega) h0
 have HCan : canM (zeroR b : Nat) true [zeroQ b] b = true:=a5f (one:=true) hb (by omega) h0
 have hF:=a5N (a5O HCan).1 hb
 have e2 : (2 : Int) ^ zeroR b = ((2 ^ zeroR b : Nat) : Int):=by simp
 have h1:=a5g hn.r12 hn.len hn.nn 257 0 (2 ^ zeroR b) (by omega) (by rw [List.drop_zero,hn.sum,e2]) (by rw [Nat.pow_succ]; have:=Nat.two_pow_pos (zeroR b); omega)
 have h2 : (256 - 0) * (zeroR b + 3) <= 256 * 15:=Nat.mul_le_mul (by omega) (by have:=hn.r12; omega)
 unfold a1q
 rw [List.length_append,a0x,a0x]
 unfold headB
 rw [List.length_append,a0J,List.length_append,List.length_singleton]
 omega
set_option maxRecDepth 100000 in
theorem b6f (A B : Option Addr) (ca cb : Nat) (a b : List Int) (w : World) (ha : (Kd.int .u8).C w A a.length a) (hb : (Kd.int .u8).C w B b.length b) (hya : Bytes a) (hyb : Bytes b) :
    Calls Tryz.prog 26 #[.slice A a.length ca,.slice B b.length cb] w λ e w'=>e = .returned (.bool (decide (a = b))) /\ w = w':=by
 have h1:=Kd.C_string (P:=Tryz.prog) (c:=ca) Tryz.underlying22 Tryz.underlying5 Tryz.underlying9 ha
 have h2:=Kd.C_string (P:=Tryz.prog) (c:=cb) Tryz.underlying22 Tryz.underlying5 Tryz.underlying9 hb
 rw [<- b5m hya hyb]
 obtain ⟨x,hx⟩ : ∃ x,x = strOfNums a:=⟨_,rfl⟩
 obtain ⟨y,hy⟩ : ∃ y,y = strOfNums b:=⟨_,rfl⟩
 rw [<- hx] at h1 ⊢
 rw [<- hy] at h2 ⊢
 clear hx hy ha hb hya hyb
 go_enter Tryz.func26,Tryz.ntmps26
 go_wp2_with fail
 go_ret
 exact ⟨rfl,rfl⟩
theorem a4q (A B : Option Addr) (ca cb : Nat) (p : List Int) (w : World) (ha : (Kd.int .u8).C w A p.length p) (hb : (Kd.int .u8).C w B p.length p) (hp : Bytes p) : Calls Tryz.prog 26 #[.slice A p.length ca,.slice B p.length cb] w (λ e w'=>e = .returned (.bool true) /\ w = w'):=by
 have:=b6f A B ca cb p p w ha hb hp hp
 rw [decide_eq_true rfl] at this; exact this
theorem b6g {one : Bool} {qs : List (List Int)} {ps : List Int} : ∀ (n i : Nat) (la x0 x1 : Int) (left : Nat) (out : List Int),(decGo one qs ps n i la x0 x1 left out).1 ≠ 0 -> (decGo one qs ps n i la x0 x1 left out).2 = []
 | 0,i,la,x0,x1,left,out=>by
  simp only [decGo]; split
  · intro h; exact absurd rfl h
  · intro _; rfl
 | n + 1,i,la,x0,x1,left,out=>by
  simp only [decGo]; split
  · intro _; rfl
  · split
    · intro _; rfl
    · exact b6g n (i + 1) _ _ _ _ _
theorem b0k {lg : Int} {one : Bool} {qs : List (List Int)} {ps : List Int} {n : Int} (h : (decM lg one qs ps n).1 ≠ 0) : (decM lg one qs ps n).2 = []:=by
 revert h
 unfold decM
 split
 · intro _; rfl
 · split
   · intro _; rfl
   · split
     · intro _; rfl
     · exact b6g _ _ _ _ _ _ _
structure BSl (w : World) (A : Option Addr) (c : Nat) (p : List Int) : Prop where
 row : (Kd.int .u8).C w A p.length p
 cap : p.length <= c
 nil : A = none -> c = 0
 by' : Bytes p
theorem BSl.below {w w' : World} {A : Option Addr} {c : Nat} {p : List Int} (h : BSl w A c p) (hb : Below w.heap.size w w') : BSl w' A c p:=⟨Kd.C_below h.row hb,h.cap,h.nil,h.by'⟩
theorem BSl.of {w : World} {A : Option Addr} {c n base : Nat} {p : List Int} {ok : Nat -> Prop} (h : (Kd.int .u8).R 5 w base ok (.slice A n c) p) (hp : Bytes p) : BSl w A c p:=by
 obtain ⟨e,h2,h3⟩:=Kd.R_reads' h
 refine ⟨h3,by omega,λ ha=>?_,hp⟩
 obtain ⟨_,inner,⟨_,ho⟩,_⟩:=h
 rcases ho with ⟨h4,_⟩ | ⟨g,cap,cur,h4,_⟩
 · cases h4; rfl
 · rw [ha] at h4; cases h4
theorem Told.out {k : Int} {y : List Int} {w : World} {e : Ending} {w' : World} (h : Told k y w e w') (hy : Bytes y) : ∃ A c,e = .returned (.tuple #[.slice A y.length c,.int .i64 k]) /\ BSl w' A c y /\ Below w.heap.size w w':=by
 obtain ⟨A,c,he,hr,hb⟩:=h
 exact ⟨A,c,he,BSl.of hr hy,hb⟩
theorem BSl.str {w : World} {A : Option Addr} {c : Nat} {p : List Int} (h : BSl w A c p) : (convert 22 9 (.slice A p.length c)).run Tryz.prog w = .ok (.string (strOfNums p)) w:=
 Kd.C_string Tryz.underlying22 Tryz.underlying5 Tryz.underlying9 h.row
def tabN (i : Nat) : List Nat:=(List.range 256).map (λ j=>if j < i then a2D j else 0)
theorem b0l (i : Nat) : (tabN i).length = 256:=by simp [tabN]
theorem c6D {i j : Nat} (h : j < 256) : (tabN i).getD j 0 = if j < i then a2D j else 0:=by
 unfold tabN
 rw [List.getD_eq_getElem?_getD,List.getElem?_map,List.getElem?_range h]; rfl
theorem c6E {i : Nat} : (tabN i).set i (a2D i) = tabN (i + 1):=by
 apply List.ext_getElem?
 intro j
 rw [List.getElem?_set,b0l]
 unfold tabN
 rw [List.getElem?_map,List.getElem?_map]
 by_cases hj : j < 256
 · rw [List.getElem?_range hj]
   by_cases e : i = j
   · subst e; rw [if_pos rfl,if_pos hj]; simp
   · rw [if_neg e]
     simp only [Option.map_some]
     by_cases h1 : j < i
     · rw [if_pos h1,if_pos (by omega)]
     · rw [if_neg h1,if_neg (by omega)]
 · have hn : (List.range 256)[j]? = none:=List.getElem?_eq_none (by simp; omega)
   rw [hn]
   by_cases e : i = j
   · subst e; rw [if_pos rfl,if_neg hj]; rfl
   · rw [if_neg e]; rfl
def TabAt (p i : Nat) (w : World) : Prop:=w.heap[p]? = some (.cells ((tabN i).map (λ (n : Nat)=>Value.int .u32 (n : Int))).toArray 175 (0,0))
theorem TabAt.cell {p i : Nat} {w : World} (h : TabAt p i w) {c : Nat} (hc : c < 256) : w.cell? ⟨p,c,none⟩ = some (.int .u32 ((if c < i then a2D c else 0 : Nat) : Int)) /\ w.frozen? ⟨p,c,none⟩ = false:=by
 refine ⟨(a0a h c).trans ?_,a0e h c⟩
 have hg:=c6D (i:=i) hc
 rw [List.getD_eq_getElem?_getD] at hg
 rw [List.getElem?_toArray,List.getElem?_map,List.getElem?_eq_getElem (by rw [b0l]; exact hc)]
 rw [List.getElem?_eq_getElem (by rw [b0l]; exact hc),Option.getD_some] at hg
 rw [Option.map_some,hg]
theorem TabAt.next {p i : Nat} {w : World} (h : TabAt p i w) : TabAt p (i + 1) (w.setCell ⟨p,i,none⟩ (.int .u32 (a2D i : Nat))):=by
 unfold TabAt at h ⊢
 rw [a0n h i,<- c6E]
 congr 2
 rw [List.map_set]; simp
theorem c6F : Tryz.zeroCells175 = ((tabN 0).map (λ (n : Nat)=>Value.int .u32 (n : Int))).toArray:=by kernel_rfl
theorem c6G {x : Nat} (h : x < 4294967296) : bits .xor .u32 ((x : Int) / 2) (IntKind.u32.wrap (3988292384 * bits .and .u32 (x : Int) 1)) = ((a1H x : Nat) : Int):=by
 have h1 : bits .and .u32 (x : Int) 1 = ((x % 2 : Nat) : Int):=by
  have:=u32_and_nat x 1 h (by decide)
  rw [nat_mask1] at this
  exact this
 have h2 : x % 2 < 2:=Nat.mod_lt _ (by decide)
 have h3 : IntKind.u32.wrap (3988292384 * ((x % 2 : Nat) : Int)) = ((3988292384 * (x % 2) : Nat) : Int):=by
  rw [IntKind.wrap_u32']; omega
 rw [h1,h3,show (x : Int) / 2 = ((x / 2 : Nat) : Int) by omega]
 exact u32_xor_nat _ _ (by omega) (by omega)
theorem b6h {n : Nat} (h : n < 4294967296) : bits .xor .u32 IntKind.u32.max (n : Int) = ((4294967295 - n : Nat) : Int):=by
 have h1 : bits .xor .u32 IntKind.u32.max (n : Int) = ((4294967295 ^^^ n : Nat) : Int):=u32_xor_nat 4294967295 n (by decide) h
 have h2 : 4294967295 ^^^ n = 4294967295 - n:=by
  apply Nat.eq_of_testBit_eq
  intro i
  rw [Nat.testBit_xor,show 4294967295 - n = 2 ^ 32 - (n + 1) by omega,Nat.testBit_two_pow_sub_succ h,show (4294967295 : Nat) = 2 ^ 32 - 1 from rfl,Nat.testBit_two_pow_sub_one]
  cases hi : decide (i < 32) with
  | true=>simp
  | false=>
   have hi2:=of_decide_eq_false hi
   have : n.testBit i = false:=Nat.testBit_lt_two_pow (Nat.lt_of_lt_of_le h (Nat.pow_le_pow_right (by decide : 2 > 0) (by omega : 32 <= i)))
   simp [this]
 rw [h2] at h1; exact h1
theorem b6i (k i : Nat) : stepN (k + 1) i = a1H (stepN k i):=by rw [a4V]; rfl
def c6H (w : World) (e : Ending) (w' : World) : Prop:=∃ p,e = .returned (.pointer (some ⟨p,0,none⟩)) /\ w.heap.size <= p /\ TabAt p 256 w' /\ Below w.heap.size w w'
set_option maxRecDepth 100000 in
set_option maxHeartbeats 1000000 in
theorem a4r (w : World) : Calls Tryz.prog 85 #[] w (c6H w):=by
 obtain ⟨W,hW⟩ : ∃ W,W = w.alloc (.cells Tryz.zeroCells175 175):=⟨_,rfl⟩
 have hk : TabAt w.heap.size 0 W:=by unfold TabAt; rw [hW,<- c6F]; exact a0k _ _
 have hb : Below w.heap.size w W:=by rw [hW]; exact (Below.refl _ _).alloc (Nat.le_refl _) _
 have HK:=Lib.hid (And.intro hk hb)
 obtain ⟨p,hp⟩ : ∃ p,p = w.heap.size:=⟨_,rfl⟩
 have HP:=Lib.hid hp
 rw [<- hp] at HK
 clear hk hb
 go_enter Tryz.func85,Tryz.ntmps85
 go_wp2_with fail
 rw [<- hW,<- hp]
 clear hW hp
 go_wp2_with fail
 go_loopw [2,3,6] (λ _ _ kv wr=>∃ i : Nat,i <= 256 /\ kv = .int .i64 i /\ Hid (TabAt p i wr /\ Below p w wr)) (λ _ _ kv _=>256 - (intOf kv).toNat)
 case atStart=>exact ⟨0,by omega,rfl,HK⟩
 case round=>
  obtain ⟨i,hi,rfl,H⟩:=hrel
  by_cases hlt : i < 256
  · obtain ⟨cx,fx⟩:=H.out.1.cell hlt
    have hiI : (i : Int) < 256:=by omega
    have hiw : IntKind.u32.wrap (i : Int) = (i : Int):=by rw [IntKind.wrap_u32']; omega
    go_wp2_with fail
    go_loop [3,11] (λ xv kv=>∃ k : Nat,k <= 8 /\ xv = .int .u32 (stepN k i : Nat) /\ kv = .int .i64 k) (λ _ kv=>8 - (intOf kv).toNat)
    case atStart=>exact ⟨0,by omega,rfl,rfl⟩
    case round=>
     obtain ⟨k,hk,rfl,rfl⟩:=hrel
     by_cases hlk : k < 8
     · have hlkI : (k : Int) < 8:=by omega
       have HX:=Lib.hid (a5R k (x:=i) (by omega))
       have HE:=Lib.hid (b6i k i)
       obtain ⟨x,hx⟩ : ∃ x,x = stepN k i:=⟨_,rfl⟩
       rw [<- hx] at HX HE ⊢
       have HV:=Lib.hid (c6G (x:=x) HX.out)
       clear hx
       go_wp2_with fail
       go_round
       case rel=>exact ⟨k + 1,by omega,by rw [HE.out]; exact congrArg _ HV.out,by go_num⟩
       case measure=>simp [intOf]; omega
     · obtain rfl : k = 8:=by omega
       have HT:=Lib.hid H.out.1.next
       obtain ⟨x,hx⟩ : ∃ x,x = stepN 8 i:=⟨_,rfl⟩
       have hx2 : a2D i = x:=hx.symm
       rw [hx2] at HT
       rw [<- hx]
       clear hx hx2
       go_wp2_with fail
       go_roundw
       case rel=>exact ⟨i + 1,by omega,by go_num,Lib.hid ⟨HT.out,H.out.2.setCell (Nat.le_refl _) _⟩⟩
       case measure=>simp [intOf]; omega
  · obtain rfl : i = 256:=by omega
    go_wp2_with fail
    go_ret
    exact ⟨p,rfl,by have:=HP.out; omega,H.out.1,by rw [<- HP.out]; exact H.out.2⟩
set_option maxRecDepth 100000 in
set_option maxHeartbeats 1000000 in
theorem b6j (p s : Nat) (A : Option Addr) (c : Nat) (b : List Int) (w : World) (hp : TabAt p 256 w) (hs : s <= 4294967295) (hr : (Kd.int .u8).C w A b.length b) (hl : b.length <= 1000000000000) (hb : Bytes b) :
    Calls Tryz.prog 134 #[.pointer (some ⟨p,0,none⟩),.int .u32 s,.slice A b.length c] w (λ e w'=>e = .returned (.int .u32 (a0I s b)) /\ w = w'):=by
 have HR:=Lib.hid (And.intro hr hb)
 have HP:=Lib.hid hp
 have HS:=Lib.hid hs
 have hn:=b6h (n:=s) (by omega)
 obtain ⟨x0,hx0⟩ : ∃ x,x = 4294967295 - s:=⟨_,rfl⟩
 rw [<- hx0] at hn
 have HX0:=Lib.hid hx0
 clear hr hb hp hs hx0
 go_enter Tryz.func134,Tryz.ntmps134
 go_wp2_with fail
 go_loop [7,9,14] (λ xv _ kv=>∃ i : Nat,i <= b.length /\ xv = .int .u32 (crcS x0 (b.take i) : Nat) /\ kv = .int .i64 i) (λ _ _ kv=>b.length - (intOf kv).toNat)
 case atStart=>exact ⟨0,by omega,rfl,rfl⟩
 case round=>
  obtain ⟨i,hi,rfl,rfl⟩:=hrel
  by_cases hlt : i < b.length
  · obtain ⟨ad,hA,hcx⟩:=a0w HR.out.1 i hlt
    subst hA
    have hby:=HR.out.2.get i
    have hE : b.take (i + 1) = b.take i ++ [b.getD i 0]:=by rw [List.take_succ_eq_append_getElem hlt,List.getD_eq_getElem?_getD,List.getElem?_eq_getElem hlt]; rfl
    have HE : Hid (crcS x0 (b.take (i + 1)) = a1B (crcS x0 (b.take i)) (b.getD i 0).toNat):=Lib.hid (by rw [hE,a7p]; rfl)
    have HXl:=Lib.hid (a3L (b.take i) (x:=x0) (by have:=HX0.out; omega) (λ y hy=>HR.out.2 y (List.mem_of_mem_take hy)))
    obtain ⟨y,hy⟩ : ∃ y : Nat,b.getD i 0 = y:=⟨(b.getD i 0).toNat,by omega⟩
    rw [hy] at hcx hby HE
    rw [Int.toNat_natCast] at HE
    have hy8 : y < 256:=by omega
    obtain ⟨x,hx⟩ : ∃ x,x = crcS x0 (b.take i):=⟨_,rfl⟩
    rw [<- hx] at HE HXl ⊢
    have hxl : x < 4294967296:=HXl.out
    have hm8 : x % 256 < 256:=Nat.mod_lt _ (by decide)
    have hj8 : (x % 256) ^^^ y < 256:=Nat.xor_lt_two_pow (n:=8) hm8 hy8
    obtain ⟨cj,fj⟩:=HP.out.cell hj8
    rw [if_pos hj8] at cj
    have hjx:=u8_xor_nat (x % 256) y hm8 hy8
    have ht:=a5R 8 (x:=(x % 256) ^^^ y) (by omega)
    have hfin:=u32_xor_nat (x / 256) (a2D ((x % 256) ^^^ y)) (by omega) ht
    have hu : a1B x y = x / 256 ^^^ a2D ((x % 256) ^^^ y):=rfl
    rw [<- hu] at hfin
    have hmw : IntKind.u8.wrap (x : Int) = ((x % 256 : Nat) : Int):=by rw [IntKind.wrap_u8']; omega
    have hdw : (x : Int) / 256 = ((x / 256 : Nat) : Int):=by omega
    obtain ⟨z,hz⟩ : ∃ z,z = a1B x y:=⟨_,rfl⟩
    obtain ⟨j,hj⟩ : ∃ j,j = (x % 256) ^^^ y:=⟨_,rfl⟩
    obtain ⟨t,htt⟩ : ∃ t,t = a2D j:=⟨_,rfl⟩
    rw [<- hj] at cj hj8 hjx hfin fj
    rw [<- htt] at cj hfin
    rw [<- hz] at hfin HE
    obtain ⟨m,hm⟩ : ∃ m,m = x % 256:=⟨_,rfl⟩
    obtain ⟨d,hd⟩ : ∃ d,d = x / 256:=⟨_,rfl⟩
    rw [<- hm] at hjx hmw hm8
    rw [<- hd] at hdw hfin
    have hiI : (i : Int) < (b.length : Int):=by omega
    have hjI : (j : Int) < 256:=by omega
    clear hby hE hy hx hu hz hj htt hm hd ht
    go_wp2_with fail
    go_round
    case rel=>exact ⟨i + 1,by omega,by rw [HE.out],by go_num⟩
    case measure=>simp [intOf]; omega
  · obtain rfl : i = b.length:=by omega
    rw [List.take_length]
    have HF:=Lib.hid (a3L b (x:=x0) (by have:=HX0.out; omega) HR.out.2)
    have HN:=Lib.hid (b6h (n:=crcS x0 b) HF.out)
    have HC : Hid (a0I s b = 4294967295 - crcS x0 b):=Lib.hid (by unfold a0I; rw [HX0.out])
    obtain ⟨x,hx⟩ : ∃ x,x = crcS x0 b:=⟨_,rfl⟩
    rw [<- hx] at HN HC ⊢
    clear hx hi hlt
    go_wp2_with fail
    go_ret
    refine ⟨?_,rfl⟩
    rw [HC.out,HN.out]; rfl
set_option maxRecDepth 100000 in
theorem a6a (p : Nat) (A : Option Addr) (c : Nat) (b : List Int) (w : World) (hp : TabAt p 256 w) (hr : (Kd.int .u8).C w A b.length b) (hl : b.length <= 1000000000000) (hb : Bytes b) :
    Calls Tryz.prog 86 #[.pointer (some ⟨p,0,none⟩),.slice A b.length c] w (λ e w'=>e = .returned (.int .u32 (a0I 0 b)) /\ w = w'):=by
 have H:=Lib.hid (b6j p 0 A c b w hp (by decide) hr hl hb)
 clear hp hr hl hb
 go_enter Tryz.func86,Tryz.ntmps86
 go_wp2_with fail
 refine H.out.mono ?_
 rintro e w' ⟨rfl,rfl⟩
 go_wp2_with fail
 go_ret
 exact ⟨rfl,rfl⟩
theorem TabAt.later {p i : Nat} {w w' : World} (h : TabAt p i w) (hb : Below w.heap.size w w') : TabAt p i w':=a0g h hb
end Go.Proofs.YtflfjpkmjnnodaaGreat
namespace Go.Proofs.YtflfjpkmjnnodaaGreat
open Go.RowKit
def dirB (l : List Int) : List Bool:=(List.range 256).map (λ (c : Nat)=>decide ((c : Int) ∈ l))
def dirL (l : List Int) : List Int:=packB (dirB l)
theorem a3M (l : List Int) : (dirB l).length = 256:=by simp [dirB]
theorem a4s (l : List Int) : (dirL l).length = 32:=by unfold dirL; rw [a0x,a3M]
def onesN (ps : List Int) (k : Nat) : List Int:=((List.range k).filter (λ (c : Nat)=>decide (bitI ps c = 1))).map (λ (c : Nat)=>(c : Int))
theorem a6b (ps : List Int) (k : Nat) : onesN ps (k + 1) = if bitI ps k = 1 then onesN ps k ++ [(k : Int)] else onesN ps k:=by
 unfold onesN; rw [List.range_succ,List.filter_append,List.map_append]
 by_cases h : bitI ps k = 1
 · rw [if_pos h]; congr 1; simp only [List.filter_cons,List.filter_nil,h,decide_true]; rfl
 · rw [if_neg h]; simp only [List.filter_cons,List.filter_nil,h,decide_false]; simp
theorem b6k (ps : List Int) (k : Nat) : (onesN ps k).length <= k:=by
 unfold onesN; rw [List.length_map]; exact Nat.le_trans (List.length_filter_le _ _) (by simp)
theorem b6l {ps : List Int} {k : Nat} {x : Int} (h : x ∈ onesN ps k) : ∃ c : Nat,x = c /\ c < k /\ bitI ps c = 1:=by
 unfold onesN at h
 obtain ⟨c,hc,rfl⟩:=List.mem_map.1 h
 obtain ⟨h1,h2⟩:=List.mem_filter.1 hc
 exact ⟨c,rfl,List.mem_range.1 h1,of_decide_eq_true h2⟩
def dirT (ps : List Int) : Int × List Int:=if ps.length < 32 then (3,[]) else if (onesN ps 256).getD 0 1 ≠ 0 then (13,[]) else (0,onesN ps 256)
def hdrsB (r : Nat) (qs : List (List Int)) : List Int -> List Bool
 | []=>[]
 | c :: l=>hdrB (qs.getD c.toNat []) 257 0 (2 ^ r) ++ hdrsB r qs l
def hdrsT (ps : List Int) (r : Nat) : List Int -> List (List Int) -> Nat -> Int × List (List Int) × Nat
 | [],qs,at_=>(0,qs,at_)
 | c :: l,qs,at_=>if (hdrT ps (8 * ps.length) 257 a0z 0 (2 ^ r) false at_).1 ≠ 0 then ((hdrT ps (8 * ps.length) 257 a0z 0 (2 ^ r) false at_).1,qs,at_) else
  hdrsT ps r l (qs.set c.toNat (hdrT ps (8 * ps.length) 257 a0z 0 (2 ^ r) false at_).2.1) (hdrT ps (8 * ps.length) 257 a0z 0 (2 ^ r) false at_).2.2
def a2G : List (List Int):=List.replicate 256 []
def a0A (ps : List Int) : Int × Nat × List (List Int) × List Int:=
 if ps.length = 0 then (3,0,[],[]) else if (ps.getD 0 0).toNat < 5 \/ 9 < (ps.getD 0 0).toNat then (13,0,[],[]) else
 if (dirT (ps.drop 1)).1 ≠ 0 then ((dirT (ps.drop 1)).1,0,[],[]) else
 if (hdrsT (ps.drop 33) (ps.getD 0 0).toNat (dirT (ps.drop 1)).2 a2G 0).1 ≠ 0 then ((hdrsT (ps.drop 33) (ps.getD 0 0).toNat (dirT (ps.drop 1)).2 a2G 0).1,0,[],[]) else
 if (hdrsT (ps.drop 33) (ps.getD 0 0).toNat (dirT (ps.drop 1)).2 a2G 0).2.2 % 8 ≠ 0 /\ ((ps.drop 33).getD ((hdrsT (ps.drop 33) (ps.getD 0 0).toNat (dirT (ps.drop 1)).2 a2G 0).2.2 / 8) 0).toNat / 2 ^ ((hdrsT (ps.drop 33) (ps.getD 0 0).toNat (dirT (ps.drop 1)).2 a2G 0).2.2 % 8) ≠ 0 then (4,0,[],[]) else
 (0,(ps.getD 0 0).toNat,(hdrsT (ps.drop 33) (ps.getD 0 0).toNat (dirT (ps.drop 1)).2 a2G 0).2.1,(ps.drop 33).drop (((hdrsT (ps.drop 33) (ps.getD 0 0).toNat (dirT (ps.drop 1)).2 a2G 0).2.2 + 7) / 8))
def a1m (b : List Int) : List Int:=[(a0r b : Int)] ++ dirL (presN b 256) ++ packB (hdrsB (a0r b) (a0y b) (presN b 256)) ++ packB (a0Z (a0r b : Nat) false (a0y b) b ++ [true])
theorem b0m (b : List Int) (c : Nat) (hc : c < 256) : (c : Int) ∈ presN b 256 ↔ 0 < (a0p b (c : Int)).length:=by
 unfold presN
 constructor
 · intro h
   obtain ⟨d,hd,e⟩:=List.mem_map.1 h
   obtain ⟨_,h2⟩:=List.mem_filter.1 hd
   have : d = c:=by omega
   subst this; exact of_decide_eq_true h2
 · intro h
   exact List.mem_map.2 ⟨c,List.mem_filter.2 ⟨List.mem_range.2 hc,by simpa using h⟩,rfl⟩
theorem c6I (l p : List Int) : ∀ k,k <= 256 -> onesN (dirL l ++ p) k = ((List.range k).filter (λ (c : Nat)=>decide ((c : Int) ∈ l))).map (λ (c : Nat)=>(c : Int)):=by
 intro k hk
 unfold onesN
 congr 1
 refine List.filter_congr (λ c hc=>?_)
 have hc':=List.mem_range.1 hc
 have h1:=a9P (dirB l) p c (by rw [a3M]; omega)
 rw [Nat.zero_add] at h1
 have h1' : bitI (dirL l ++ p) c = ((dirB l).getD c false).toNat:=h1
 rw [h1']
 have h2 : (dirB l).getD c false = decide ((c : Int) ∈ l):=by
  rw [List.getD_eq_getElem?_getD,List.getElem?_eq_getElem (by rw [a3M]; omega),Option.getD_some]
  simp [dirB]
 rw [h2]
 by_cases h : (c : Int) ∈ l
 · rw [decide_eq_true h]; rfl
 · rw [decide_eq_false h]; rfl
theorem b6m {b : List Int} (h0 : 0 < b.length) : (presN b 256).getD 0 1 = 0:=by
 have h1 : (0 : Int) ∈ presN b 256:=(b0m b 0 (by omega)).2 (by
  refine List.length_pos_iff_exists_mem.2 ⟨b.getD 0 0,?_⟩
  unfold a0p pkL
  exact List.mem_map.2 ⟨0,List.mem_filter.2 ⟨List.mem_range.2 h0,decide_eq_true (a7k b h0)⟩,rfl⟩)
 have h2 : presN b 256 = ((List.range 256).filter (λ (c : Nat)=>decide (0 < (a0p b (c : Int)).length))).map (λ (c : Nat)=>(c : Int)):=rfl
 have h3 : 0 < (a0p b ((0 : Nat) : Int)).length:=(b0m b 0 (by omega)).1 h1
 have h4 : List.range 256 = 0 :: (List.range 255).map Nat.succ:=List.range_succ_eq_map
 rw [h2,h4,List.filter_cons,if_pos (by simpa using h3)]
 rfl
theorem c6J {b p : List Int} (h0 : 0 < b.length) : dirT (dirL (presN b 256) ++ p) = (0,presN b 256):=by
 have h1 : onesN (dirL (presN b 256) ++ p) 256 = presN b 256:=by
  rw [c6I _ _ _ (Nat.le_refl _)]
  have h2 : presN b 256 = ((List.range 256).filter (λ (c : Nat)=>decide (0 < (a0p b (c : Int)).length))).map (λ (c : Nat)=>(c : Int)):=rfl
  conv=>rhs; rw [h2]
  congr 1
  refine List.filter_congr (λ c hc=>?_)
  have:=b0m b c (List.mem_range.1 hc)
  by_cases h : 0 < (a0p b (c : Int)).length
  · rw [decide_eq_true h,decide_eq_true (this.2 h)]
  · rw [decide_eq_false h,decide_eq_false (λ x=>h (this.1 x))]
 unfold dirT
 rw [if_neg (by rw [List.length_append,a4s]; omega),h1,if_neg (λ h=>h (b6m h0))]
theorem b0n {b : List Int} (hb : Bytes b) (hl : b.length <= 1000000) {c : Nat} (hc : c < 256) (h0 : 0 < (a0p b (c : Int)).length) : (a1i b c).length = 256 /\ (∀ x ∈ a1i b c,0 <= x) /\ (a1i b c).sum = 2 ^ a0r b:=by
 have h:=a5e (a5W hb hl hc h0)
 unfold a1i; rw [if_pos h0]
 exact ⟨h.1.len,h.1.nonneg,h.2.1⟩
theorem c6K {ps q : List Int} {r at_ : Nat} (hr : r <= 12) (hq : q.length = 256) (hn : ∀ x ∈ q,0 <= x) (hs : q.sum = 2 ^ r) (hb : BitsAt ps at_ (hdrB q 257 0 (2 ^ r))) (hl : at_ + (hdrB q 257 0 (2 ^ r)).length <= 8 * ps.length) : hdrT ps (8 * ps.length) 257 a0z 0 (2 ^ r) false at_ = (0,q,at_ + (hdrB q 257 0 (2 ^ r)).length):=by
 have hp12 : 2 ^ r <= 2 ^ 12:=Nat.pow_le_pow_right (by omega) hr
 have e2 : (2 : Int) ^ r = ((2 ^ r : Nat) : Int):=by simp
 refine b4p hq hn 257 0 (2 ^ r) at_ a0z false (by omega) (by omega) (by rw [List.drop_zero,hs,e2]) (by omega) (λ h=>by cases h) (by unfold a0z; exact List.length_replicate) (λ k hk=>by omega) (λ k _=>?_) hb hl
 unfold a0z; rw [List.getD_eq_getElem?_getD,List.getElem?_replicate]; split <;> rfl
theorem c6L {b ps : List Int} (hb : Bytes b) (hl : b.length <= 1000000) : ∀ (d i at_ : Nat),i + d = (presN b 256).length -> BitsAt ps at_ (hdrsB (a0r b) (a0y b) ((presN b 256).drop i)) -> at_ + (hdrsB (a0r b) (a0y b) ((presN b 256).drop i)).length <= 8 * ps.length ->
    hdrsT ps (a0r b) ((presN b 256).drop i) (a3r b i) at_ = (0,a0y b,at_ + (hdrsB (a0r b) (a0y b) ((presN b 256).drop i)).length):=by
 intro d
 induction d with
 | zero=>
  intro i at_ hi _ _
  rw [List.drop_of_length_le (by omega),show i = (presN b 256).length by omega]
  simp only [hdrsT,hdrsB,List.length_nil,Nat.add_zero]
  rw [b5j]
 | succ d ih=>
  intro i at_ hi hB hL
  have hlt : i < (presN b 256).length:=by omega
  obtain ⟨c,hc,hc256,hpk⟩:=a7G b hlt
  have hr:=a2W b
  have hd : (presN b 256).drop i = (c : Int) :: (presN b 256).drop (i + 1):=by rw [a4T _ _ hlt,hc]
  have hq : (a0y b).getD c [] = a1i b c:=a7B b hc256
  obtain ⟨n1,n2,n3⟩:=b0n hb hl hc256 hpk
  rw [hd] at hB hL ⊢
  simp only [hdrsB,Int.toNat_natCast,hq] at hB hL ⊢
  rw [List.length_append] at hL ⊢
  have hh:=c6K (by omega) n1 n2 n3 hB.left (by omega)
  simp only [hdrsT,hh]
  rw [if_neg (λ h=>h rfl),Int.toNat_natCast,b5i b hlt hc]
  have:=ih (i + 1) (at_ + (hdrB (a1i b c) 257 0 (2 ^ a0r b)).length) (by omega) hB.right (by omega)
  rw [this,Nat.add_assoc]
theorem c6M {b : List Int} (hb : Bytes b) (hl : b.length <= 1000000) (h0 : 0 < b.length) : a0A (a1m b) = (0,a0r b,a0y b,packB (a0Z (a0r b : Nat) false (a0y b) b ++ [true])):=by
 obtain ⟨p,hp⟩ : ∃ p,p = packB (a0Z (a0r b : Nat) false (a0y b) b ++ [true]):=⟨_,rfl⟩
 obtain ⟨X,hX⟩ : ∃ X,X = hdrsB (a0r b) (a0y b) (presN b 256):=⟨_,rfl⟩
 have e1 : a1m b = (a0r b : Int) :: (dirL (presN b 256) ++ (packB X ++ p)):=by
  unfold a1m; rw [<- hp,<- hX]; simp
 have hr:=a2W b
 have e2 : (a1m b).getD 0 0 = a0r b:=by rw [e1]; rfl
 have e3 : (a1m b).drop 1 = dirL (presN b 256) ++ (packB X ++ p):=by rw [e1]; rfl
 have e4 : (a1m b).drop 33 = packB X ++ p:=by
  rw [show 33 = 1 + 32 from rfl,<- List.drop_drop,e3,List.drop_append_of_le_length (by rw [a4s]; exact Nat.le_refl _),List.drop_of_length_le (by rw [a4s]; exact Nat.le_refl _),List.nil_append]
 have hh:=c6L (ps:=packB X ++ p) hb hl (presN b 256).length 0 0 (by omega) (by rw [List.drop_zero,<- hX]; exact a9P X p) (by rw [List.drop_zero,<- hX,List.length_append,a0x]; omega)
 rw [List.drop_zero,b5h,<- hX,Nat.zero_add] at hh
 unfold a0A
 rw [if_neg (by rw [e1]; simp),e2,Int.toNat_natCast,if_neg (by omega),e3,c6J h0,e4]
 dsimp only
 rw [if_neg (λ h=>h rfl)]
 unfold a2G
 rw [hh]
 dsimp only
 rw [if_neg (λ h=>h rfl),if_neg (λ h=>h.2 (b5p _ p h.1))]
 rw [List.drop_append_of_le_length (by rw [a0x]; exact Nat.le_refl _),List.drop_of_length_le (by rw [a0x]; exact Nat.le_refl _),List.nil_append,<- hp]
def dec1M (ps : List Int) (n : Int) : Int × List Int:=if (a0A ps).1 ≠ 0 then ((a0A ps).1,[]) else decM ((a0A ps).2.1 : Nat) false (a0A ps).2.2.1 (a0A ps).2.2.2 n
def putN (l : List Int) : Nat -> Nat
 | 0=>0
 | i + 1=>(l.getD i 0).toNat + 1
structure Asc (l : List Int) : Prop where
 first : l.getD 0 1 = 0
 asc : ∀ i,i + 1 < l.length -> l.getD i 0 < l.getD (i + 1) 0
 lo : ∀ x ∈ l,0 <= x
 hi : ∀ x ∈ l,x < 256
theorem Asc.pos {l : List Int} (h : Asc l) : 0 < l.length:=by
 rcases Nat.eq_zero_or_pos l.length with e | e
 · have:=h.first
   rw [List.eq_nil_of_length_eq_zero e] at this; cases this
 · exact e
theorem Asc.zero {l : List Int} (h : Asc l) : l.getD 0 0 = 0:=by
 have h1:=h.first
 have h2:=h.pos
 rw [List.getD_eq_getElem?_getD,List.getElem?_eq_getElem h2,Option.getD_some] at h1 ⊢
 exact h1
theorem Asc.lt {l : List Int} (h : Asc l) : ∀ (d i : Nat),i + d + 1 < l.length -> l.getD i 0 < l.getD (i + d + 1) 0:=by
 intro d
 induction d with
 | zero=>intro i hi; exact h.asc i hi
 | succ d ih=>
  intro i hi
  have h1:=ih i (by omega)
  have h2:=h.asc (i + d + 1) (by omega)
  rw [show i + (d + 1) + 1 = i + d + 1 + 1 by omega]
  omega
theorem Asc.lt' {l : List Int} (h : Asc l) {i j : Nat} (hij : i < j) (hj : j < l.length) : l.getD i 0 < l.getD j 0:=by
 have:=h.lt (j - i - 1) i (by omega)
 rwa [show i + (j - i - 1) + 1 = j by omega] at this
theorem Asc.get {l : List Int} (h : Asc l) {i : Nat} (hi : i < l.length) : ∃ c : Nat,l.getD i 0 = c /\ c < 256:=by
 have hm:=a1A hi
 have h1:=h.lo _ hm
 have h2:=h.hi _ hm
 exact ⟨(l.getD i 0).toNat,by omega,by omega⟩
theorem Asc.put_le {l : List Int} (h : Asc l) {i c : Nat} (hi : i < l.length) (hc : l.getD i 0 = c) : putN l i <= c:=by
 cases i with
 | zero=>exact Nat.zero_le _
 | succ i=>
  have h1:=h.asc i hi
  have h2:=h.lo _ (a1A (show i < l.length by omega))
  show (l.getD i 0).toNat + 1 <= c
  omega
theorem b0o {l : List Int} {x : Int} (h : x ∈ l) : ∃ j,j < l.length /\ l.getD j 0 = x:=by
 obtain ⟨j,hj,rfl⟩:=List.getElem_of_mem h
 exact ⟨j,hj,by rw [List.getD_eq_getElem?_getD,List.getElem?_eq_getElem hj,Option.getD_some]⟩
theorem b0p (l : List Int) {n : Nat} (hn : n < 256) : (dirB l).getD n false = decide ((n : Int) ∈ l):=by
 rw [List.getD_eq_getElem?_getD,List.getElem?_eq_getElem (by rw [a3M]; omega),Option.getD_some]
 simp [dirB]
theorem Asc.gap {l : List Int} (h : Asc l) {i n c : Nat} (hi : i < l.length) (hc : l.getD i 0 = c) (h1 : putN l i <= n) (h2 : n < c) : (n : Int) ∉ l:=by
 intro hm
 obtain ⟨j,hj,e⟩:=b0o hm
 rcases Nat.lt_trichotomy j i with hlt | heq | hgt
 · cases i with
   | zero=>omega
   | succ i=>
    have h3 : (l.getD i 0).toNat + 1 <= n:=h1
    by_cases hji : j = i
    · subst hji; omega
    · have:=h.lt' (show j < i by omega) (by omega); omega
 · subst heq; omega
 · have:=h.lt' hgt hj; omega
theorem Asc.behind {l : List Int} (h : Asc l) {n : Nat} (h1 : putN l l.length <= n) : (n : Int) ∉ l:=by
 intro hm
 obtain ⟨j,hj,e⟩:=b0o hm
 obtain ⟨m,hm2⟩ : ∃ m,l.length = m + 1:=⟨l.length - 1,by omega⟩
 rw [hm2] at h1
 have h3 : (l.getD m 0).toNat + 1 <= n:=h1
 by_cases hjm : j = m
 · subst hjm; omega
 · have:=h.lt' (show j < m by omega) (by omega); omega
theorem c6N {l : List Int} (h : Asc l) {i n c : Nat} (hi : i < l.length) (hc : l.getD i 0 = c) (hc2 : c < 256) (h1 : putN l i <= n) (h2 : n < c) : (dirB l).take (n + 1) = (dirB l).take n ++ [false]:=by
 have hl:=a3M l
 rw [List.take_succ_eq_append_getElem (by omega)]
 congr 2
 have h3:=b0p l (n:=n) (by omega)
 rw [decide_eq_false (h.gap hi hc h1 h2),List.getD_eq_getElem?_getD,List.getElem?_eq_getElem (by omega),Option.getD_some] at h3
 exact h3
theorem c6O {l : List Int} {i c : Nat} (hi : i < l.length) (hc : l.getD i 0 = c) (hc2 : c < 256) : (dirB l).take (putN l (i + 1)) = (dirB l).take c ++ [true]:=by
 have hl:=a3M l
 have e : putN l (i + 1) = c + 1:=by show (l.getD i 0).toNat + 1 = _; omega
 rw [e,List.take_succ_eq_append_getElem (by omega)]
 congr 2
 have h3:=b0p l (n:=c) hc2
 rw [decide_eq_true (by rw [<- hc]; exact a1A hi),List.getD_eq_getElem?_getD,List.getElem?_eq_getElem (by omega),Option.getD_some] at h3
 exact h3
theorem c6P (bs : List Bool) (n : Nat) (hn : n <= bs.length) (h : ∀ k,n <= k -> bs.getD k false = false) : packB bs = packB (bs.take n) ++ List.replicate ((bs.length + 7) / 8 - (n + 7) / 8) 0:=by
 apply List.ext_getElem
 · rw [a0x,List.length_append,a0x,List.length_replicate,List.length_take]; omega
 · intro j h1 h2
   rw [a2C]
   rw [a0x] at h1
   have hb : ∀ (a b : List Bool),(∀ k,a.getD k false = b.getD k false) -> a.length <= b.length -> byteL a = byteL b:=by
    intro a b hab hle
    have e : b = a ++ List.replicate (b.length - a.length) false:=by
     apply List.ext_getElem
     · rw [List.length_append,List.length_replicate]; omega
     · intro k k1 k2
       have:=hab k
       rw [List.getD_eq_getElem?_getD,List.getD_eq_getElem?_getD,List.getElem?_eq_getElem k1,Option.getD_some] at this
       by_cases hk : k < a.length
       · rw [List.getElem?_eq_getElem hk,Option.getD_some] at this
         rw [List.getElem_append_left hk]; exact this.symm
       · rw [List.getElem?_eq_none (by omega)] at this
         rw [List.getElem_append_right (by omega),List.getElem_replicate]; exact this.symm
    have z : ∀ m,byteL (a ++ List.replicate m false) = byteL a:=by
     intro m
     induction m with
     | zero=>simp
     | succ m ih=>rw [List.replicate_succ',<- List.append_assoc,a4m,ih]; simp
    rw [e,z]
   by_cases hj : j < (packB (bs.take n)).length
   · rw [List.getElem_append_left hj,a2C]
     congr 1
     symm
     refine hb _ _ (λ k=>?_) ?_
     · simp only [List.getD_eq_getElem?_getD,List.getElem?_take,List.getElem?_drop]
       by_cases hk : k < 8
       · rw [if_pos hk,if_pos hk]
         by_cases hk2 : 8 * j + k < n
         · rw [if_pos hk2]
         · rw [if_neg hk2]
           have:=h (8 * j + k) (by omega)
           rw [List.getD_eq_getElem?_getD] at this
           rw [this]; rfl
       · rw [if_neg hk,if_neg hk]
     · simp only [List.length_take,List.length_drop]; omega
   · rw [List.getElem_append_right (by omega),List.getElem_replicate]
     rw [a0x,List.length_take,Nat.min_eq_left hn] at hj
     have : byteL ((bs.drop (8 * j)).take 8) = byteL []:=by
      symm
      refine hb _ _ (λ k=>?_) (by simp)
      simp only [List.getD_eq_getElem?_getD,List.getElem?_take,List.getElem?_drop,List.getElem?_nil]
      by_cases hk : k < 8
      · rw [if_pos hk]
        have:=h (8 * j + k) (by omega)
        rw [List.getD_eq_getElem?_getD] at this
        rw [this]; rfl
      · rw [if_neg hk]
     rw [this]; rfl
theorem c6Q {l : List Int} (h : Asc l) : dirL l = packB ((dirB l).take (putN l l.length)) ++ List.replicate (32 - ((putN l l.length) + 7) / 8) 0:=by
 have hl:=a3M l
 have hn : putN l l.length <= 256:=by
  have hp:=h.pos
  obtain ⟨m,hm2⟩ : ∃ m,l.length = m + 1:=⟨l.length - 1,by omega⟩
  rw [hm2]
  show (l.getD m 0).toNat + 1 <= 256
  have:=h.hi _ (a1A (show m < l.length by omega)); omega
 have:=c6P (dirB l) (putN l l.length) (by omega) (λ k hk=>by
  by_cases hk2 : k < 256
  · rw [b0p l hk2,decide_eq_false (h.behind hk)]
  · rw [List.getD_eq_getElem?_getD,List.getElem?_eq_none (by omega)]; rfl)
 rw [hl] at this
 exact this
theorem c6R {b : List Int} (h0 : 0 < b.length) : Asc (presN b 256):=by
 refine ⟨b6m h0,λ i hi=>?_,λ x hx=>?_,λ x hx=>?_⟩
 · have hp : (presN b 256).Pairwise (· < ·):=by
     unfold presN
     rw [List.pairwise_map]
     refine List.Pairwise.filter _ (List.Pairwise.imp (λ h=>?_) List.pairwise_lt_range)
     omega
   have:=List.pairwise_iff_getElem.1 hp i (i + 1) (by omega) hi (by omega)
   rw [List.getD_eq_getElem?_getD,List.getElem?_eq_getElem (by omega),List.getD_eq_getElem?_getD,List.getElem?_eq_getElem hi]
   exact this
 · unfold presN at hx
   obtain ⟨c,_,rfl⟩:=List.mem_map.1 hx; omega
 · unfold presN at hx
   obtain ⟨c,hc,rfl⟩:=List.mem_map.1 hx
   have:=List.mem_range.1 (List.mem_filter.1 hc).1; omega
open Go.IntWalk Go.Proofs.YtflfjpkmjnnodaaGreatW.PrintWords
theorem b6n {κ : IntKind} {w : World} {A : Option Addr} {xs : List Int} (h : (Kd.int κ).C w A xs.length xs) (k : Nat) (hk : k <= xs.length) : (Kd.int κ).C w A k (xs.take k):=by
 obtain ⟨h1,h2,h3⟩:=h
 refine ⟨by rw [List.length_take]; omega,by omega,λ h0=>?_⟩
 obtain ⟨ad,e,hc⟩:=h3 (by omega)
 refine ⟨ad,e,λ j p hj=>hc j p ?_⟩
 rw [List.getElem?_take] at hj
 split at hj
 · exact hj
 · cases hj
theorem b6o {lg : Int} {one : Bool} {qs : List (List Int)} {ps : List Int} {n : Int} (hps : ∀ x ∈ ps,0 <= x /\ x < 256) : Bytes (decM lg one qs ps n).2:=by
 by_cases h : (decM lg one qs ps n).1 = 0
 · exact (a7l (z:=(decM lg one qs ps n).2) hps (by rw [<- h])).2.1
 · rw [b0k h]; intro x hx; cases hx
theorem c6T {ps : List Int} {n : Int} (hps : Bytes ps) : Bytes (dec0M ps n).2:=by
 unfold dec0M
 split
 · intro x hx; cases hx
 · exact b6o (b0j hps)
theorem BSl.cut {w : World} {A : Option Addr} {c : Nat} {p : List Int} (h : BSl w A c p) {k : Nat} (hk : k <= p.length) : BSl w A c (p.take k):=
 ⟨by have:=b6n h.row k hk; rwa [List.length_take,Nat.min_eq_left hk],by rw [List.length_take]; have:=h.cap; omega,h.nil,λ x hx=>h.by' x (List.mem_of_mem_take hx)⟩
theorem a5k (A : Option Addr) (n c k : Nat) (hk : k <= n) (hn : n <= c) : ∀ W : World,(Instr.slice 22 (.slice A n c) none (some (.int .i64 (k : Int))) none).run Tryz.prog W = .ok (.slice A k c) W:=by
 intro W
 obtain ⟨i0,hi0,_⟩:=Option.map_eq_some_iff.1 a0C
 have:=a8n (P:=Tryz.prog) (W:=W) 22 5 .i64 Tryz.underlying22 hi0 A n c (k : Int) (by omega) (by omega) hn
 simpa using this
end Go.Proofs.YtflfjpkmjnnodaaGreat
namespace Go.Proofs.YtflfjpkmjnnodaaGreat
open Go.RowKit
theorem b6p (ps : List Int) (r : Nat) : ∀ (l : List Int) (qs : List (List Int)) (at_ : Nat),(hdrsT ps r l qs at_).2.1.length = qs.length
 | [],_,_=>rfl
 | c :: l,qs,at_=>by
  unfold hdrsT
  split
  · rfl
  · rw [b6p ps r l,List.length_set]
theorem b6q (ps : List Int) (r : Nat) : ∀ (l : List Int) (qs : List (List Int)) (at_ : Nat),at_ <= 8 * ps.length -> (hdrsT ps r l qs at_).1 = 0 -> (hdrsT ps r l qs at_).2.2 <= 8 * ps.length
 | [],_,_,h,_=>h
 | c :: l,qs,at_,h,h0=>by
  unfold hdrsT at h0 ⊢
  by_cases h1 : (hdrT ps (8 * ps.length) 257 a0z 0 (2 ^ r) false at_).1 ≠ 0
  · rw [if_pos h1] at h0; exact absurd h0 h1
  · rw [if_neg h1] at h0 ⊢
    exact b6q ps r l _ _ (a7I _ _ _ _ _ _ h (Classical.not_not.1 h1)) h0
theorem b6r (ps : List Int) : (∃ k,k ≠ 0 /\ a0A ps = (k,0,[],[])) \/ ∃ r qs m,5 <= r /\ r <= 9 /\ (qs : List (List Int)).length = 256 /\ a0A ps = (0,r,qs,(ps.drop 33).drop m):=by
 unfold a0A
 by_cases h0 : ps.length = 0
 · rw [if_pos h0]; exact .inl ⟨3,by decide,rfl⟩
 · rw [if_neg h0]
   by_cases h1 : (ps.getD 0 0).toNat < 5 \/ 9 < (ps.getD 0 0).toNat
   · rw [if_pos h1]; exact .inl ⟨13,by decide,rfl⟩
   · rw [if_neg h1]
     by_cases hd : (dirT (ps.drop 1)).1 ≠ 0
     · rw [if_pos hd]; exact .inl ⟨_,hd,rfl⟩
     · rw [if_neg hd]
       have hl:=b6p (ps.drop 33) (ps.getD 0 0).toNat (dirT (ps.drop 1)).2 a2G 0
       obtain ⟨H,hH⟩ : ∃ H,H = hdrsT (ps.drop 33) (ps.getD 0 0).toNat (dirT (ps.drop 1)).2 a2G 0:=⟨_,rfl⟩
       rw [<- hH] at hl ⊢
       by_cases h2 : H.1 ≠ 0
       · rw [if_pos h2]; exact .inl ⟨_,h2,rfl⟩
       · rw [if_neg h2]
         by_cases h3 : H.2.2 % 8 ≠ 0 /\ ((ps.drop 33).getD (H.2.2 / 8) 0).toNat / 2 ^ (H.2.2 % 8) ≠ 0
         · rw [if_pos h3]; exact .inl ⟨4,by decide,rfl⟩
         · rw [if_neg h3]; exact .inr ⟨_,_,_,by omega,by omega,by rw [hl]; exact List.length_replicate,rfl⟩
theorem b0q {ps : List Int} (h : Bytes ps) : Bytes (a0A ps).2.2.2:=by
 rcases b6r ps with ⟨k,_,e⟩ | ⟨r,q,m,_,_,_,e⟩
 · rw [e]; intro x hx; cases hx
 · rw [e]; exact λ x hx=>h x (List.mem_of_mem_drop (List.mem_of_mem_drop hx))
theorem b6s (ps : List Int) : (a0A ps).2.2.2.length <= ps.length /\ (a0A ps).2.2.1.length <= 256:=by
 rcases b6r ps with ⟨k,_,e⟩ | ⟨r,q,m,_,_,h,e⟩
 · rw [e]; simp
 · rw [e]; exact ⟨by simp,by rw [h]; exact Nat.le_refl _⟩
theorem c6U {ps : List Int} {n : Int} (hps : Bytes ps) : Bytes (dec1M ps n).2:=by
 unfold dec1M
 split
 · intro x hx; cases hx
 · exact b6o (b0q hps)
theorem b6t {b : List Int} (hb : Bytes b) (hl : b.length <= 40000) (h0 : 0 < b.length) : dec1M (a1m b) b.length = (0,b):=by
 have hc : canM (a0r b : Nat) false (a0y b) b = true:=a5f (one:=false) hb (by omega) h0
 unfold dec1M
 rw [c6M hb (by omega) h0,if_neg (λ h=>h rfl)]
 dsimp only
 exact b4o hc hb
theorem b0r {x : Int} {l : List Int} (hx : 0 <= x /\ x < 256) (hl : Bytes l) : Bytes (x :: l):=λ y hy=>by
 rcases List.mem_cons.1 hy with h | h
 · rw [h]; exact hx
 · exact hl y h
theorem a1J {a b : List Int} (ha : Bytes a) (hb : Bytes b) : Bytes (a ++ b):=λ y hy=>by
 rcases List.mem_append.1 hy with h | h
 · exact ha y h
 · exact hb y h
theorem b6u (b : List Int) : Bytes (a1m b):=by
 unfold a1m
 have hr:=a2W b
 exact a1J (a1J (a1J (b0r (by omega) (λ x hx=>by cases hx)) (a4S _)) (a4S _)) (a4S _)
theorem c6V {b : List Int} (hb : Bytes b) (hl : b.length <= 1000000) : ∀ (d i : Nat),i + d = (presN b 256).length -> (hdrsB (a0r b) (a0y b) ((presN b 256).drop i)).length <= d * 3840:=by
 intro d
 induction d with
 | zero=>intro i hi; rw [List.drop_of_length_le (by omega)]; simp [hdrsB]
 | succ d ih=>
  intro i hi
  have hlt : i < (presN b 256).length:=by omega
  obtain ⟨c,hc,hc256,hpk⟩:=a7G b hlt
  have hr:=a2W b
  have hd : (presN b 256).drop i = (c : Int) :: (presN b 256).drop (i + 1):=by rw [a4T _ _ hlt,hc]
  have hq : (a0y b).getD c [] = a1i b c:=a7B b hc256
  obtain ⟨n1,n2,n3⟩:=b0n hb hl hc256 hpk
  have e2 : (2 : Int) ^ a0r b = ((2 ^ a0r b : Nat) : Int):=by simp
  have h1:=a5g (r:=a0r b) (by omega) n1 n2 257 0 (2 ^ a0r b) (by omega) (by rw [List.drop_zero,n3,e2]) (by rw [Nat.pow_succ]; have:=Nat.two_pow_pos (a0r b); omega)
  have h2 : (256 - 0) * (a0r b + 3) <= 256 * 15:=Nat.mul_le_mul (by omega) (by omega)
  rw [hd]
  simp only [hdrsB,Int.toNat_natCast,hq,List.length_append]
  have:=ih (i + 1) (by omega)
  omega
theorem b6v {b : List Int} (hb : Bytes b) (hl : b.length <= 40000) (h0 : 0 < b.length) : 33 < (a1m b).length /\ (a1m b).length <= 900000:=by
 have HCan : canM (a0r b : Nat) false (a0y b) b = true:=a5f (one:=false) hb (by omega) h0
 have hF:=a5N (a5O HCan).1 hb
 have h1:=c6V hb (by omega) (presN b 256).length 0 (by omega)
 have h2:=a5a b 256
 rw [List.drop_zero] at h1
 unfold a1m
 simp only [List.length_append,List.length_singleton,a4s,a0x]
 omega
def a1Q (b : List Int) : Bool:=decide (1 < b.length) && b.all (λ x=>decide (x = b.getD 0 0))
def a1u (kind : Int) (b : List Int) : Int × List Int:=
 if ¬ (kind = 0 \/ kind = 1) \/ 131072 < b.length \/ (kind = 1 /\ a1Q b = false) then (1,[]) else if kind = 0 then (0,b) else (0,[b.getD 0 0])
def a2Y (kind : Int) (body : List Int) (n : Int) : Int × List Int:=
 if ¬ (kind = 0 \/ kind = 1) \/ n < 0 \/ 131072 < n then (1,[]) else
 if kind = 0 /\ (body.length : Int) ≠ n \/ kind = 1 /\ (body.length ≠ 1 \/ n < 2) then (11,[]) else
 (0,if kind = 0 then body else List.replicate n.toNat (body.getD 0 0))
def pickE (kind : Int) (b : List Int) : Int × List Int:=
 if kind < 0 \/ 3 < kind then (10,[]) else if kind <= 1 then a1u kind b else
 if b.length = 0 then (1,[]) else if kind = 2 then (0,a1q b) else (0,a1m b)
def a0W (k : Int) (b : List Int) (x : Int × List Int) : Int × List Int:=if (pickE k b).1 = 0 /\ (pickE k b).2.length < x.2.length then (k,(pickE k b).2) else x
def bestP (b : List Int) : Int × List Int:=a0W 3 b (a0W 2 b (a0W 1 b (0,b)))
def mayB (kind n length : Int) : Bool:=if kind = 0 then decide (n = length) else if kind = 1 then decide (1 < n /\ length = 1) else decide (1 <= length /\ length < n)
def a0B (kind n length : Int) : Int:=if kind < 0 \/ 3 < kind then 10 else if n < 0 \/ 131072 < n \/ mayB kind n length = false then 11 else 0
def pickD (kind : Int) (body : List Int) (n : Int) : Int × List Int:=
 if a0B kind n body.length ≠ 0 then (a0B kind n body.length,[]) else if kind <= 1 then a2Y kind body n else if kind = 2 then dec0M body n else dec1M body n
theorem c6W {k : Int} {b : List Int} (hb : Bytes b) : Bytes (a1u k b).2:=by
 unfold a1u
 split
 · intro x hx; cases hx
 · split
   · exact hb
   · exact b0r (hb.get 0) (λ x hx=>by cases hx)
theorem c6X {k : Int} {b : List Int} (hb : Bytes b) : Bytes (pickE k b).2:=by
 unfold pickE
 repeat' split
 · intro x hx; cases hx
 · exact c6W hb
 · intro x hx; cases hx
 · exact c6y b
 · exact b6u b
theorem b0s {k : Int} {b : List Int} {x : Int × List Int} (hb : Bytes b) (hx : Bytes x.2) : Bytes (a0W k b x).2:=by
 unfold a0W; split
 · exact c6X hb
 · exact hx
theorem a6c {b : List Int} (hb : Bytes b) : Bytes (bestP b).2:=b0s hb (b0s hb (b0s hb hb))
theorem a7P (k : Int) (b : List Int) (x : Int × List Int) : (a0W k b x).2.length <= x.2.length /\ ((pickE k b).1 = 0 -> (a0W k b x).2.length <= (pickE k b).2.length):=by
 unfold a0W
 by_cases h : (pickE k b).1 = 0 /\ (pickE k b).2.length < x.2.length
 · rw [if_pos h]; exact ⟨by show (pickE k b).2.length <= _; omega,λ _=>Nat.le_refl _⟩
 · rw [if_neg h]; exact ⟨Nat.le_refl _,λ h0=>by omega⟩
theorem a2H (b : List Int) : (bestP b).2.length <= b.length:=by
 have h1:=(a7P 1 b (0,b)).1
 have h2:=(a7P 2 b (a0W 1 b (0,b))).1
 have h3:=(a7P 3 b (a0W 2 b (a0W 1 b (0,b)))).1
 unfold bestP
 have e : ((0 : Int),b).2.length = b.length:=rfl
 omega
structure BestOk (b : List Int) (x : Int × List Int) (upto : Int) : Prop where
 kind : 0 <= x.1 /\ x.1 <= upto
 is : pickE x.1 b = (0,x.2)
 least : ∀ j,0 <= j -> j <= upto -> (pickE j b).1 = 0 -> x.2.length <= (pickE j b).2.length /\ ((pickE j b).2.length = x.2.length -> x.1 <= j)
theorem b0t {b : List Int} {x : Int × List Int} {k : Int} (h : BestOk b x (k - 1)) (hk : 0 < k) : BestOk b (a0W k b x) k:=by
 unfold a0W
 by_cases hc : (pickE k b).1 = 0 /\ (pickE k b).2.length < x.2.length
 · rw [if_pos hc]
   refine ⟨⟨by show 0 <= k; omega,Int.le_refl _⟩,Prod.ext hc.1 rfl,λ j h0 hj he=>?_⟩
   by_cases e : j = k
   · subst e; exact ⟨Nat.le_refl _,λ _=>Int.le_refl _⟩
   · have:=h.least j h0 (by omega) he
     exact ⟨by show (pickE k b).2.length <= _; omega,λ e2=>by exfalso; have e3 : (pickE j b).2.length = (pickE k b).2.length:=e2; omega⟩
 · rw [if_neg hc]
   refine ⟨⟨h.kind.1,by have:=h.kind.2; omega⟩,h.is,λ j h0 hj he=>?_⟩
   by_cases e : j = k
   · subst e; exact ⟨by omega,λ _=>by have:=h.kind.2; omega⟩
   · exact h.least j h0 (by omega) he
theorem b0u {b : List Int} (hl : b.length <= 131072) : BestOk b (bestP b) 3:=by
 have h0 : pickE 0 b = (0,b):=by
  unfold pickE a1u
  rw [if_neg (by omega),if_pos (by omega),if_neg (by omega),if_pos rfl]
 have b0 : BestOk b (0,b) (1 - 1):=⟨⟨Int.le_refl 0,Int.le_refl 0⟩,h0,λ j h1 h2 _=>by
  have : j = 0:=by omega
  subst this; rw [h0]; exact ⟨Nat.le_refl _,λ _=>Int.le_refl _⟩⟩
 exact b0t (k:=3) (b0t (k:=2) (b0t (k:=1) b0 (by decide)) (by decide)) (by decide)
theorem b0v {b : List Int} (h : a1Q b = true) : b = List.replicate b.length (b.getD 0 0) /\ 1 < b.length:=by
 unfold a1Q at h
 simp only [Bool.and_eq_true,decide_eq_true_eq,List.all_eq_true] at h
 exact ⟨List.eq_replicate_iff.2 ⟨rfl,h.2⟩,h.1⟩
theorem c6Y {b x : List Int} {k : Int} (hb : Bytes b) (hl : b.length <= 40000) (he : pickE k b = (0,x)) (hc : a0B k b.length x.length = 0) : pickD k x b.length = (0,b):=by
 unfold pickD
 rw [if_neg (λ h=>h hc)]
 unfold pickE at he
 by_cases h1 : k < 0 \/ 3 < k
 · rw [if_pos h1] at he; cases he
 · rw [if_neg h1] at he
   by_cases h2 : k <= 1
   · rw [if_pos h2] at he ⊢
     unfold a1u at he
     by_cases h3 : ¬ (k = 0 \/ k = 1) \/ 131072 < b.length \/ (k = 1 /\ a1Q b = false)
     · rw [if_pos h3] at he; cases he
     · rw [if_neg h3] at he
       unfold a2Y
       rw [if_neg (by omega)]
       by_cases h4 : k = 0
       · rw [if_pos h4] at he ⊢
         injection he with _ he; subst he
         rw [if_neg (by omega)]
       · rw [if_neg h4] at he ⊢
         injection he with _ he; subst he
         have ha : a1Q b = true:=by
          cases hab : a1Q b with
          | true=>rfl
          | false=>exact absurd (.inr (.inr ⟨by omega,hab⟩)) h3
         obtain ⟨e1,e2⟩:=b0v ha
         rw [if_neg (by simp; omega)]
         rw [Int.toNat_natCast]
         exact Prod.ext rfl (by show List.replicate b.length (b.getD 0 0) = b; exact e1.symm)
   · rw [if_neg h2] at he ⊢
     by_cases h3 : b.length = 0
     · rw [if_pos h3] at he; cases he
     · rw [if_neg h3] at he
       by_cases h4 : k = 2
       · rw [if_pos h4] at he ⊢
         injection he with _ he; subst he
         exact c6x hb hl (by omega)
       · rw [if_neg h4] at he ⊢
         injection he with _ he; subst he
         exact b6t hb hl (by omega)
theorem b6w {b : List Int} (hb : Bytes b) (hl : b.length <= 40000) : a0B (bestP b).1 b.length (bestP b).2.length = 0:=by
 have ho:=b0u (b:=b) (by omega)
 have hlen:=a2H b
 obtain ⟨x,hx⟩ : ∃ x,x = bestP b:=⟨_,rfl⟩
 rw [<- hx] at ho hlen ⊢
 have h0 : pickE 0 b = (0,b):=by
  unfold pickE a1u
  rw [if_neg (by omega),if_pos (by omega),if_neg (by omega),if_pos rfl]
 have hle:=ho.least 0 (by decide) (by decide) (by rw [h0])
 rw [h0] at hle
 have hk:=ho.kind
 have his:=ho.is
 unfold a0B
 rw [if_neg (by omega),if_neg]
 intro h
 rcases h with h | h | h
 · omega
 · omega
 · unfold mayB at h
   unfold pickE at his
   rw [if_neg (by omega)] at his
   by_cases k0 : x.1 = 0
   · rw [if_pos k0] at h
     rw [if_pos (by omega)] at his
     unfold a1u at his
     rw [if_neg (by omega),if_pos k0] at his
     injection his with _ his
     rw [<- his] at h
     simp at h
   · rw [if_neg k0] at h
     have hlt : x.2.length < b.length:=by
      rcases Nat.lt_or_ge x.2.length b.length with h1 | h1
      · exact h1
      · exfalso; have:=hle.2 (by show b.length = _; omega); omega
     by_cases k1 : x.1 = 1
     · rw [if_pos k1] at h
       rw [if_pos (by omega)] at his
       unfold a1u at his
       by_cases h3 : ¬ (x.1 = 0 \/ x.1 = 1) \/ 131072 < b.length \/ (x.1 = 1 /\ a1Q b = false)
       · rw [if_pos h3] at his; cases his
       · rw [if_neg h3,if_neg k0] at his
         injection his with _ his
         have : x.2.length = 1:=by rw [<- his]; rfl
         have h4:=of_decide_eq_false h
         omega
     · rw [if_neg k1] at h
       have h4:=of_decide_eq_false h
       rw [if_neg (by omega)] at his
       by_cases h5 : b.length = 0
       · omega
       · rw [if_neg h5] at his
         by_cases k2 : x.1 = 2
         · rw [if_pos k2] at his
           injection his with _ his
           have:=b6e hb hl (by omega)
           rw [his] at this; omega
         · rw [if_neg k2] at his
           injection his with _ his
           have:=b6v hb hl (by omega)
           rw [his] at this; omega
theorem c6Z {b : List Int} (hb : Bytes b) (hl : b.length <= 40000) : pickD (bestP b).1 (bestP b).2 b.length = (0,b):=
 c6Y hb hl (b0u (by omega)).is (b6w hb hl)
def leN (n k : Nat) : List Int:=(List.range k).map (λ i=>((n / 256 ^ i % 256 : Nat) : Int))
def rdN (f : List Int) : Nat -> Nat
 | 0=>0
 | k + 1=>rdN f k + (f.getD k 0).toNat * 256 ^ k
theorem a1R (n k : Nat) : (leN n k).length = k:=by simp [leN]
theorem a5l (n k : Nat) : Bytes (leN n k):=λ x hx=>by
 unfold leN at hx
 obtain ⟨i,_,rfl⟩:=List.mem_map.1 hx
 omega
theorem c7a {n k i : Nat} (h : i < k) (m : List Int) : (leN n k ++ m).getD i 0 = ((n / 256 ^ i % 256 : Nat) : Int):=by
 rw [List.getD_eq_getElem?_getD,List.getElem?_append_left (by rw [a1R]; exact h),List.getElem?_eq_getElem (by rw [a1R]; exact h),Option.getD_some]
 simp [leN]
theorem b0w (n k : Nat) : leN n (k + 1) = leN n k ++ [((n / 256 ^ k % 256 : Nat) : Int)]:=by simp [leN,List.range_succ]
theorem b6x (n k : Nat) (m : List Int) : ∀ j,j <= k -> rdN (leN n k ++ m) j = n % 256 ^ j
 | 0,_=>by simp [rdN,Nat.mod_one]
 | j + 1,h=>by
  unfold rdN
  rw [b6x n k m j (by omega),c7a (by omega),Int.toNat_natCast,Nat.pow_succ,Nat.mod_mul,Nat.mul_comm]
theorem b0x {n k : Nat} (h : n < 256 ^ k) (m : List Int) : rdN (leN n k ++ m) k = n:=by rw [b6x n k m k (Nat.le_refl _),Nat.mod_eq_of_lt h]
theorem a2I {f : List Int} (hf : Bytes f) : ∀ k,rdN f k < 256 ^ k
 | 0=>by simp [rdN]
 | k + 1=>by
  have h1:=a2I hf k
  have h2:=hf.get k
  have h3 : (f.getD k 0).toNat <= 255:=by omega
  have h4:=Nat.mul_le_mul_right (256 ^ k) h3
  unfold rdN
  rw [Nat.pow_succ]
  omega
theorem b0y {f : List Int} {j : Nat} : ∀ k,k <= j -> rdN (f.take j) k = rdN f k
 | 0,_=>rfl
 | k + 1,h=>by
  unfold rdN
  rw [b0y k (by omega)]
  congr 2
  rw [List.getD_eq_getElem?_getD,List.getElem?_take,if_pos (by omega),<- List.getD_eq_getElem?_getD]
abbrev HeadT:=Nat × Nat × Nat × Bool × Nat
def headZ : HeadT:=(0,0,0,false,0)
def a1y (log : Int) (first : Bool) (kind n : Nat) (last : Bool) : Bool:=
 if last = false then decide (n = 2 ^ log.toNat) else if n = 0 then first && decide (kind = 0) else decide (n <= 2 ^ log.toNat)
def scanM (f : List Int) (log : Int) (first : Bool) (room : Int) : Int × HeadT:=
 if log < 10 \/ 17 < log \/ room < 0 then (1,headZ) else
 if f.length < 1 then (3,headZ) else
 if 7 < (f.getD 0 0).toNat then (10,headZ) else
 if f.length < 4 then (3,headZ) else
 if a1y log first ((f.getD 0 0).toNat % 4) (rdN (f.drop 1) 3) (decide (4 <= (f.getD 0 0).toNat)) = false then (11,headZ) else
 if f.length < 7 then (3,headZ) else
 if a0B ((f.getD 0 0).toNat % 4 : Nat) (rdN (f.drop 1) 3) (rdN (f.drop 4) 3) ≠ 0 then (a0B ((f.getD 0 0).toNat % 4 : Nat) (rdN (f.drop 1) 3) (rdN (f.drop 4) 3),headZ) else
 if room < rdN (f.drop 1) 3 then (7,headZ) else
 if f.length < 11 then (3,headZ) else
 (0,(f.getD 0 0).toNat % 4,rdN (f.drop 1) 3,rdN (f.drop 4) 3,decide (4 <= (f.getD 0 0).toNat),rdN (f.drop 7) 4)
def openM (f : List Int) (log : Int) (first : Bool) (room : Int) : Int × List Int × Nat × Bool:=
 if (scanM f log first room).1 ≠ 0 then ((scanM f log first room).1,[],0,false) else
 if f.length < 11 + (scanM f log first room).2.2.2.1 then (3,[],0,false) else
 if a0I 0 ((f.drop 11).take (scanM f log first room).2.2.2.1) ≠ (scanM f log first room).2.2.2.2.2 then (12,[],0,false) else
 if (pickD ((scanM f log first room).2.1 : Nat) ((f.drop 11).take (scanM f log first room).2.2.2.1) (scanM f log first room).2.2.1).1 ≠ 0 then ((pickD ((scanM f log first room).2.1 : Nat) ((f.drop 11).take (scanM f log first room).2.2.2.1) (scanM f log first room).2.2.1).1,[],0,false) else
 (0,(pickD ((scanM f log first room).2.1 : Nat) ((f.drop 11).take (scanM f log first room).2.2.2.1) (scanM f log first room).2.2.1).2,11 + (scanM f log first room).2.2.2.1,(scanM f log first room).2.2.2.2.1)
def putM (b : List Int) (last : Bool) : List Int:=
 ((bestP b).1 + (if last then 4 else 0)) :: (leN b.length 3 ++ (leN (bestP b).2.length 3 ++ (leN (a0I 0 (bestP b).2) 4 ++ (bestP b).2)))
theorem a0S (b : List Int) (last : Bool) : (putM b last).length = 11 + (bestP b).2.length:=by
 unfold putM
 simp only [List.length_cons,List.length_append,a1R]; omega
theorem b0z {b : List Int} (hl : b.length <= 131072) : ∃ k : Nat,(bestP b).1 = k /\ k <= 3:=by
 have:=(b0u hl).kind
 exact ⟨(bestP b).1.toNat,by omega,by omega⟩
theorem a7Q {b : List Int} (hb : Bytes b) (hl : b.length <= 131072) (last : Bool) : Bytes (putM b last):=by
 obtain ⟨k,hk,hk3⟩:=b0z hl
 unfold putM
 refine b0r ?_ (a1J (a5l _ _) (a1J (a5l _ _) (a1J (a5l _ _) (a6c hb))))
 rw [hk]; split <;> omega
theorem b6y {b : List Int} (hl : b.length <= 131072) (last : Bool) (m : List Int) : ∃ k : Nat,(bestP b).1 = k /\ k <= 3 /\
    ((putM b last ++ m).getD 0 0).toNat = k + (if last then 4 else 0) /\ rdN ((putM b last ++ m).drop 1) 3 = b.length /\ rdN ((putM b last ++ m).drop 4) 3 = (bestP b).2.length /\ rdN ((putM b last ++ m).drop 7) 4 = a0I 0 (bestP b).2 /\ (putM b last ++ m).drop 11 = (bestP b).2 ++ m:=by
 obtain ⟨k,hk,hk3⟩:=b0z hl
 have hbl:=a2H b
 have hc:=a4X 0 (bestP b).2
 obtain ⟨B,hB⟩ : ∃ B,B = (bestP b).2:=⟨_,rfl⟩
 have e : putM b last ++ m = ((bestP b).1 + (if last then 4 else 0)) :: (leN b.length 3 ++ (leN (bestP b).2.length 3 ++ (leN (a0I 0 (bestP b).2) 4 ++ ((bestP b).2 ++ m)))):=by
  unfold putM; simp
 rw [e,hk,<- hB]
 rw [<- hB] at hbl hc
 have d1 : ∀ (x : Int) (l : List Int),(x :: l).drop 1 = l:=λ _ _=>rfl
 have da : ∀ (n k : Nat) (l : List Int),(leN n k ++ l).drop k = l:=λ n k l=>by
  rw [List.drop_append_of_le_length (by rw [a1R]; exact Nat.le_refl _),List.drop_of_length_le (by rw [a1R]; exact Nat.le_refl _),List.nil_append]
 refine ⟨k,rfl,hk3,?_,?_,?_,?_,?_⟩
 · show (((k : Nat) : Int) + _).toNat = _
   split <;> omega
 · rw [d1]; exact b0x (by omega) _
 · rw [show 4 = 1 + 3 from rfl,<- List.drop_drop,d1,da]; exact b0x (by omega) _
 · rw [show 7 = 1 + (3 + 3) from rfl,<- List.drop_drop,d1,<- List.drop_drop,da,da]; exact b0x (by omega) _
 · rw [show 11 = 1 + (3 + (3 + 4)) from rfl,<- List.drop_drop,d1,<- List.drop_drop,da,<- List.drop_drop,da,da]
theorem a2Z {b m : List Int} (hb : Bytes b) (hl : b.length <= 40000) {log room : Int} {first last : Bool} (hlog : 10 <= log /\ log <= 17) (hroom : 0 <= room) (hs : ∀ k,k <= 3 -> (bestP b).1 = (k : Nat) -> a1y log first k b.length last = true) :
    ∃ k : Nat,(bestP b).1 = k /\ k <= 3 /\ scanM (putM b last ++ m) log first room = if room < b.length then (7,headZ) else (0,k,b.length,(bestP b).2.length,last,a0I 0 (bestP b).2):=by
 obtain ⟨k,hk,hk3,h0,h1,h2,h3,_⟩:=b6y (by omega : b.length <= 131072) last m
 have hlen : 11 <= (putM b last ++ m).length:=by rw [List.length_append,a0S]; omega
 have hmay:=b6w hb hl
 rw [hk] at hmay
 refine ⟨k,hk,hk3,?_⟩
 have hm : (k + (if last then 4 else 0)) % 4 = k:=by split <;> omega
 have hd : decide (4 <= k + (if last then 4 else 0)) = last:=by cases last <;> simp; omega
 unfold scanM
 rw [if_neg (by omega),if_neg (by omega),h0,if_neg (by split <;> omega),if_neg (by omega),h1,h2,h3,hm,hd,hs k hk3 hk,if_neg (by simp),if_neg (by omega),if_neg (λ h=>h hmay)]
 split
 · rfl
 · rw [if_neg (by omega)]
theorem a5m {b m : List Int} (hb : Bytes b) (hl : b.length <= 40000) {log room : Int} {first last : Bool} (hlog : 10 <= log /\ log <= 17) (hroom : (b.length : Int) <= room) (hs : ∀ k,k <= 3 -> (bestP b).1 = (k : Nat) -> a1y log first k b.length last = true) :
    openM (putM b last ++ m) log first room = (0,b,11 + (bestP b).2.length,last):=by
 obtain ⟨k,hk,hk3,e⟩:=a2Z (m:=m) hb hl hlog (by omega : 0 <= room) hs
 rw [if_neg (by omega)] at e
 obtain ⟨_,_,_,_,_,_,_,hd⟩:=b6y (by omega : b.length <= 131072) last m
 have hbk:=c6Z hb hl
 rw [hk] at hbk
 have ht : ((bestP b).2 ++ m).take (bestP b).2.length = (bestP b).2:=by rw [List.take_append_of_le_length (Nat.le_refl _),List.take_length]
 unfold openM
 rw [e]
 dsimp only
 rw [if_neg (λ h=>h rfl),if_neg (by rw [List.length_append,a0S]; omega),hd,ht,if_neg (λ h=>h rfl),hbk,if_neg (λ h=>h rfl)]
theorem b6A {f : List Int} {log room : Int} {first : Bool} (h : (openM f log first room).1 = 0) : 11 <= (openM f log first room).2.2.1 /\ (openM f log first room).2.2.1 <= f.length:=by
 unfold openM at h ⊢
 by_cases a1 : (scanM f log first room).1 ≠ 0
 · rw [if_pos a1] at h; exact absurd h a1
 rw [if_neg a1] at h ⊢
 by_cases a2 : f.length < 11 + (scanM f log first room).2.2.2.1
 · rw [if_pos a2] at h; cases h
 rw [if_neg a2] at h ⊢
 by_cases a3 : a0I 0 ((f.drop 11).take (scanM f log first room).2.2.2.1) ≠ (scanM f log first room).2.2.2.2.2
 · rw [if_pos a3] at h; cases h
 rw [if_neg a3] at h ⊢
 by_cases a4 : (pickD ((scanM f log first room).2.1 : Nat) ((f.drop 11).take (scanM f log first room).2.2.2.1) (scanM f log first room).2.2.1).1 ≠ 0
 · rw [if_pos a4] at h; exact absurd h a4
 rw [if_neg a4]
 dsimp only
 omega
end Go.Proofs.YtflfjpkmjnnodaaGreat
namespace Go.Proofs.YtflfjpkmjnnodaaGreat
open Go.RowKit Go.IntWalk Go.Proofs.YtflfjpkmjnnodaaGreatW.PrintWords
attribute [local go_sem] Oper.semAt_some
def a5n : Code := (Code.region 5 #[{ dst := some 5, op := Op.assign (Operand.tmp 12), type := 3, pos := "dir.go:52", after := #[], guard := none }] false)
def a5o : Code := (Code.block 1 (((Code.region 6 #[{ dst := some 13, op := Op.load 84 (Operand.tmp 4), type := 84, pos := "dir.go:53", after := #[], guard := none }, { dst := some 14, op := Op.call { callee := Callee.builtin Builtin.len, args := #[Operand.tmp 13], argTypes := #[84] }, type := 3, pos := "dir.go:53", after := #[{ on := 0, ground := Ground.data }], guard := none }, { dst := some 15, op := Op.binOp BinOp.eql 3 (Operand.tmp 14) (Operand.const (Value.int IntKind.i64 0)) 3, type := 4, pos := "dir.go:53", after := #[{ on := 1, ground := Ground.data }], guard := none }, { dst := some 16, op := Op.move (Operand.tmp 15), type := 4, pos := "dir.go:53", after := #[{ on := 2, ground := Ground.data }], guard := none }, { dst := some 17, op := Op.move (Operand.tmp 5), type := 3, pos := "dir.go:53", after := #[{ on := 3, ground := Ground.guard }], guard := some (3, true) }, { dst := some 18, op := Op.binOp BinOp.neq 3 (Operand.tmp 17) (Operand.const (Value.int IntKind.i64 0)) 3, type := 4, pos := "dir.go:53", after := #[{ on := 4, ground := Ground.data }, { on := 3, ground := Ground.guard }], guard := some (3, true) }, { dst := some 19, op := Op.pick (Operand.tmp 16) (Operand.tmp 18) (Operand.const (Value.bool false)), type := 4, pos := "dir.go:53", after := #[{ on := 3, ground := Ground.data }, { on := 5, ground := Ground.data }], guard := none }] false).seq (Code.cond (Operand.tmp 19) ((Code.region 7 #[{ dst := none, op := Op.store 84 (Operand.tmp 2) (Operand.const (Value.slice none 0 0)), type := 0, pos := "dir.go:54", after := #[], guard := none }, { dst := none, op := Op.store 27 (Operand.tmp 3) (Operand.const (Value.int IntKind.i64 13)), type := 0, pos := "dir.go:54", after := #[{ on := 0, ground := Ground.chain }, { on := 0, ground := Ground.phase }], guard := none }] false).seq Code.ret) Code.skip)).seq (Code.region 8 #[{ dst := some 20, op := Op.load 84 (Operand.tmp 4), type := 84, pos := "dir.go:56", after := #[], guard := none }, { dst := some 21, op := Op.move (Operand.tmp 5), type := 3, pos := "dir.go:56", after := #[], guard := none }, { dst := some 22, op := Op.buildSlice 84 1 #[(0, Operand.tmp 21)], type := 84, pos := "dir.go:56", after := #[{ on := 1, ground := Ground.data }], guard := none }, { dst := some 23, op := Op.call { callee := Callee.builtin Builtin.append, args := #[Operand.tmp 20, Operand.tmp 22], argTypes := #[84, 84] }, type := 84, pos := "dir.go:56", after := #[{ on := 0, ground := Ground.data }, { on := 2, ground := Ground.data }], guard := none }, { dst := none, op := Op.store 84 (Operand.tmp 4) (Operand.tmp 23), type := 0, pos := "dir.go:56", after := #[{ on := 3, ground := Ground.data }, { on := 3, ground := Ground.chain }, { on := 0, ground := Ground.phase }, { on := 1, ground := Ground.phase }, { on := 2, ground := Ground.phase }, { on := 3, ground := Ground.phase }], guard := none }] false)))
def tkRec (fn : FuncId) (tm : Array Value) (D : Nat) (st : LoopState) (pend : Option Code) : Loop:={ state:=st,pending:=pend,fn,tmps:=tm,params:=#[12],assign:=a5n,body:=a5o,defers:=D }
structure Tk (fn : FuncId) (tm : Array Value) (ob D l B0 p : Nat) (W1 : World) (ps out : List Int) (at_ : Nat) (W : World) : Prop where
 rd : RfAt W B0 p ps at_
 v : ∃ v,W.heap[ob]? = some (.cells #[v] 84 (0,0)) /\ W.ownsRow B0 3 1 v out.length (out.map (Value.int .i64)) /\ (∀ k,v.ownBlock = some k -> p < k)
 lp : W.heap[l]? = some (.loop (tkRec fn tm D .ready none))
 on : Only (λ k=>k = ob \/ k = l \/ B0 <= k) W1 W
theorem a3W {W : World} {B : Nat} {e : TypeId} {v : Value} {n : Nat} {xs : List Value} (h : W.ownsRow B e 1 v n xs) : ∃ A c,v = .slice A n c:=by
 rcases h.2 with ⟨rfl,rfl⟩ | ⟨g,cap,cur,rfl,_⟩
 · exact ⟨_,_,rfl⟩
 · exact ⟨_,_,rfl⟩
theorem a5p {W W' : World} {B : Nat} {e : TypeId} {v : Value} {n : Nat} {xs : List Value} (h : W.ownsRow B e 1 v n xs) (hs : ∀ k,v.ownBlock = some k -> W'.heap[k]? = W.heap[k]?) : W'.ownsRow B e 1 v n xs:=by
 refine ⟨h.1,?_⟩
 rcases h.2 with h | ⟨g,cap,cur,rfl,hb,hg,rest⟩
 · exact .inl h
 · exact .inr ⟨g,cap,cur,rfl,hb,(hs g rfl).trans hg,rest⟩
theorem RfAt.only {w w' : World} {base p : Nat} {ps : List Int} {at_ : Nat} {S : Nat -> Prop} (h : RfAt w base p ps at_) (ho : Only S w w') (hp : ¬ S p) (hs : ∀ k,base <= k -> k < p -> ¬ S k) : RfAt w' base p ps at_:=by
 obtain ⟨A,c,h1,h2⟩:=h.ex
 have hb:=λ k hk=>(Kd.R_bound h2).1 k hk
 refine ⟨A,c,(ho.block p (a0f h1) hp).trans h1,Kd.R_mono (Kd.R_step (Kd.R_tight (d:=Kd.int .u8) rfl h2) (λ k hk hlt=>ho.block k hlt ?_)) (λ k hk=>(hb k hk.symm).1)⟩
 have:=hb k hk.symm
 exact hs k this.2.1 this.1
def tkTm (A : Option Addr) (n c rb eb ob : Nat) (f v6 v7 v8 v9 v10 : Value) : Array Value:=#[.slice A n c,undef,.pointer (some ⟨rb,0,none⟩),.pointer (some ⟨eb,0,none⟩),.pointer (some ⟨ob,0,none⟩),undef,v6,v7,v8,v9,v10,f,undef,undef,undef,undef,undef,undef,undef,undef,undef,undef,undef,undef,undef,undef,undef,undef]
theorem Only.putObj {S : Nat -> Prop} {a b : World} {l : Nat} (h : Only S a b) (hl : S l) (o : Obj) : Only S a (b.putObj l o):=
 h.trans ⟨rfl,rfl,rfl,by simp,λ k _ hn=>World.putObj_heap_other (λ e=>hn (e ▸ hl))⟩
theorem Only.grown {S : Nat -> Prop} {a b c : World} {row : Option Nat} (h : Only S a b) (hg : b.grownBy c row) (hs : ∀ k,row = some k -> S k) : Only S a c:=h.trans (Only.of_grown hg hs)
theorem tkEnd {fn : FuncId} {A : Option Addr} {n c rb eb ob D l B0 p : Nat} {f v6 v7 v8 v9 v10 : Value} {W1 W W2 w1 : World} {ps out : List Int} {at_ k : Nat} {lit : Obj} {Av : Option Addr} {cv g' cap' : Nat}
    (hp : B0 <= p) (hob : (Value.slice Av out.length cv).ownBlock = some ob -> False) (ho : ob < l) (hl : l < B0) (hs2 : p < W2.heap.size) (h : Tk fn (tkTm A n c rb eb ob f v6 v7 v8 v9 v10) ob D l B0 p W1 ps out at_ W)
    (hlp2 : W2.heap[l]? = some (.loop { tkRec fn (tkTm A n c rb eb ob f v6 v7 v8 v9 v10) D .ready none with state:=.busy })) (hon2 : Only (λ k=>k = ob \/ k = l \/ p < k) W W2)
    (hok : ∀ k,(Value.slice Av out.length cv).ownBlock = some k -> p < k) (hv2 : W2.heap[ob]? = some (.cells #[.slice Av out.length cv] 84 (0,0)))
    (hown' : w1.ownsRow B0 3 1 (.slice (some ⟨g',0,none⟩) (out.length + 1) cap') (out.length + 1) (out.map (Value.int .i64) ++ [.int .i64 k])) (hgrow : (W2.alloc lit).grownBy w1 (Value.slice Av out.length cv).ownBlock)
    (hat : (Value.slice (some ⟨g',0,none⟩) (out.length + 1) cap').ownBlock = (Value.slice Av out.length cv).ownBlock \/ (Value.slice (some ⟨g',0,none⟩) (out.length + 1) cap').ownBlock = some (W2.alloc lit).heap.size) :
    ∃ v w',(Instr.endRound l none).run Tryz.prog (w1.setCell ⟨ob,0,none⟩ (.slice (some ⟨g',0,none⟩) (out.length + 1) cap')) = .ok v w' /\ (Ending.returned v = .returned (.bool true) /\ Tk fn (tkTm A n c rb eb ob f v6 v7 v8 v9 v10) ob D l B0 p W1 ps (out ++ [(k : Int)]) at_ w' /\ p < w'.heap.size):=by
 have hg : p < g':=by
  rcases hat with e | e
  · exact hok g' (by rw [<- e]; rfl)
  · have : g' = (W2.alloc lit).heap.size:=by injection e
    rw [this]; simp; omega
 obtain ⟨W3,hW3⟩ : ∃ W3,W3 = w1.setCell ⟨ob,0,none⟩ (.slice (some ⟨g',0,none⟩) (out.length + 1) cap'):=⟨_,rfl⟩
 have hon1 : Only (λ k=>k = ob \/ k = l \/ p < k) W w1:=(hon2.alloc lit).grown hgrow (λ k hk=>.inr (.inr (hok k hk)))
 have hon3 : Only (λ k=>k = ob \/ k = l \/ p < k) W W3:=by rw [hW3]; exact hon1.setCell (p:=⟨ob,0,none⟩) (.inl rfl) _
 have hv1 : w1.heap[ob]? = some (.cells #[.slice Av out.length cv] 84 (0,0)):=a0V (a0i hv2 _) hgrow (λ e=>hob e.symm)
 have hv3 : W3.heap[ob]? = some (.cells #[.slice (some ⟨g',0,none⟩) (out.length + 1) cap'] 84 (0,0)):=by rw [hW3]; exact (a0n hv1 0 _).trans rfl
 have hl1 : w1.heap[l]? = some (.loop { tkRec fn (tkTm A n c rb eb ob f v6 v7 v8 v9 v10) D .ready none with state:=.busy }):=a0V (a0i hlp2 _) hgrow (λ e=>by have:=hok l e.symm; omega)
 have hl3 : W3.heap[l]? = some (.loop { tkRec fn (tkTm A n c rb eb ob f v6 v7 v8 v9 v10) D .ready none with state:=.busy }):=by rw [hW3]; exact (Below.heap_setCell _ ⟨ob,0,none⟩ _ l (by show l ≠ ob; omega)).trans hl1
 have hown3 : W3.ownsRow B0 3 1 (.slice (some ⟨g',0,none⟩) (out.length + 1) cap') (out.length + 1) (out.map (Value.int .i64) ++ [.int .i64 k]):=a5p hown' (λ j hj=>by
  have : j = g':=by injection hj with e; exact e.symm
  rw [hW3]; exact Below.heap_setCell _ ⟨ob,0,none⟩ _ j (by show j ≠ ob; omega))
 have hs3 : p < W3.heap.size:=by
  have h1:=hgrow.size
  have h2 : W3.heap.size = w1.heap.size:=by rw [hW3]; simp [World.setCell]
  simp at h1; omega
 have hsl:=a0f hl3
 rw [<- hW3]
 clear hW3
 refine ⟨_,_,run_endRound none hl3,rfl,?_,by simpa using hs3⟩
 have hon4 : Only (λ k=>k = ob \/ k = l \/ p < k) W (W3.putObj l (.loop { tkRec fn (tkTm A n c rb eb ob f v6 v7 v8 v9 v10) D .ready none with state:=if (none : Option Code).isNone then .ready else .done,pending:=none })):=hon3.putObj (.inr (.inl rfl)) _
 refine ⟨h.rd.only hon4 (λ h=>by omega) (λ k hB hk h=>by omega),⟨_,(World.putObj_heap_other (by omega)).trans hv3,?_,λ j hj=>?_⟩,World.putObj_heap_same hsl,h.on.trans2 hon4 (λ k _ h=>by omega)⟩
 · rw [List.length_append,List.map_append]
   exact a5p hown3 (λ j hj=>by
    have : j = g':=by injection hj with e; exact e.symm
    exact World.putObj_heap_other (by omega))
 · have : j = g':=by injection hj with e; exact e.symm
   omega
set_option maxRecDepth 100000 in
set_option maxHeartbeats 2000000 in
theorem c7c (m : Nat) (fn : FuncId) (A : Option Addr) (n c rb eb ob D l B0 p : Nat) (f v6 v7 v8 v9 v10 : Value) (W1 : World) (ps out : List Int) (at_ : Nat) (W : World) (h : Tk fn (tkTm A n c rb eb ob f v6 v7 v8 v9 v10) ob D l B0 p W1 ps out at_ W) (k : Nat) (hol : out.length <= 256) (hgo : ((out.length : Int) == 0) = false \/ (k = 0 /\ out = []))
    (ho : ob < l) (hl : l < B0) (hp : B0 <= p) (hW : p < W.heap.size) :
    RoundIn Fence.wide m Tryz.prog l fn #[.slice A n c,undef,.pointer (some ⟨rb,0,none⟩),.pointer (some ⟨eb,0,none⟩),.pointer (some ⟨ob,0,none⟩),undef,v6,v7,v8,v9,v10,f,.int .i64 k,undef,undef,undef,undef,undef,undef,undef,undef,undef,undef,undef,undef,undef,undef,undef] a5n a5o W
     λ e W'=>e = .returned (.bool true) /\ Tk fn (tkTm A n c rb eb ob f v6 v7 v8 v9 v10) ob D l B0 p W1 ps (out ++ [(k : Int)]) at_ W' /\ p < W'.heap.size:=by
 refine roundIn_of_wpIn trivial ?_
 have hll : l < W.heap.size:=a0f h.lp
 have hbr:=run_beginRound (P:=Tryz.prog) h.lp rfl
 have hlp2 : (W.putObj l (.loop { tkRec fn (tkTm A n c rb eb ob f v6 v7 v8 v9 v10) D .ready none with state:=.busy })).heap[l]? = some (.loop { tkRec fn (tkTm A n c rb eb ob f v6 v7 v8 v9 v10) D .ready none with state:=.busy }):=World.putObj_heap_same hll
 have hon2 : Only (λ k=>k = ob \/ k = l \/ p < k) W (W.putObj l (.loop { tkRec fn (tkTm A n c rb eb ob f v6 v7 v8 v9 v10) D .ready none with state:=.busy })):=(Only.refl _ W).putObj (.inr (.inl rfl)) _
 obtain ⟨W2,hW2⟩ : ∃ W2,W.putObj l (.loop { tkRec fn (tkTm A n c rb eb ob f v6 v7 v8 v9 v10) D .ready none with state:=.busy }) = W2:=⟨_,rfl⟩
 rw [hW2] at hbr hlp2 hon2
 obtain ⟨v,hv,hown,hok⟩:=h.v
 obtain ⟨Av,cv,rfl⟩:=a3W hown
 have hv2 : W2.heap[ob]? = some (.cells #[.slice Av out.length cv] 84 (0,0)):=by rw [<- hW2]; exact (World.putObj_heap_other (by omega)).trans hv
 have hown2 : W2.ownsRow B0 3 1 (.slice Av out.length cv) out.length (out.map (Value.int .i64)):=a5p hown (λ k hk=>by rw [<- hW2]; exact World.putObj_heap_other (by have:=hok k hk; omega))
 have hs2 : p < W2.heap.size:=by rw [<- hW2]; simpa using hW
 have hc2 : W2.cell? ⟨ob,0,none⟩ = some (.slice Av out.length cv):=(a0a hv2 0).trans rfl
 have hf2 : W2.frozen? ⟨ob,0,none⟩ = false:=a0e hv2 0
 have HT:=Lib.hid h
 have HF:=Lib.hid (And.intro hv2 (And.intro hok (And.intro hlp2 hon2)))
 obtain ⟨i0,hi,hz0,hz1,hz2⟩:=info_parts a4G
 clear hW2 h hv hown hlp2 hon2 hv2 hok
 unfold a5n
 gi_wp2
 clear hbr
 unfold a5o
 rcases hgo with hgo | ⟨hgo,hgo2⟩
 · gi_wp2_with (gi_at_builtin; refine wpListIn_append_own_at _ rfl (.tmp 20) (.tmp 22) 84 rfl B0 3 i0 (.int .i64 0) 1 8 Tryz.underlying84 hi hz0 hz1 hz2 rfl (by decide) (.slice Av out.length cv) out.length (out.map (Value.int .i64)) rfl (hown2.alloc _) ⟨W2.heap.size,0,none⟩ 1 1 [.int .i64 k] rfl rfl (cell_one_new _ _ _) (by simp [Value.oneCell']) (by unfold maxLen; omega) (by omega) (by simp; omega) ?_; intro v' w1 hown' hgrow _ hat; obtain ⟨g',cap',rfl⟩:=ownsRow_succ hown'; have HA:=Lib.hid (And.intro hown' (And.intro hgrow hat)); have hv3:=a0V (a0i HF.out.1 _) hgrow (λ e=>by have:=HF.out.2.1 _ e.symm; omega); have hc3:=(a0a hv3 0).trans rfl; have hf3:=a0e hv3 0; clear hown' hgrow hat hv3)
   exact tkEnd hp (λ e=>by have:=HF.out.2.1 _ e; omega) ho hl hs2 HT.out HF.out.2.2.1 HF.out.2.2.2 (λ k hk=>HF.out.2.1 k hk) HF.out.1 HA.out.1 HA.out.2.1 HA.out.2.2
 · subst hgo hgo2
   have hown2 : W2.ownsRow B0 3 1 (.slice Av 0 cv) 0 []:=hown2
   gi_wp2_with (gi_at_builtin; refine wpListIn_append_own_at _ rfl (.tmp 20) (.tmp 22) 84 rfl B0 3 i0 (.int .i64 0) 1 8 Tryz.underlying84 hi hz0 hz1 hz2 rfl (by decide) (.slice Av 0 cv) 0 [] rfl (hown2.alloc _) ⟨W2.heap.size,0,none⟩ 1 1 [.int .i64 0] rfl rfl (cell_one_new _ _ _) (by simp [Value.oneCell']) (by unfold maxLen; omega) (by omega) (by simp; omega) ?_; intro v' w1 hown' hgrow _ hat; obtain ⟨g',cap',rfl⟩:=ownsRow_succ hown'; have HA:=Lib.hid (And.intro hown' (And.intro hgrow hat)); have hv3:=a0V (a0i HF.out.1 _) hgrow (λ e=>by have:=HF.out.2.1 _ e.symm; omega); have hc3:=(a0a hv3 0).trans rfl; have hf3:=a0e hv3 0; clear hown' hgrow hat hv3)
   exact tkEnd hp (λ e=>by have:=HF.out.2.1 _ e; omega) ho hl hs2 HT.out HF.out.2.2.1 HF.out.2.2.2 (λ k hk=>HF.out.2.1 k hk) HF.out.1 HA.out.1 HA.out.2.1 HA.out.2.2
structure TkX (fn : FuncId) (tm : Array Value) (rb eb ob D l B0 : Nat) (W1 : World) (W : World) : Prop where
 lp : W.heap[l]? = some (.loop (tkRec fn tm D .done (some .ret)))
 r0 : W.heap[rb]? = some (.cells #[.slice none 0 0] 84 (0,0))
 r1 : W.heap[eb]? = some (.cells #[.int .i64 13] 27 (0,0))
 on : Only (λ k=>k = ob \/ k = l \/ k = rb \/ k = eb \/ B0 <= k) W1 W
set_option maxRecDepth 100000 in
set_option maxHeartbeats 2000000 in
theorem c7d (m : Nat) (fn : FuncId) (A : Option Addr) (n c rb eb ob D l B0 p : Nat) (f v6 v7 v8 v9 v10 : Value) (W1 : World) (ps : List Int) (at_ : Nat) (W : World) (h : Tk fn (tkTm A n c rb eb ob f v6 v7 v8 v9 v10) ob D l B0 p W1 ps [] at_ W) (k : Nat) (hk : k ≠ 0)
    (hr : W1.heap[rb]? = some (.cells #[.slice none 0 0] 84 (0,0))) (he : W1.heap[eb]? = some (.cells #[.int .i64 0] 27 (0,0)))
    (h1 : rb < eb) (h2 : eb < ob) (ho : ob < l) (hl : l < B0) :
    RoundIn Fence.wide m Tryz.prog l fn #[.slice A n c,undef,.pointer (some ⟨rb,0,none⟩),.pointer (some ⟨eb,0,none⟩),.pointer (some ⟨ob,0,none⟩),undef,v6,v7,v8,v9,v10,f,.int .i64 k,undef,undef,undef,undef,undef,undef,undef,undef,undef,undef,undef,undef,undef,undef,undef] a5n a5o W
     λ e W'=>e = .returned (.bool false) /\ TkX fn (tkTm A n c rb eb ob f v6 v7 v8 v9 v10) rb eb ob D l B0 W1 W':=by
 refine roundIn_of_wpIn trivial ?_
 have hll : l < W.heap.size:=a0f h.lp
 have hbr:=run_beginRound (P:=Tryz.prog) h.lp rfl
 have hlp2 : (W.putObj l (.loop { tkRec fn (tkTm A n c rb eb ob f v6 v7 v8 v9 v10) D .ready none with state:=.busy })).heap[l]? = some (.loop { tkRec fn (tkTm A n c rb eb ob f v6 v7 v8 v9 v10) D .ready none with state:=.busy }):=World.putObj_heap_same hll
 have hon2 : Only (λ k=>k = ob \/ k = l \/ k = rb \/ k = eb \/ B0 <= k) W1 (W.putObj l (.loop { tkRec fn (tkTm A n c rb eb ob f v6 v7 v8 v9 v10) D .ready none with state:=.busy })):=(h.on.mono (λ k _ hk=>by omega)).putObj (.inr (.inl rfl)) _
 have hr0 : W.heap[rb]? = some (.cells #[.slice none 0 0] 84 (0,0)):=(h.on.block rb (a0f hr) (by omega)).trans hr
 have he0 : W.heap[eb]? = some (.cells #[.int .i64 0] 27 (0,0)):=(h.on.block eb (a0f he) (by omega)).trans he
 obtain ⟨W2,hW2⟩ : ∃ W2,W.putObj l (.loop { tkRec fn (tkTm A n c rb eb ob f v6 v7 v8 v9 v10) D .ready none with state:=.busy }) = W2:=⟨_,rfl⟩
 rw [hW2] at hbr hlp2 hon2
 obtain ⟨v,hv,hown,hok⟩:=h.v
 obtain ⟨Av,cv,rfl⟩:=a3W hown
 have hv2 : W2.heap[ob]? = some (.cells #[.slice Av 0 cv] 84 (0,0)):=by rw [<- hW2]; exact (World.putObj_heap_other (by omega)).trans hv
 have hr2 : W2.heap[rb]? = some (.cells #[.slice none 0 0] 84 (0,0)):=by rw [<- hW2]; exact (World.putObj_heap_other (by omega)).trans hr0
 have he2 : W2.heap[eb]? = some (.cells #[.int .i64 0] 27 (0,0)):=by rw [<- hW2]; exact (World.putObj_heap_other (by omega)).trans he0
 have hc2 : W2.cell? ⟨ob,0,none⟩ = some (.slice Av 0 cv):=(a0a hv2 0).trans rfl
 have hcr : W2.cell? ⟨rb,0,none⟩ = some (.slice none 0 0):=(a0a hr2 0).trans rfl
 have hce : W2.cell? ⟨eb,0,none⟩ = some (.int .i64 0):=(a0a he2 0).trans rfl
 have hfr : W2.frozen? ⟨rb,0,none⟩ = false:=a0e hr2 0
 have hfe : W2.frozen? ⟨eb,0,none⟩ = false:=a0e he2 0
 have HF:=Lib.hid (And.intro hr2 (And.intro he2 (And.intro hlp2 hon2)))
 have hkz : ((k : Int) != 0) = true:=by simpa using hk
 have hre : rb ≠ eb:=by omega
 clear hW2 h hv hown hlp2 hon2 hv2 hok hr2 he2 hr0 he0 hr he
 unfold a5n
 gi_wp2
 clear hbr
 unfold a5o
 gi_wp2
 have H3 : ((W2.setCell ⟨rb,0,none⟩ (.slice none 0 0)).setCell ⟨eb,0,none⟩ (.int .i64 13)).heap[l]? = some (.loop { tkRec fn (tkTm A n c rb eb ob f v6 v7 v8 v9 v10) D .ready none with state:=.busy }):=
  (Below.heap_setCell _ ⟨eb,0,none⟩ _ l (by show l ≠ eb; omega)).trans ((Below.heap_setCell _ ⟨rb,0,none⟩ _ l (by show l ≠ rb; omega)).trans HF.out.2.2.1)
 have H4 : ((W2.setCell ⟨rb,0,none⟩ (.slice none 0 0)).setCell ⟨eb,0,none⟩ (.int .i64 13)).heap[rb]? = some (.cells #[.slice none 0 0] 84 (0,0)):=
  (Below.heap_setCell _ ⟨eb,0,none⟩ _ rb (by show rb ≠ eb; omega)).trans ((a0n HF.out.1 0 _).trans rfl)
 have H5 : ((W2.setCell ⟨rb,0,none⟩ (.slice none 0 0)).setCell ⟨eb,0,none⟩ (.int .i64 13)).heap[eb]? = some (.cells #[.int .i64 13] 27 (0,0)):=
  (a0n ((Below.heap_setCell _ ⟨rb,0,none⟩ _ eb (by show eb ≠ rb; omega)).trans HF.out.2.1) 0 _).trans rfl
 exact ⟨_,_,run_endRound (some .ret) H3,rfl,World.putObj_heap_same (a0f H3),(World.putObj_heap_other (by omega)).trans H4,(World.putObj_heap_other (by omega)).trans H5,
  ((HF.out.2.2.2.setCell (p:=⟨rb,0,none⟩) (.inr (.inr (.inl rfl))) _).setCell (p:=⟨eb,0,none⟩) (.inr (.inr (.inr (.inl rfl)))) _).putObj (.inr (.inl rfl)) _⟩
end Go.Proofs.YtflfjpkmjnnodaaGreat
