/- Plain: what the printed references of counts answer (right, total, log). -/
import Derived.Test.YtflfjpkmjnnodaaGreatES1
import Derived.Test.YtflfjpkmjnnodaaGreatER1
import Derived.Test.YtflfjpkmjnnodaaGreatEM1
import Derived.Test.YtflfjpkmjnnodaaGreatEM2
import Derived.Test.YtflfjpkmjnnodaaGreatEM0
import Derived.Deep.LoopGhost
import Derived.Laws.Rows
import Derived.Deep.DeepCutAuto
import Derived.Deep.RegionHeld3
import Derived.Defers
import Derived.Recover
import Derived.BigQuiet
import Derived.Deep.QuietTactic
namespace Go.Proofs.YtflfjpkmjnnodaaGreat
open Go.RowKit Go.Proofs.YtflfjpkmjnnodaaGreat.PRef Go.Proofs.YtflfjpkmjnnodaaGreatW.PrintWords Go.Proofs.YtflfjpkmjnnodaaGreatW.PrintLast Go.Proofs.YtflfjpkmjnnodaaGreatW.PrintMore
theorem a0C (xs : List Int) (i : Nat) : rd xs (i : Int) = xs.getD i 0:=rfl
theorem wS (i : Nat) (h : i <= 1000000000) : wrap64 ((i : Int) + 1) = ((i + 1 : Nat) : Int):=by rw [w64 (by omega)]; simp
theorem b9Z {c : List Int} {i : Nat} (h : i < c.length) {P : Int -> Prop} (h1 : ∀ x ∈ c.take i,P x) (h2 : P (c.getD i 0)) : ∀ x ∈ c.take (i + 1),P x:=by
 intro x hx
 rw [List.take_succ_eq_append_getElem h] at hx
 rcases List.mem_append.1 hx with hx | hx
 · exact h1 x hx
 · rw [List.mem_singleton.1 hx]
   rw [List.getD_eq_getElem?_getD,List.getElem?_eq_getElem h] at h2; exact h2
theorem a1Y {c : List Int} {i : Nat} (h : i < c.length) : c.getD i 0 ∈ c:=by
 rw [List.getD_eq_getElem?_getD,List.getElem?_eq_getElem h]; exact List.getElem_mem h
theorem c0a (c : List Int) (hl : c.length = 256) : ∀ (d i : Nat) (s : Int),i + d = 256 -> i <= 256 -> s = (c.take i).sum -> (∀ x ∈ c.take i,0 <= x /\ x <= 1073741824) -> 0 <= s -> s <= i * 1073741824 ->
    Ev (λ k=>puncheonref05_Right.l0 k c s (i : Int)) (a0P c):=by
 intro d
 induction d with
 | zero=>
  intro i s hd hi hs ha h0 h1
  refine Ev.step (λ k=>(show puncheonref05_Right.l0 (k + 1) c s (i : Int) = _ by simp only [puncheonref05_Right.l0]; rw [if_neg (by omega)])) ?_
  rw [List.take_of_length_le (by omega)] at hs ha
  have e : a0P c = decide (s <= 1073741824):=by
   unfold a0P; rw [hs]; exact decide_eq_decide.2 ⟨λ h=>h.2.2,λ h=>⟨hl,λ x hx=>(ha x hx).1,h⟩⟩
  rw [e]; exact Ev.now _
 | succ d ih=>
  intro i s hd hi hs ha h0 h1
  have hlt : i < c.length:=by omega
  have hts:=a4b hlt
  by_cases hn : c.getD i 0 < 0
  · refine Ev.step (λ k=>(show puncheonref05_Right.l0 (k + 1) c s (i : Int) = _ by simp only [puncheonref05_Right.l0]; rw [if_pos (by omega),if_pos (by omega),if_pos (by omega),a0C,if_pos hn])) ?_
    have e : a0P c = false:=by
     rw [<- Bool.not_eq_true,rightC_iff]; intro h
     have:=h.2.1 _ (a1Y hlt); omega
    rw [e]; exact Ev.now _
  · by_cases hb : c.getD i 0 > 1073741824
    · refine Ev.step (λ k=>(show puncheonref05_Right.l0 (k + 1) c s (i : Int) = _ by simp only [puncheonref05_Right.l0]; rw [if_pos (by omega),if_pos (by omega),if_pos (by omega),a0C,if_neg hn,if_pos hb])) ?_
      have e : a0P c = false:=by
       rw [<- Bool.not_eq_true,rightC_iff]; intro h
       have:=a6u h.2.1 (a1Y hlt); omega
      rw [e]; exact Ev.now _
    · refine Ev.step (λ k=>(show puncheonref05_Right.l0 (k + 1) c s (i : Int) = _ by simp only [puncheonref05_Right.l0]; rw [if_pos (by omega),if_pos (by omega),if_pos (by omega),a0C,if_neg hn,if_neg hb,wS i (by omega),w64 (n:=s + c.getD i 0) (by omega)])) ?_
      exact ih (i + 1) _ (by omega) (by omega) (by rw [hts,hs]) (b9Z hlt ha (by omega)) (by omega) (by omega)
theorem b2K (c : List Int) : Ev (λ k=>puncheonref05_Right.f k c) (a0P c):=by
 by_cases hl : c.length = 256
 · refine Ev.congr (λ k=>(show puncheonref05_Right.f k c = _ by unfold puncheonref05_Right.f; rw [if_pos (by omega)])) ?_
   exact c0a c hl 256 0 0 (by omega) (by omega) (by simp) (by simp) (by omega) (by omega)
 · refine Ev.congr (λ k=>(show puncheonref05_Right.f k c = _ by unfold puncheonref05_Right.f; rw [if_neg (by omega)])) ?_
   have e : a0P c = false:=by rw [<- Bool.not_eq_true,rightC_iff]; exact λ h=>hl h.1
   rw [e]; exact Ev.now _
theorem b2L (c : List Int) (hr : a0P c = true) : ∀ (d i : Nat) (s : Int),c.length - i = d -> i <= c.length -> s = (c.take i).sum -> Ev (λ k=>puncheonref05_Total.l0 k c s true (i : Int)) c.sum
 | 0,i,s,hd,hi,hs=>by
  refine Ev.step (λ k=>(show puncheonref05_Total.l0 (k + 1) c s true (i : Int) = _ by simp only [puncheonref05_Total.l0]; rw [if_neg (by omega)])) ?_
  rw [List.take_of_length_le (by omega)] at hs
  rw [<- hs]; exact Ev.now _
 | d + 1,i,s,hd,hi,hs=>by
  have hlt : i < c.length:=by omega
  have hts:=a4b hlt
  have hR:=rightC_iff.1 hr
  have h1:=a8F hR.2.1 (i + 1)
  have h2 : 0 <= (c.take (i + 1)).sum:=a2O (λ x hx=>hR.2.1 x (List.mem_of_mem_take hx))
  refine Ev.step (λ k=>(show puncheonref05_Total.l0 (k + 1) c s true (i : Int) = _ by simp only [puncheonref05_Total.l0]; rw [if_pos (by omega),if_pos trivial,if_pos (by omega),a0C,wS i (by omega),w64 (n:=s + c.getD i 0) (by omega)])) ?_
  exact b2L c hr d (i + 1) _ (by omega) (by omega) (by rw [hts,hs])
theorem b2M (c : List Int) : Ev (λ k=>puncheonref05_Total.f k c) (a1c c):=by
 unfold puncheonref05_Total.f
 refine Ev.bind (b2K c) ?_
 unfold a1c
 cases hr : a0P c with
 | true=>rw [if_pos rfl]; exact b2L c hr _ 0 0 rfl (by omega) (by simp)
 | false=>
  rw [if_neg (by decide)]
  refine Ev.step (λ k=>(show puncheonref05_Total.l0 (k + 1) c 0 false 0 = some 0 by simp only [puncheonref05_Total.l0]; split <;> simp)) (Ev.now _)
theorem b2N (r : Nat) (hr : r <= 30) : ∀ (d i : Nat),r - i = d -> i <= r -> Ev (λ k=>puncheonref08_power.l0 k (r : Int) ((2 ^ i : Nat) : Int) (i : Int)) ((2 ^ r : Nat) : Int)
 | 0,i,hd,hi=>by
  obtain rfl : i = r:=by omega
  exact Ev.step (λ k=>(show puncheonref08_power.l0 (k + 1) (i : Int) _ (i : Int) = _ by simp only [puncheonref08_power.l0]; rw [if_neg (by omega)])) (Ev.now _)
 | d + 1,i,hd,hi=>by
  have hp : 2 ^ (i + 1) <= 2 ^ 30:=Nat.pow_le_pow_right (by omega) (by omega)
  have e : (2 : Int) * ((2 ^ i : Nat) : Int) = ((2 ^ (i + 1) : Nat) : Int):=by rw [Nat.pow_succ]; omega
  have e2 : wrap64 ((2 ^ (i + 1) : Nat) : Int) = ((2 ^ (i + 1) : Nat) : Int):=by
   generalize 2 ^ (i + 1) = P at hp ⊢
   exact w64 (by omega)
  refine Ev.step (λ k=>(show puncheonref08_power.l0 (k + 1) (r : Int) _ (i : Int) = _ by simp only [puncheonref08_power.l0]; rw [if_pos (by omega),wS i (by omega),e,e2])) ?_
  exact b2N r hr d (i + 1) (by omega) (by omega)
theorem b2O (r : Nat) (hr : r <= 30) : Ev (λ k=>puncheonref08_power.f k (r : Int)) ((2 ^ r : Nat) : Int):=by
 unfold puncheonref08_power.f; exact b2N r hr r 0 (by omega) (by omega)
theorem b2P (t : Int) : ∀ (d i : Nat),i + d = 13 -> 1 <= i -> i <= 13 -> (∀ r,1 <= r -> r < i -> t ≠ 2 ^ r) -> Ev (λ k=>puncheonref08_Log.l0 k t (i : Int)) ((logT t : Nat) : Int)
 | 0,i,hd,h1,hi,hn=>by
  obtain rfl : i = 13:=by omega
  rw [b2I (λ r a b=>hn r a (by omega))]
  exact Ev.step (λ k=>(show puncheonref08_Log.l0 (k + 1) t ((13 : Nat) : Int) = _ by simp only [puncheonref08_Log.l0]; rw [if_neg (by decide)]; rfl)) (Ev.now _)
 | d + 1,i,hd,h1,hi,hn=>by
  refine Ev.step (λ k=>(show puncheonref08_Log.l0 (k + 1) t (i : Int) = _ by simp only [puncheonref08_Log.l0]; rw [if_pos (by omega)])) ?_
  refine Ev.bind (b2O i (by omega)) ?_
  have e : ((2 ^ i : Nat) : Int) = 2 ^ i:=by simp
  by_cases ht : t = 2 ^ i
  · refine Ev.congr (λ k=>if_pos (by rw [e]; exact ht)) ?_
    rw [a6v h1 (by omega) ht]; exact Ev.now _
  · refine Ev.congr (λ k=>(if_neg (by rw [e]; exact ht)).trans (by rw [wS i (by omega)])) ?_
    refine b2P t d (i + 1) (by omega) (by omega) (by omega) (λ r a b=>?_)
    by_cases hri : r = i
    · rw [hri]; exact ht
    · exact hn r a (by omega)
theorem a5q (c : List Int) : Ev (λ k=>puncheonref08_Log.f k c) ((logC c : Nat) : Int):=by
 unfold puncheonref08_Log.f
 exact Ev.bind (b2M c) (b2P _ 12 1 (by omega) (by omega) (by omega) (λ r a b=>by omega))
def packT (l : List Bool) (i : Nat) : List Int:=(List.range ((l.length + 7) / 8)).map (λ j=>(byteL (((l.take i).drop (8 * j)).take 8) : Int))
theorem a4h (l : List Bool) (i : Nat) : (packT l i).length = (l.length + 7) / 8:=by simp [packT]
theorem a4i (l : List Bool) (i j : Nat) (h : j < (packT l i).length) : (packT l i)[j] = (byteL (((l.take i).drop (8 * j)).take 8) : Int):=by simp [packT]
theorem c2S (l : List Bool) : packT l 0 = List.replicate ((l.length + 7) / 8) 0:=by
 refine List.ext_getElem (by rw [a4h,List.length_replicate]) λ j h1 h2=>?_
 rw [a4i,List.getElem_replicate]; simp [byteL]
theorem c2T (l : List Bool) : packT l l.length = packB l:=by
 unfold packT packB; rw [List.take_length]
theorem a7f {l : List Bool} {i : Nat} (hi : i < l.length) : (((l.take (i + 1)).drop (8 * (i / 8))).take 8) = (((l.take i).drop (8 * (i / 8))).take 8) ++ [l[i]] /\ (((l.take i).drop (8 * (i / 8))).take 8).length = i % 8:=by
 have hl : (l.take i).length = i:=by rw [List.length_take]; omega
 rw [List.take_succ_eq_append_getElem hi,List.drop_append_of_le_length (by omega)]
 have h2 : ((l.take i).drop (8 * (i / 8))).length = i % 8:=by rw [List.length_drop,hl]; omega
 rw [List.take_of_length_le (by rw [List.length_append,h2,List.length_singleton]; omega),List.take_of_length_le (i:=8) (l:=(l.take i).drop (8 * (i / 8))) (by omega)]
 exact ⟨rfl,h2⟩
theorem b4q {l : List Bool} {i j : Nat} (hi : i < l.length) (hj : j ≠ i / 8) : (((l.take (i + 1)).drop (8 * j)).take 8) = (((l.take i).drop (8 * j)).take 8):=by
 have hl : (l.take i).length = i:=by rw [List.length_take]; omega
 rw [List.take_succ_eq_append_getElem hi]
 by_cases h : 8 * j + 8 <= i
 · exact a8V _ _ _ (by omega)
 · rw [List.drop_of_length_le (by rw [List.length_append,hl,List.length_singleton]; omega),List.drop_of_length_le (by omega)]
theorem c2U {l : List Bool} {i : Nat} (hi : i < l.length) (h : l[i] = false) : packT l (i + 1) = packT l i:=by
 refine List.ext_getElem (by rw [a4h,a4h]) λ j h1 h2=>?_
 rw [a4i,a4i]
 by_cases hj : j = i / 8
 · subst hj
   rw [(a7f hi).1,h,a3h]; simp
 · rw [b4q hi hj]
theorem c2V {l : List Bool} {i : Nat} (hi : i < l.length) (h : l[i] = true) : packT l (i + 1) = (packT l i).set (i / 8) ((packT l i).getD (i / 8) 0 + 2 ^ (i % 8)):=by
 have hlen : i / 8 < (packT l i).length:=by rw [a4h]; omega
 refine List.ext_getElem (by rw [a4h,List.length_set,a4h]) λ j h1 h2=>?_
 rw [List.getElem_set,a4i]
 by_cases hj : i / 8 = j
 · subst hj
   rw [if_pos rfl,List.getD_eq_getElem?_getD,List.getElem?_eq_getElem hlen,Option.getD_some,a4i,(a7f hi).1,h,a3h,(a7f hi).2]; simp
 · rw [if_neg hj,a4i,b4q hi (λ e=>hj e.symm)]
theorem c2W (l : List Bool) (i j : Nat) (hj : j < (packT l i).length) : 0 <= (packT l i).getD j 0 /\ (packT l i).getD j 0 < 2 ^ ((((l.take i).drop (8 * j)).take 8).length):=by
 rw [List.getD_eq_getElem?_getD,List.getElem?_eq_getElem hj,Option.getD_some,a4i]
 have:=a3G (((l.take i).drop (8 * j)).take 8)
 have e : (2 : Int) ^ ((((l.take i).drop (8 * j)).take 8).length) = ((2 ^ ((((l.take i).drop (8 * j)).take 8).length) : Nat) : Int):=by simp
 rw [e]; omega
theorem c2X (k : Nat) (h : k < 8) : shl .u8 1 (k : Int) = 2 ^ k:=by
 have : k = 0 \/ k = 1 \/ k = 2 \/ k = 3 \/ k = 4 \/ k = 5 \/ k = 6 \/ k = 7:=by omega
 rcases this with rfl | rfl | rfl | rfl | rfl | rfl | rfl | rfl <;> decide
theorem c2Y (l : List Bool) (hl : l.length <= 1000000) : ∀ (d i : Nat),i + d = l.length -> Ev (λ k=>puncheonref01_Bytes.l0 k l (packT l i) i) (packB l):=by
 intro d
 induction d with
 | zero=>
  intro i hi
  refine Ev.step (λ k=>(show puncheonref01_Bytes.l0 (k + 1) _ _ _ = _ by simp only [puncheonref01_Bytes.l0]; rw [if_neg (by omega)])) ?_
  rw [show i = l.length by omega,c2T]; exact Ev.now _
 | succ d ih=>
  intro i hi
  have hlt : i < l.length:=by omega
  have c1 : (i : Int) < (l.length : Int):=by omega
  have c2 : (0 : Int) <= i:=by omega
  have ih':=ih (i + 1) (by omega)
  have hr : rdOf false l (i : Int) = l[i]:=by
   unfold rdOf; rw [Int.toNat_natCast,List.getD_eq_getElem?_getD,List.getElem?_eq_getElem hlt]; rfl
  cases hb : l[i] with
  | false=>
   rw [c2U hlt hb] at ih'
   refine Ev.step (λ k=>(show puncheonref01_Bytes.l0 (k + 1) _ _ _ = _ by simp only [puncheonref01_Bytes.l0]; rw [if_pos c1,if_pos c2,hr,hb,if_neg (by simp),wS i (by omega)])) ?_
   exact ih'
  | true=>
   rw [c2V hlt hb] at ih'
   have hlen : i / 8 < (packT l i).length:=by rw [a4h]; omega
   have e1 : wrap64 (Int.tdiv (i : Int) 8) = ((i / 8 : Nat) : Int):=by
    rw [Int.tdiv_eq_ediv_of_nonneg (by omega),w64 (by omega)]; simp
   have e2 : Int.tmod (i : Int) 8 = ((i % 8 : Nat) : Int):=by rw [Int.tmod_eq_emod_of_nonneg (by omega)]; simp
   have hrg:=c2W l i (i / 8) hlen
   rw [(a7f hlt).2] at hrg
   have e3 : ((packT l i).getD (i / 8) 0 + 2 ^ (i % 8)) % 256 = (packT l i).getD (i / 8) 0 + 2 ^ (i % 8):=by
    have h1 : (2 : Nat) ^ (i % 8) <= 2 ^ 7:=Nat.pow_le_pow_right (by omega) (by omega)
    have e : (2 : Int) ^ (i % 8) = ((2 ^ (i % 8) : Nat) : Int):=by simp
    rw [e] at hrg ⊢
    omega
   have c3 : (0 : Int) <= ((i / 8 : Nat) : Int):=by omega
   have c4 : ((i / 8 : Nat) : Int) < ((packT l i).length : Int):=by omega
   have c5 : (0 : Int) <= ((i % 8 : Nat) : Int):=by omega
   refine Ev.step (λ k=>(show puncheonref01_Bytes.l0 (k + 1) _ _ _ = _ by simp only [puncheonref01_Bytes.l0]; rw [if_pos c1,if_pos c2,hr,hb,if_pos rfl,e1,e2,if_pos c3,if_pos c4,if_pos c5,a0C,c2X _ (by omega),e3,Int.toNat_natCast,wS i (by omega)])) ?_
   exact ih'
theorem b4r (l : List Bool) (hl : l.length <= 1000000) : Ev (λ k=>puncheonref01_Bytes.f k l) (packB l):=by
 have h:=c2Y l hl l.length 0 (by omega)
 rw [c2S] at h
 have e : wrap64 (Int.tdiv (wrap64 ((l.length : Int) + 7)) 8) = (((l.length + 7) / 8 : Nat) : Int):=by
  rw [w64 (n:=(l.length : Int) + 7) (by omega),Int.tdiv_eq_ediv_of_nonneg (by omega),w64 (by omega)]; simp
 have c1 : (0 : Int) <= (((l.length + 7) / 8 : Nat) : Int):=by omega
 have c2 : (((l.length + 7) / 8 : Nat) : Int).toNat <= 281474976710656:=by omega
 refine Ev.congr (λ k=>(show puncheonref01_Bytes.f k l = puncheonref01_Bytes.l0 k l (List.replicate ((l.length + 7) / 8) 0) 0 by unfold puncheonref01_Bytes.f; rw [e,if_pos c1,if_pos c2,Int.toNat_natCast])) ?_
 exact h
theorem a9m (qs : List (List Int)) (i : Nat) : rd_L3 qs (i : Int) = qs.getD i []:=rfl
def okQ (lg : Int) (one : Bool) (q : List Int) : Bool:=(decide (q.length = 0) && !one) || decide ((logC q : Int) = lg)
theorem c3a (lg : Int) (one : Bool) (qs : List (List Int)) (hl : qs.length <= 1000000) : ∀ (d i : Nat),i + d = qs.length -> Ev (λ k=>puncheonref16_Right.l0 k (i : Int) lg one qs) ((qs.drop i).all (okQ lg one)):=by
 intro d
 induction d with
 | zero=>
  intro i hi
  refine Ev.step (λ k=>(show puncheonref16_Right.l0 (k + 1) _ _ _ _ = _ by simp only [puncheonref16_Right.l0]; rw [if_neg (by omega)])) ?_
  rw [List.drop_of_length_le (by omega)]; exact Ev.now _
 | succ d ih=>
  intro i hi
  have hlt : i < qs.length:=by omega
  have c1 : (i : Int) < (qs.length : Int):=by omega
  have c2 : (0 : Int) <= i:=by omega
  have hd : qs.drop i = qs.getD i [] :: qs.drop (i + 1):=by rw [List.drop_eq_getElem_cons hlt,List.getD_eq_getElem?_getD,List.getElem?_eq_getElem hlt,Option.getD_some]
  rw [hd,List.all_cons]
  have ih':=ih (i + 1) (by omega)
  have hj : ∀ b : Bool,b = (decide ((qs.getD i []).length = 0) && !one) -> Ev (λ k=>puncheonref16_Right.j2 k (i : Int) b lg one qs) (okQ lg one (qs.getD i []) && (qs.drop (i + 1)).all (okQ lg one)):=by
   intro b hb
   unfold okQ
   rw [<- hb]
   cases b with
   | true=>
    refine Ev.step (λ k=>(show puncheonref16_Right.j2 (k + 1) _ _ _ _ _ = _ by simp only [puncheonref16_Right.j2]; rw [if_pos trivial,wS i (by omega)])) ?_
    rw [Bool.true_or,Bool.true_and]; exact ih'
   | false=>
    refine Ev.step (λ k=>(show puncheonref16_Right.j2 (k + 1) _ _ _ _ _ = _ by simp only [puncheonref16_Right.j2]; rw [if_neg (by decide),if_pos c2,if_pos c1,a9m])) ?_
    refine Ev.bind (a5q _) ?_
    by_cases h : (logC (qs.getD i []) : Int) = lg
    · refine Ev.congr (f:=λ k=>puncheonref16_Right.l0 k ((i + 1 : Nat) : Int) lg one qs) (λ k=>by rw [if_pos h,wS i (by omega)]) ?_
      rw [Bool.false_or,decide_eq_true h,Bool.true_and]; exact ih'
    · refine Ev.congr (f:=λ k=>some false) (λ k=>by rw [if_neg h]) ?_
      rw [Bool.false_or,decide_eq_false h,Bool.false_and]; exact Ev.now _
  by_cases h0 : (qs.getD i []).length = 0
  · refine Ev.step (λ k=>(show puncheonref16_Right.l0 (k + 1) _ _ _ _ = _ by simp only [puncheonref16_Right.l0]; rw [if_pos c1,if_pos c2,a9m,if_pos (by omega)])) ?_
    exact hj (!one) (by rw [decide_eq_true h0,Bool.true_and])
  · refine Ev.step (λ k=>(show puncheonref16_Right.l0 (k + 1) _ _ _ _ = _ by simp only [puncheonref16_Right.l0]; rw [if_pos c1,if_pos c2,a9m,if_neg (by omega)])) ?_
    exact hj false (by rw [decide_eq_false h0,Bool.false_and])
theorem c3b {lg : Int} (h1 : 1 <= lg) (q : List Int) : okQ lg false q = !badQ lg q:=by
 unfold okQ badQ
 by_cases h0 : q.length = 0
 · have h2 : ¬ (0 < q.length /\ ¬ (logC q ≠ 0 /\ (logC q : Int) = lg)):=by omega
   rw [decide_eq_true h0,decide_eq_false h2]; simp
 · rw [decide_eq_false h0,Bool.false_and,Bool.false_or]
   by_cases h : (logC q : Int) = lg
   · have h2 : ¬ (0 < q.length /\ ¬ (logC q ≠ 0 /\ (logC q : Int) = lg)):=by omega
     rw [decide_eq_true h,decide_eq_false h2]; rfl
   · have h2 : (0 < q.length /\ ¬ (logC q ≠ 0 /\ (logC q : Int) = lg)):=by omega
     rw [decide_eq_false h,decide_eq_true h2]; rfl
theorem b4s {lg : Int} {one : Bool} {qs : List (List Int)} (h : 1 <= lg /\ lg <= 12) (hl : qs.length = (if one then 1 else 256)) : qs.all (okQ lg one) = a0z lg one qs:=by
 unfold a0z
 rw [if_neg (by omega)]
 have e : ∀ l : List (List Int),l.all (okQ lg false) = !l.any (badQ lg):=λ l=>by
  induction l with
  | nil=>rfl
  | cons a l ih=>rw [List.all_cons,List.any_cons,ih,c3b h.1,Bool.not_or]
 cases one with
 | false=>
  rw [e]
  cases hb : qs.any (badQ lg) with
  | true=>rfl
  | false=>
   simp only [Bool.false_eq_true,if_false] at hl ⊢
   rw [decide_eq_true hl]; rfl
 | true=>
  simp only [if_true] at hl
  obtain ⟨q,rfl⟩:=List.length_eq_one_iff.1 hl
  simp only [List.all_cons,List.all_nil,List.any_cons,List.any_nil,Bool.and_true,Bool.or_false,List.length_singleton,List.getD_cons_zero,true_and,if_true]
  unfold okQ badQ
  by_cases h0 : q.length = 0
  · have h3:=b3R h0
    have h2 : ¬ (0 < q.length /\ ¬ (logC q ≠ 0 /\ (logC q : Int) = lg)):=by omega
    have h4 : ¬ ((logC q : Int) = lg):=by omega
    have h5 : ¬ (0 < q.length):=by omega
    rw [decide_eq_true h0,Bool.not_true,Bool.and_false,Bool.false_or,decide_eq_false h4,decide_eq_false h2,decide_eq_false h5]; rfl
  · rw [decide_eq_false h0,Bool.false_and,Bool.false_or]
    have h5 : 0 < q.length:=by omega
    by_cases h : (logC q : Int) = lg
    · have h2 : ¬ (0 < q.length /\ ¬ (logC q ≠ 0 /\ (logC q : Int) = lg)):=by omega
      rw [decide_eq_true h,decide_eq_false h2,decide_eq_true h5]; rfl
    · have h2 : (0 < q.length /\ ¬ (logC q ≠ 0 /\ (logC q : Int) = lg)):=by omega
      rw [decide_eq_false h,decide_eq_true h2]; rfl
theorem c3c (lg : Int) (one : Bool) (qs : List (List Int)) (hl : qs.length <= 1000000) : Ev (λ k=>puncheonref16_Right.f k lg one qs) (a0z lg one qs):=by
 have hj : ∀ b : Bool,(b = true -> a0z lg one qs = false) -> (b = false -> qs.all (okQ lg one) = a0z lg one qs) -> Ev (λ k=>puncheonref16_Right.j0 k b lg one qs) (a0z lg one qs):=by
  intro b h1 h2
  cases b with
  | true=>
   refine Ev.step (λ k=>(show puncheonref16_Right.j0 (k + 1) _ _ _ _ = _ by simp only [puncheonref16_Right.j0]; rw [if_pos trivial])) ?_
   rw [h1 rfl]; exact Ev.now _
  | false=>
   refine Ev.step (λ k=>(show puncheonref16_Right.j0 (k + 1) _ _ _ _ = _ by simp only [puncheonref16_Right.j0]; rw [if_neg (by decide)])) ?_
   have:=c3a lg one qs hl qs.length 0 (by omega)
   rw [List.drop_zero,h2 rfl] at this
   exact this
 by_cases h1 : lg < 1
 · refine Ev.congr (λ k=>(show puncheonref16_Right.f k lg one qs = _ by unfold puncheonref16_Right.f; rw [if_pos h1])) ?_
   exact hj true (λ _=>by unfold a0z; rw [if_pos (.inl h1)]) (λ h=>by cases h)
 · by_cases h2 : lg > 12
   · refine Ev.congr (λ k=>(show puncheonref16_Right.f k lg one qs = _ by unfold puncheonref16_Right.f; rw [if_neg h1,if_pos h2])) ?_
     exact hj true (λ _=>by unfold a0z; rw [if_pos (.inr h2)]) (λ h=>by cases h)
   · have no : qs.length ≠ (if one then 1 else 256) -> a0z lg one qs = false:=λ hne=>by
       cases hr : a0z lg one qs with
       | false=>rfl
       | true=>exact absurd (a1P hr).2.2.1 hne
     cases one with
     | true=>
      by_cases h3 : (qs.length : Int) = 1
      · refine Ev.congr (λ k=>(show puncheonref16_Right.f k lg true qs = _ by unfold puncheonref16_Right.f; rw [if_neg h1,if_neg h2,if_pos rfl,if_pos h3])) ?_
        exact hj false (λ h=>by cases h) (λ _=>b4s (by omega) (by simp only [if_true]; omega))
      · refine Ev.congr (λ k=>(show puncheonref16_Right.f k lg true qs = _ by unfold puncheonref16_Right.f; rw [if_neg h1,if_neg h2,if_pos rfl,if_neg h3])) ?_
        exact hj true (λ _=>no (by simp only [if_true]; omega)) (λ h=>by cases h)
     | false=>
      refine Ev.congr (λ k=>(show puncheonref16_Right.f k lg false qs = _ by unfold puncheonref16_Right.f; rw [if_neg h1,if_neg h2,if_neg (by decide)])) ?_
      by_cases h3 : (qs.length : Int) = 256
      · have e : ((qs.length : Int) != 256) = false:=by simp; omega
        rw [e]
        exact hj false (λ h=>by cases h) (λ _=>b4s (by omega) (by simp only [Bool.false_eq_true,if_false]; omega))
      · have e : ((qs.length : Int) != 256) = true:=by simp; omega
        rw [e]
        exact hj true (λ _=>no (by simp only [Bool.false_eq_true,if_false]; omega)) (λ h=>by cases h)
section
variable (A : Option Addr) (c : Nat) (w : World)
theorem b4t (lg : Int) (one : Bool) (qs : List (List Int)) (hr : kq.C w A qs.length qs) (hc : qs.length <= c) (hl : qs.length <= 1000000) : Calls Tryz.prog 121 #[.agg #[.int .i64 lg,.bool one,.slice A qs.length c]] w (Ret (.bool (a0z lg one qs)) w):=by
 obtain ⟨k,hk⟩:=(c3c lg one qs hl).rounds
 exact puncheonref16_Right.calls k lg one A c qs _ w hr hc hk
end
def mapR (f : Nat -> Int) : List Int:=(List.range 256).map f
theorem a1E (f : Nat -> Int) : (mapR f).length = 256:=by simp [mapR]
theorem a4j (f : Nat -> Int) {v : Nat} (h : v < 256) : (mapR f).getD v 0 = f v:=by
 unfold mapR; rw [List.getD_eq_getElem?_getD,List.getElem?_map,List.getElem?_range h]; rfl
theorem a3k {f g : Nat -> Int} (h : ∀ v,v < 256 -> f v = g v) : mapR f = mapR g:=by
 unfold mapR; exact List.map_congr_left (λ v hv=>h v (List.mem_range.1 hv))
theorem a7g (f : Nat -> Int) {v : Nat} (_ : v < 256) (y : Int) : (mapR f).set v y = mapR (λ u=>if u = v then y else f u):=by
 apply List.ext_getElem
 · simp [mapR]
 · intro i h1 h2
   rw [List.getElem_set]
   simp only [mapR,List.getElem_map,List.getElem_range]
   by_cases e : v = i
   · rw [if_pos e,if_pos e.symm]
   · rw [if_neg e,if_neg (λ x=>e x.symm)]
theorem a7h {f : Nat -> Int} {x : Int} (h : x ∈ mapR f) : ∃ v,v < 256 /\ x = f v:=by
 unfold mapR at h
 obtain ⟨v,hv,rfl⟩:=List.mem_map.1 h
 exact ⟨v,List.mem_range.1 hv,rfl⟩
def histL (b : List Int) : List Int:=mapR (λ v=>(b.count (v : Int) : Int))
def posC (c : List Int) (k : Nat) : Nat:=(c.take k).countP (λ x=>decide (0 < x))
def manyC (c : List Int) : Nat:=if a0P c then c.countP (λ x=>decide (0 < x)) else 0
theorem a7i (c : List Int) (i : Nat) (h : i < c.length) : posC c (i + 1) = posC c i + (if 0 < c.getD i 0 then 1 else 0):=by
 unfold posC
 rw [List.take_succ_eq_append_getElem h,List.countP_append,List.getD_eq_getElem?_getD,List.getElem?_eq_getElem h,Option.getD_some]
 congr 1
 by_cases e : 0 < c[i] <;> simp [e]
end Go.Proofs.YtflfjpkmjnnodaaGreat
namespace Go.Proofs.YtflfjpkmjnnodaaGreat
def symP (s : Int) (x : K3) : Bool:=decide (x.2.2 = s)
theorem b4w (l : List Int) (s : Int) : ∀ k,k <= l.length -> (posN l s k).length = (l.take k).countP (λ x=>decide (x = s)):=by
 intro k
 induction k with
 | zero=>intro _; simp [a8Q]
 | succ k ih=>
  intro h
  have e : l.getD k (-1) = l[k]:=by rw [List.getD_eq_getElem?_getD,List.getElem?_eq_getElem (by omega),Option.getD_some]
  rw [List.take_succ_eq_append_getElem (by omega),List.countP_append]
  by_cases h1 : l.getD k (-1) = s
  · rw [a2F h1,List.length_append,ih (by omega)]; rw [e] at h1; simp [h1]
  · rw [a3E h1,ih (by omega)]; rw [e] at h1; simp [h1]
theorem b4x (l : List Int) (s : Int) : ∀ (k d : Nat),d < (posN l s k).length -> ∃ P : Nat,(posN l s k).getD d 0 = P /\ P < k /\ l.getD P (-1) = s /\ (posN l s P).length = d:=by
 intro k
 induction k with
 | zero=>intro d h; simp [a8Q] at h
 | succ k ih=>
  intro d h
  by_cases h1 : l.getD k (-1) = s
  · rw [a2F h1] at h ⊢
    by_cases h2 : d < (posN l s k).length
    · obtain ⟨P,e1,e2,e3,e4⟩:=ih d h2
      refine ⟨P,?_,by omega,e3,e4⟩
      rw [<- e1,List.getD_eq_getElem?_getD,List.getElem?_append_left h2,<- List.getD_eq_getElem?_getD]
    · rw [List.length_append,List.length_singleton] at h
      have hd : d = (posN l s k).length:=by omega
      refine ⟨k,?_,by omega,h1,hd.symm⟩
      rw [List.getD_eq_getElem?_getD,hd,List.getElem?_append_right (Nat.le_refl _)]; simp
  · rw [a3E h1] at h ⊢
    obtain ⟨P,e1,e2,e3,e4⟩:=ih d h
    exact ⟨P,e1,by omega,e3,e4⟩
open Go.RowKit
theorem b4z (q : List Int) : (a0A q).Nodup:=by
 have h : ∀ k,k <= q.length -> (a0A (q.take k)).Nodup /\ ∀ x ∈ a0A (q.take k),x.2.2 < (k : Int):=by
  intro k
  induction k with
  | zero=>intro _; simp [a0A]
  | succ k ih=>
   intro hk
   obtain ⟨h1,h2⟩:=ih (by omega)
   rw [a3d (by omega)]
   have h3 : ∀ x ∈ a1a (q.getD k 0) k,x.2.2 = (k : Int):=λ x hx=>by
    unfold a1a at hx
    rw [List.mem_map] at hx
    obtain ⟨d,_,rfl⟩:=hx; rfl
   refine ⟨List.nodup_append.2 ⟨h1,?_,?_⟩,?_⟩
   · unfold a1a
     unfold List.Nodup
     rw [List.pairwise_map]
     have h4 : (List.range (q.getD k 0).toNat).Pairwise (· ≠ ·):=List.nodup_range
     refine h4.imp ?_
     intro a b hne e
     have:=congrArg Prod.fst e
     simp only at this
     omega
   · intro a ha b hb e
     have:=h2 a ha
     have:=h3 b hb
     rw [e] at *
     omega
   · intro x hx
     rcases List.mem_append.1 hx with h | h
     · have:=h2 x h; omega
     · have:=h3 x h; omega
 have:=(h q.length (Nat.le_refl _)).1
 rw [List.take_length] at this; exact this
theorem c3r {q : List Int} (hq : Good q) {P : Nat} (hP : P < (a0q q).length) : (a0A q).countP (λ x=>lessK x (a0q q)[P]) = P:=by
 have hperm:=a3e hq
 have hsort:=a6F hq
 have hnd : (a0q q).Nodup:=hperm.nodup_iff.2 (b4z q)
 have hgood : ∀ x ∈ a0q q,GK x:=λ x hx=>a3B hq x (hperm.mem_iff.1 hx)
 rw [<- hperm.countP_eq,show (a0q q).countP (λ x=>lessK x (a0q q)[P]) = ((a0q q).take P ++ (a0q q).drop P).countP (λ x=>lessK x (a0q q)[P]) by rw [List.take_append_drop],List.countP_append]
 have h1 : ((a0q q).take P).countP (λ x=>lessK x (a0q q)[P]) = ((a0q q).take P).length:=by
  rw [List.countP_eq_length]
  intro x hx
  rw [List.mem_take_iff_getElem] at hx
  obtain ⟨i,hi,rfl⟩:=hx
  have hle : leK (a0q q)[i] (a0q q)[P]:=List.pairwise_iff_getElem.1 hsort i P (by omega) hP (by omega)
  cases h : lessK (a0q q)[i] (a0q q)[P] with
  | true=>rfl
  | false=>
   have he:=b3k hq (hperm.mem_iff.1 (List.getElem_mem (by omega : i < (a0q q).length))) (hperm.mem_iff.1 (List.getElem_mem hP)) hle h
   have:=(List.getElem_inj (i:=i) (j:=P) (h₀:=by omega) (h₁:=hP) hnd).1 he
   omega
 have h2 : ((a0q q).drop P).countP (λ x=>lessK x (a0q q)[P]) = 0:=by
  rw [List.countP_eq_zero]
  intro x hx
  rw [List.mem_drop_iff_getElem] at hx
  obtain ⟨i,hi,rfl⟩:=hx
  by_cases h0 : i = 0
  · subst h0
    have:=a6C (hgood _ (List.getElem_mem hP))
    unfold leK at this
    simp only [Nat.add_zero]
    rw [this]; simp
  · have : leK (a0q q)[P] (a0q q)[P + i]:=List.pairwise_iff_getElem.1 hsort P (P + i) hP (by omega) (by omega)
    unfold leK at this
    rw [this]; simp
 rw [h1,h2,List.length_take]; omega
def lowS (c : Int) (s e : Nat) (x : K3) : Bool:=decide (x.2.2 = (s : Int) /\ x.1 < c + e)
theorem c3s (e N : Nat) (h : e <= N) : (List.range N).countP (λ j=>decide (j < e)) = e:=by
 induction N with
 | zero=>simp; omega
 | succ N ih=>
  rw [List.range_succ,List.countP_append]
  by_cases h2 : e <= N
  · rw [ih h2]; simp; omega
  · have : e = N + 1:=by omega
    subst this
    have h3 : (List.range N).countP (λ j=>decide (j < N + 1)) = (List.range N).length:=by
     rw [List.countP_eq_length]; intro x hx; rw [List.mem_range] at hx; simp; omega
    rw [h3]; simp
theorem c3t {q : List Int} {s e : Nat} (hs : s < q.length) (he : (e : Int) <= q.getD s 0) : (a0A q).countP (lowS (q.getD s 0) s e) = e:=by
 have h : ∀ k,k <= q.length -> (a0A (q.take k)).countP (lowS (q.getD s 0) s e) = if s < k then e else 0:=by
  intro k
  induction k with
  | zero=>intro _; simp [a0A]
  | succ k ih=>
   intro hk
   rw [a3d (by omega),List.countP_append,ih (by omega)]
   by_cases hsk : s = k
   · subst hsk
     rw [if_neg (by omega),if_pos (by omega)]
     unfold a1a
     rw [List.countP_map]
     have : (lowS (q.getD s 0) s e ∘ λ (d : Nat)=>((q.getD s 0 + (d : Int),q.getD s 0,(s : Int)) : K3)) = λ j=>decide (j < e):=by
      funext j; unfold lowS; simp [Function.comp]
     rw [this,c3s _ _ (by omega)]; omega
   · have h0 : (a1a (q.getD k 0) k).countP (lowS (q.getD s 0) s e) = 0:=by
       rw [List.countP_eq_zero]
       intro x hx
       unfold a1a at hx
       rw [List.mem_map] at hx
       obtain ⟨d,_,rfl⟩:=hx
       unfold lowS
       simp; omega
     rw [h0]
     by_cases h1 : s < k
     · rw [if_pos h1,if_pos (by omega),Nat.add_zero]
     · rw [if_neg h1,if_neg (by omega)]
 have:=h q.length (Nat.le_refl _)
 rw [List.take_length,if_pos hs] at this; exact this
theorem c3u {q : List Int} (hq : Good q) {s d : Nat} (hs : s < 256) (hd : (d : Int) < q.getD s 0) : ∃ P : Nat,(a1h q s).getD d 0 = P /\ ∃ h : P < (a0q q).length,(a0q q)[P] = (q.getD s 0 + d,q.getD s 0,(s : Int)):=by
 have hc:=a1O hq s
 have hlen : (posN (symsL q) s (symsL q).length).length = cntC q s:=rfl
 obtain ⟨P,e1,e2,e3,e4⟩:=b4x (symsL q) s (symsL q).length d (by omega)
 have hsl : s < q.length:=by rw [hq.len]; exact hs
 have hP : P < (a0q q).length:=by unfold symsL at e2; rw [List.length_map] at e2; exact e2
 have hperm:=a3e hq
 have hsort:=a6F hq
 have hnd : (a0q q).Nodup:=hperm.nodup_iff.2 (b4z q)
 obtain ⟨t,e,ht,he,hx⟩:=mem_allKeys.1 (hperm.mem_iff.1 (List.getElem_mem hP))
 have hsy : (symsL q).getD P (-1) = (a0q q)[P].2.2:=by
  unfold symsL; rw [List.getD_eq_getElem?_getD,List.getElem?_map,List.getElem?_eq_getElem hP]; rfl
 rw [hsy,hx] at e3
 have hts : t = s:=Int.ofNat.inj e3
 subst hts
 refine ⟨P,e1,hP,?_⟩
 rw [hx]
 have hgood : ∀ x ∈ a0q q,GK x:=λ x hx=>a3B hq x (hperm.mem_iff.1 hx)
 have hdc : d = ((a0q q).take P).countP (symP t):=by
  rw [<- e4,b4w _ _ _ (by omega)]
  unfold symsL
  rw [<- List.map_take,List.countP_map]; rfl
 have h1:=c3t hsl (e:=e) (by omega)
 rw [<- hperm.countP_eq,<- List.take_append_drop P (a0q q),List.countP_append] at h1
 have hkey:=hgood _ (List.getElem_mem hP)
 have h2 : ((a0q q).drop P).countP (lowS (q.getD t 0) t e) = 0:=by
  rw [List.countP_eq_zero]
  intro x hx'
  rw [List.mem_drop_iff_getElem] at hx'
  obtain ⟨i,hi,rfl⟩:=hx'
  have h3 : leK (a0q q)[P] (a0q q)[P + i]:=by
   by_cases h0 : i = 0
   · subst h0; exact a6C hkey
   · exact List.pairwise_iff_getElem.1 hsort P (P + i) hP (by omega) (by omega)
  have h4:=(a2o (hgood _ (List.getElem_mem _)) hkey).1 h3
  obtain ⟨t',f,_,hf,hxe⟩:=mem_allKeys.1 (hperm.mem_iff.1 (List.getElem_mem (by omega : P + i < (a0q q).length)))
  unfold lowS
  simp only [decide_eq_true_eq]
  rintro ⟨h5,h6⟩
  rw [hxe] at h5 h6 h4
  rw [hx] at h4
  have ht' : t' = t:=Int.ofNat.inj h5
  subst ht'
  simp only at h4 h6
  have h7 : (q.getD t' 0 + e) * q.getD t' 0 <= (q.getD t' 0 + f) * q.getD t' 0:=by omega
  have:=Int.le_of_mul_le_mul_right h7 (by omega)
  omega
 have h3 : ((a0q q).take P).countP (lowS (q.getD t 0) t e) = ((a0q q).take P).countP (symP t):=by
  refine List.countP_congr (λ x hx'=>?_)
  rw [List.mem_take_iff_getElem] at hx'
  obtain ⟨i,hi,rfl⟩:=hx'
  have hle : leK (a0q q)[i] (a0q q)[P]:=List.pairwise_iff_getElem.1 hsort i P (by omega) hP (by omega)
  have h4:=(a2o hkey (hgood _ (List.getElem_mem (by omega : i < (a0q q).length)))).1 hle
  obtain ⟨t',f,_,hf,hxe⟩:=mem_allKeys.1 (hperm.mem_iff.1 (List.getElem_mem (by omega : i < (a0q q).length)))
  have hne : (a0q q)[i] ≠ (a0q q)[P]:=λ he=>by
   have:=(List.getElem_inj (i:=i) (j:=P) (h₀:=by omega) (h₁:=hP) hnd).1 he
   omega
  unfold lowS symP
  simp only [decide_eq_true_eq]
  constructor
  · exact λ h=>h.1
  · intro h5
    refine ⟨h5,?_⟩
    rw [hxe] at h5 h4 hne ⊢
    rw [hx] at h4 hne
    have ht' : t' = t:=Int.ofNat.inj h5
    subst ht'
    simp only at h4 ⊢
    have h7 : (q.getD t' 0 + f) * q.getD t' 0 <= (q.getD t' 0 + e) * q.getD t' 0:=by omega
    have:=Int.le_of_mul_le_mul_right h7 (by omega)
    have hfe : f ≠ e:=λ h=>hne (by rw [h])
    omega
 have hde : d = e:=by omega
 rw [hde]
open Go.Proofs.YtflfjpkmjnnodaaGreat.PRef Go.Proofs.YtflfjpkmjnnodaaGreatW.PrintWords Go.Proofs.YtflfjpkmjnnodaaGreatW.PrintLast Go.Proofs.YtflfjpkmjnnodaaGreatW.PrintMore
def lessN (n : Int) (t : Nat) (x : K3) (d : Nat) : Nat:=(List.range d).countP (λ (j : Nat)=>lessK (n + j,n,(t : Int)) x)
theorem c3v (n : Int) (t : Nat) (x : K3) (d : Nat) : lessN n t x (d + 1) = lessN n t x d + (if lessK (n + d,n,(t : Int)) x = true then 1 else 0):=by
 unfold lessN; rw [List.range_succ,List.countP_append]; simp [List.countP_singleton]
theorem c3w (n : Int) (t : Nat) (x : K3) (d : Nat) : lessN n t x d <= d:=by
 unfold lessN
 have:=List.countP_le_length (p:=λ (j : Nat)=>lessK (n + j,n,(t : Int)) x) (l:=List.range d)
 rw [List.length_range] at this; exact this
theorem c3x {q : List Int} (hq : Good q) {t s : Nat} (ht : t < 256) (hs : s < 256) {i : Int} (hc : 0 < q.getD s 0) (hi : q.getD s 0 <= i /\ i < 2 * q.getD s 0) : ∀ (r d : Nat),(d + r : Int) = q.getD t 0 -> Ev (λ k=>puncheonref10_less.l0 k q t s i (lessN (q.getD t 0) t (i,q.getD s 0,(s : Int)) d : Nat) (q.getD t 0 + d)) (lessN (q.getD t 0) t (i,q.getD s 0,(s : Int)) (q.getD t 0).toNat : Nat):=by
 have hl:=hq.len
 have g1:=hq.get t
 have g2:=hq.get s
 have c1 : (0 : Int) <= t:=by omega
 have c2 : (t : Int) < (q.length : Int):=by omega
 have c3 : (0 : Int) <= s:=by omega
 have c4 : (s : Int) < (q.length : Int):=by omega
 obtain ⟨n,hn⟩ : ∃ n,n = q.getD t 0:=⟨_,rfl⟩
 obtain ⟨c,hcc⟩ : ∃ c,c = q.getD s 0:=⟨_,rfl⟩
 rw [<- hn] at g1 ⊢
 rw [<- hcc] at g2 hc hi ⊢
 intro r
 induction r with
 | zero=>
  intro d hd
  refine Ev.step (λ k=>(show puncheonref10_less.l0 (k + 1) q t s i _ _ = _ by simp only [puncheonref10_less.l0]; rw [if_pos c1,if_pos c2,a0C,<- hn,w64 (n:=2 * n) (by omega),if_neg (by omega)])) ?_
  rw [show n.toNat = d by omega]; exact Ev.now _
 | succ r ih=>
  intro d hd
  have hk : GK (n + d,n,(t : Int)):=rightB_iff.2 (by simp only []; omega)
  have hx : GK (i,c,(s : Int)):=rightB_iff.2 (by simp only []; omega)
  have m1:=a8M (x:=n + d) (y:=c) (by omega) (by omega) (by omega) (by omega)
  have m2:=a8M (x:=i) (y:=n) (by omega) (by omega) (by omega) (by omega)
  have hlt : n + (d : Int) < 2 * n:=by omega
  have w1 : wrap64 ((n + (d : Int)) * c) = (n + d) * c:=w64 (by omega)
  have w2 : wrap64 (i * n) = i * n:=w64 (by omega)
  have w3 : wrap64 (n + (d : Int) + 1) = n + ((d + 1 : Nat) : Int):=by rw [w64 (by omega)]; omega
  have hle:=c3w n t (i,c,(s : Int)) d
  have w4 : wrap64 (((lessN n t (i,c,(s : Int)) d : Nat) : Int) + 1) = ((lessN n t (i,c,(s : Int)) d + 1 : Nat) : Int):=wS _ (by omega)
  have hiff:=a8N hk hx
  simp only at hiff
  have ih':=ih (d + 1) (by omega)
  rw [c3v] at ih'
  by_cases e1 : (n + (d : Int)) * c < i * n
  · refine Ev.step (λ k=>(show puncheonref10_less.l0 (k + 1) q t s i _ _ = _ by simp only [puncheonref10_less.l0]; rw [if_pos c1,if_pos c2,a0C,<- hn,w64 (n:=2 * n) (by omega),if_pos hlt,if_pos c3,if_pos c4,a0C,<- hcc,w1,w2,if_pos e1,w3,w4])) ?_
    rw [if_pos (hiff.2 (.inl e1))] at ih'; exact ih'
  · by_cases e2 : (n + (d : Int)) * c = i * n
    · by_cases e3 : (t : Int) < s
      · refine Ev.step (λ k=>(show puncheonref10_less.l0 (k + 1) q t s i _ _ = _ by simp only [puncheonref10_less.l0]; rw [if_pos c1,if_pos c2,a0C,<- hn,w64 (n:=2 * n) (by omega),if_pos hlt,if_pos c3,if_pos c4,a0C,<- hcc,w1,w2,if_neg e1,if_pos e2,if_pos e3,w3,w4])) ?_
        rw [if_pos (hiff.2 (.inr ⟨e2,e3⟩))] at ih'; exact ih'
      · refine Ev.step (λ k=>(show puncheonref10_less.l0 (k + 1) q t s i _ _ = _ by simp only [puncheonref10_less.l0]; rw [if_pos c1,if_pos c2,a0C,<- hn,w64 (n:=2 * n) (by omega),if_pos hlt,if_pos c3,if_pos c4,a0C,<- hcc,w1,w2,if_neg e1,if_pos e2,if_neg e3,w3])) ?_
        rw [if_neg (λ h=>by rcases hiff.1 h with h | h; exact e1 h; exact e3 h.2)] at ih'; exact ih'
    · refine Ev.step (λ k=>(show puncheonref10_less.l0 (k + 1) q t s i _ _ = _ by simp only [puncheonref10_less.l0]; rw [if_pos c1,if_pos c2,a0C,<- hn,w64 (n:=2 * n) (by omega),if_pos hlt,if_pos c3,if_pos c4,a0C,<- hcc,w1,w2,if_neg e1,if_neg e2,w3])) ?_
      rw [if_neg (λ h=>by rcases hiff.1 h with h | h; exact e1 h; exact e2 h.1)] at ih'; exact ih'
theorem c3y {q : List Int} (hq : Good q) {t s : Nat} (ht : t < 256) (hs : s < 256) {i : Int} (hc : 0 < q.getD s 0) (hi : q.getD s 0 <= i /\ i < 2 * q.getD s 0) : Ev (λ k=>puncheonref10_less.f k q t s i) (lessN (q.getD t 0) t (i,q.getD s 0,(s : Int)) (q.getD t 0).toNat : Nat):=by
 have hl:=hq.len
 have h:=c3x hq ht hs hc hi (q.getD t 0).toNat 0 (by have:=hq.get t; omega)
 refine Ev.congr (λ k=>(show puncheonref10_less.f k q t s i = _ by unfold puncheonref10_less.f; rw [if_pos (by omega),if_pos (by omega),a0C])) ?_
 have e : lessN (q.getD t 0) t (i,q.getD s 0,(s : Int)) 0 = 0:=rfl
 rw [e] at h
 simpa using h
theorem b4A (n : Int) (t : Nat) (x : K3) : lessN n t x n.toNat = (a1a n t).countP (λ y=>lessK y x):=by
 unfold lessN a1a; rw [List.countP_map]; rfl
theorem c3z {q : List Int} (hq : Good q) {s : Nat} (hs : s < 256) {i : Int} (hc : 0 < q.getD s 0) (hi : q.getD s 0 <= i /\ i < 2 * q.getD s 0) : ∀ (d t : Nat),t + d = q.length -> Ev (λ k=>puncheonref10_Place.l0 k q s i ((a0A (q.take t)).countP (λ y=>lessK y (i,q.getD s 0,(s : Int))) : Nat) (t : Int)) ((a0A q).countP (λ y=>lessK y (i,q.getD s 0,(s : Int))) : Nat):=by
 have hl:=hq.len
 intro d
 induction d with
 | zero=>
  intro t ht
  refine Ev.step (λ k=>(show puncheonref10_Place.l0 (k + 1) q s i _ _ = _ by simp only [puncheonref10_Place.l0]; rw [if_neg (by omega)])) ?_
  rw [show t = q.length by omega,List.take_length]; exact Ev.now _
 | succ d ih=>
  intro t ht
  have hlt : (t : Int) < (q.length : Int):=by omega
  refine Ev.step (λ k=>(show puncheonref10_Place.l0 (k + 1) q s i _ _ = _ by simp only [puncheonref10_Place.l0]; rw [if_pos hlt])) ?_
  refine Ev.bind (c3y hq (by omega) hs hc hi) ?_
  have ih':=ih (t + 1) (by omega)
  rw [a3d (by omega),List.countP_append,<- b4A] at ih'
  have hb : (a0A (q.take t)).countP (λ y=>lessK y (i,q.getD s 0,(s : Int))) + lessN (q.getD t 0) t (i,q.getD s 0,(s : Int)) (q.getD t 0).toNat <= 4096:=by
   rw [b4A,<- List.countP_append,<- a3d (by omega)]
   refine Nat.le_trans List.countP_le_length ?_
   have h1:=a6D hq.nonneg
   have h2:=hq.sum
   have h3 : (a0A (q.take (t + 1))).length <= (a0A q).length:=by
    have h5 : ∀ a b : List Int,a0A (a ++ b) = a0A a ++ (b.zipIdx a.length).flatMap (λ p=>a1a p.1 p.2):=λ a b=>by simp [a0A,List.zipIdx_append]
    have h4:=h5 (q.take (t + 1)) (q.drop (t + 1))
    rw [List.take_append_drop] at h4
    rw [h4,List.length_append]; omega
   omega
  rw [w64 (n:=_ + _) (by omega),wS t (by omega)]
  rw [Int.natCast_add] at ih'
  exact ih'
theorem b4B {q : List Int} (hl : logC q ≠ 0) {s : Nat} (hs : s < 256) {i : Nat} (h1 : cntC q s <= i) (h2 : i < 2 * cntC q s) : Ev (λ k=>puncheonref10_Place.f k q s i) ((a1h q s).getD (i - cntC q s) 0):=by
 have hq:=a1v hl
 have hc:=a1O hq s
 have hg:=hq.get s
 have:=c3z hq hs (i:=i) (by omega) (by omega) q.length 0 (by omega)
 have e0 : (a0A (q.take 0)).countP (λ y=>lessK y ((i : Int),q.getD s 0,(s : Int))) = 0:=by simp [a0A]
 rw [e0] at this
 obtain ⟨P,e1,hP,e2⟩:=c3u hq hs (d:=i - cntC q s) (by omega)
 have e3:=c3r hq hP
 rw [e2,show q.getD s 0 + ((i - cntC q s : Nat) : Int) = i by omega] at e3
 rw [e3] at this
 rw [e1]
 exact this
theorem a9p (r : Nat) (h : r <= 30) : shl .i64 1 (r : Int) = ((2 ^ r : Nat) : Int):=by
 unfold shl
 have e : min (r : Int).toNat IntKind.i64.bits = r:=by
  have : IntKind.i64.bits = 64:=rfl
  rw [this,Int.toNat_natCast]; omega
 rw [e,Int.one_mul]
 have h2 : (2 : Nat) ^ r <= 2 ^ 30:=Nat.pow_le_pow_right (by omega) h
 have e2 : (2 : Int) ^ r = ((2 ^ r : Nat) : Int):=by simp
 rw [e2]
 obtain ⟨P,hP⟩ : ∃ P : Nat,P = 2 ^ r:=⟨_,rfl⟩
 rw [<- hP] at h2 ⊢
 exact Go.IntWalk.i64_in _ (by omega)
def pkL (b : List Int) (c : Int) (k : Nat) : List Int:=((List.range k).filter (λ j=>decide (ctxI b (j : Nat) = c))).map (λ j=>b.getD j 0)
def a0r (b : List Int) (c : Int) : List Int:=pkL b c b.length
theorem a7l {b : List Int} {c : Int} {k : Nat} (h : ctxI b (k : Nat) = c) : pkL b c (k + 1) = pkL b c k ++ [b.getD k 0]:=by
 unfold pkL; rw [List.range_succ,List.filter_append,List.map_append]; congr 1
 simp only [List.filter_cons,List.filter_nil,h,decide_true]; rfl
theorem a7m {b : List Int} {c : Int} {k : Nat} (h : ctxI b (k : Nat) ≠ c) : pkL b c (k + 1) = pkL b c k:=by
 unfold pkL; rw [List.range_succ,List.filter_append,List.map_append]
 simp only [List.filter_cons,List.filter_nil,h,decide_false]; simp
theorem a4k (b : List Int) (c : Int) (k : Nat) : (pkL b c k).length <= k:=by
 unfold pkL; rw [List.length_map]; exact Nat.le_trans (List.length_filter_le _ _) (by simp)
theorem b4C {b : List Int} (hb : Bytes b) (c : Int) (k : Nat) : Bytes (pkL b c k):=by
 intro x hx
 unfold pkL at hx
 obtain ⟨j,_,rfl⟩:=List.mem_map.1 hx
 exact hb.get j
theorem b4D (l : List Int) {y : Nat} (hy : y < 256) : histL (l ++ [(y : Int)]) = (histL l).set y ((l.count (y : Int) : Int) + 1):=by
 unfold histL
 rw [a7g _ hy]
 refine a3k (λ u _=>?_)
 rw [List.count_append,List.count_singleton]
 by_cases e : u = y
 · subst e; rw [if_pos rfl]; simp
 · rw [if_neg e]
   have : ¬ (y : Int) = (u : Int):=by omega
   simp [this]
theorem a5B (l : List Int) {y : Nat} (hy : y < 256) : (histL l).getD y 0 = (l.count (y : Int) : Int):=by unfold histL; rw [a4j _ hy]
def widN (b : List Int) : Nat -> Nat
 | 0=>0
 | k + 1=>max (widN b k) (manyC (histL (a0r b (k : Nat))))
theorem a4L (c : List Int) : manyC c <= 256:=by
 unfold manyC
 split
 · rename_i h
   have:=List.countP_le_length (p:=λ x=>decide (0 < x)) (l:=c); have:=(rightC_iff.1 h).1; omega
 · omega
theorem a7n (b : List Int) : ∀ k,widN b k <= 256
 | 0=>by simp [widN]
 | k + 1=>by
  have:=a7n b k; have:=a4L (histL (a0r b (k : Nat)))
  simp only [widN]; omega
def presN (b : List Int) (k : Nat) : List Int:=((List.range k).filter (λ (c : Nat)=>decide (0 < (a0r b (c : Int)).length))).map (λ (c : Nat)=>(c : Int))
theorem a9q (b : List Int) (k : Nat) : presN b (k + 1) = if 0 < (a0r b (k : Int)).length then presN b k ++ [(k : Int)] else presN b k:=by
 unfold presN; rw [List.range_succ,List.filter_append,List.map_append]
 by_cases h : 0 < (a0r b (k : Int)).length
 · rw [if_pos h]; congr 1; simp only [List.filter_cons,List.filter_nil,h,decide_true]; rfl
 · rw [if_neg h]; simp only [List.filter_cons,List.filter_nil,h,decide_false]; simp
theorem a4M (b : List Int) (k : Nat) : (presN b k).length <= k:=by
 unfold presN; rw [List.length_map]; exact Nat.le_trans (List.length_filter_le _ _) (by simp)
theorem c3L (n : Nat) (hn : n < 2 ^ 40) : ∀ (d j : Nat),j + d = 41 -> (j = 0 \/ 2 ^ j <= n) -> Ev (λ k=>puncheonref07_Floor.l0 k (n : Int) (j : Int) ((2 ^ (j + 1) : Nat) : Int)) ((a0n n : Nat) : Int):=by
 intro d
 induction d with
 | zero=>
  intro j hj h
  have : 2 ^ 40 <= 2 ^ j:=Nat.pow_le_pow_right (by omega) (by omega)
  exfalso; omega
 | succ d ih=>
  intro j hj h
  have hp : 2 ^ (j + 2) <= 2 ^ 43:=Nat.pow_le_pow_right (by omega) (by omega)
  have e : wrap64 (2 * ((2 ^ (j + 1) : Nat) : Int)) = ((2 ^ (j + 1 + 1) : Nat) : Int):=by
   have : 2 ^ (j + 2) = 2 * 2 ^ (j + 1):=Nat.pow_succ'
   rw [show j + 1 + 1 = j + 2 by omega,this]
   rw [this] at hp
   generalize 2 ^ (j + 1) = P at hp ⊢
   rw [w64 (by omega)]; omega
  by_cases hc : 2 ^ (j + 1) <= n
  · refine Ev.step (λ k=>(show puncheonref07_Floor.l0 (k + 1) (n : Int) (j : Int) _ = _ by simp only [puncheonref07_Floor.l0]; rw [if_pos (Int.ofNat_le.2 hc),if_pos (by omega),wS j (by omega),e])) ?_
    exact ih (j + 1) (by omega) (.inr hc)
  · refine Ev.step (λ k=>(show puncheonref07_Floor.l0 (k + 1) (n : Int) (j : Int) _ = _ by simp only [puncheonref07_Floor.l0]; rw [if_neg (λ h=>hc (Int.ofNat_le.1 h))])) ?_
    have ef : a0n (n : Int) = j:=by
     rcases Nat.eq_zero_or_pos n with h0 | h0
     · subst h0
       have : j = 0:=by
        rcases h with h | h
        · exact h
        · have:=Nat.two_pow_pos j; omega
       rw [this]; rfl
     · have h1 : 2 ^ j <= n:=by
         rcases h with h | h
         · rw [h,Nat.pow_zero]; exact h0
         · exact h
       unfold a0n a1Z
       rw [Int.toNat_natCast,a9j h1 (by omega) (by omega)]; omega
    rw [ef]; exact Ev.now _
theorem b4F (n : Nat) (hn : n < 2 ^ 40) : Ev (λ k=>puncheonref07_Floor.f k (n : Int)) ((a0n n : Nat) : Int):=by
 unfold puncheonref07_Floor.f; exact c3L n hn 41 0 rfl (.inl rfl)
def ceilI (n : Int) : Nat:=a1Z (n - 1)
def pickI (n m : Nat) (most : Int) : Int:=mx (mx (mn ((a0n n : Int) - 2) most) 5) (ceilI m)
theorem b4G (n : Nat) (h : n < 2 ^ 40) : a0n (n : Int) <= 40:=by
 rcases Nat.eq_zero_or_pos n with h0 | h0
 · subst h0; decide
 · have:=(a3g n h0 (by omega)).1
   have a : ¬ 41 <= a0n (n : Int):=λ e=>by
    have:=Nat.pow_le_pow_right (n:=2) (by omega) e; omega
   omega
def needN (rest : List Int) (had : List Bool) : Nat -> Int
 | 0=>-1
 | k + 1=>if had.getD k false = true then needN rest had k else if needN rest had k < 0 then (k : Int) else if rest.getD k 0 > rest.getD (needN rest had k).toNat 0 then (k : Int) else needN rest had k
theorem a4N (rest : List Int) (had : List Bool) : ∀ k,-1 <= needN rest had k /\ needN rest had k < k /\ (0 <= needN rest had k -> had.getD (needN rest had k).toNat false = false)
 | 0=>by simp [needN]
 | k + 1=>by
  obtain ⟨h1,h2,h3⟩:=a4N rest had k
  simp only [needN]
  cases hk : had.getD k false with
  | true=>rw [if_pos rfl]; exact ⟨h1,by omega,h3⟩
  | false=>
   rw [if_neg (by decide)]
   split
   · exact ⟨by omega,by omega,λ _=>by rw [Int.toNat_natCast]; exact hk⟩
   · split
     · exact ⟨by omega,by omega,λ _=>by rw [Int.toNat_natCast]; exact hk⟩
     · exact ⟨h1,by omega,h3⟩
theorem a9r (rest : List Int) (had : List Bool) {s : Nat} (hs : had.getD s false = false) : ∀ k,s < k -> 0 <= needN rest had k
 | 0,h=>by omega
 | k + 1,h=>by
  simp only [needN]
  by_cases e : s = k
  · subst e
    rw [hs,if_neg (by decide)]
    split
    · omega
    · split <;> omega
  · have ih:=a9r rest had hs k (by omega)
    split
    · exact ih
    · rw [if_neg (by omega)]
      split <;> omega
def richN (q c : List Int) : Nat -> Nat
 | 0=>0
 | k + 1=>if q.getD k 0 > q.getD (richN q c k) 0 \/ q.getD k 0 = q.getD (richN q c k) 0 /\ c.getD k 0 <= c.getD (richN q c k) 0 then k else richN q c k
theorem a4O (q c : List Int) : ∀ k,richN q c k <= k - 1
 | 0=>by simp [richN]
 | k + 1=>by
  have:=a4O q c k
  simp only [richN]; split <;> omega
theorem b4H (q c : List Int) : ∀ k,∀ s,s < k -> q.getD s 0 <= q.getD (richN q c k) 0
 | 0,s,h=>by omega
 | k + 1,s,h=>by
  have ih:=b4H q c k
  simp only [richN]
  split
  · rename_i hc
    by_cases e : s = k
    · subst e; exact Int.le_refl _
    · have:=ih s (by omega); omega
  · rename_i hc
    by_cases e : s = k
    · subst e; omega
    · exact ih s (by omega)
end Go.Proofs.YtflfjpkmjnnodaaGreat
namespace Go.Proofs.YtflfjpkmjnnodaaGreat
open Go.RowKit
theorem a7o (q : List Int) (s : Nat) (y : Int) (h : s < q.length) : (q.set s y).sum = q.sum - q.getD s 0 + y:=by
 induction q generalizing s with
 | nil=>simp at h
 | cons a q ih=>
  cases s with
  | zero=>simp; omega
  | succ s=>
   have:=ih s (by simpa using h)
   simp only [List.set_cons_succ,List.sum_cons,List.getD_cons_succ,this]; omega
theorem a3l (q : List Int) (s t : Nat) (y : Int) (h : s < q.length) : (q.set s y).getD t 0 = if t = s then y else q.getD t 0:=by
 rw [List.getD_eq_getElem?_getD,List.getElem?_set]
 by_cases e : s = t
 · subst e; rw [if_pos rfl,if_pos h,if_pos rfl]; rfl
 · rw [if_neg e,if_neg (λ x=>e x.symm),List.getD_eq_getElem?_getD]
def q0F (c : List Int) (P n : Int) (s : Nat) : Int:=if c.getD s 0 * P / n = 0 then min (c.getD s 0) 1 else c.getD s 0 * P / n
def q0L (c : List Int) (P n : Int) : List Int:=mapR (q0F c P n)
def restL (c : List Int) (P n : Int) : List Int:=mapR (λ s=>c.getD s 0 * P % n)
def hadL (c : List Int) (P n : Int) : List Bool:=(List.range 256).map (λ s=>decide (c.getD s 0 * P / n = 0))
def a0V (rest : List Int) : Nat -> List Int × List Bool -> List Int × List Bool
 | 0,st=>st
 | m + 1,st=>let r:=a0V rest m st; (r.1.set (needN rest r.2 256).toNat (r.1.getD (needN rest r.2 256).toNat 0 + 1),r.2.set (needN rest r.2 256).toNat true)
def a0R (c : List Int) : Nat -> List Int -> List Int
 | 0,q=>q
 | m + 1,q=>let r:=a0R c m q; r.set (richN r c 256) (r.getD (richN r c 256) 0 - 1)
def giveM (c : List Int) (P n : Int) : Nat:=(P - (q0L c P n).sum).toNat
def normL (c : List Int) (r : Nat) : List Int:=
 let P : Int:=2 ^ r
 let n:=c.sum
 let g:=(a0V (restL c P n) (giveM c P n) (q0L c P n,hadL c P n)).1
 a0R c (g.sum - P).toNat g
theorem c3W {f g : Nat -> Int} (h : ∀ s,s < 256 -> f s <= g s) : (mapR f).sum <= (mapR g).sum:=by
 unfold mapR
 have key : ∀ l : List Nat,(∀ s ∈ l,f s <= g s) -> (l.map f).sum <= (l.map g).sum:=by
  intro l
  induction l with
  | nil=>intro _; simp
  | cons a l ih=>
   intro hl
   have:=ih (λ s hs=>hl s (by simp [hs])); have:=hl a (by simp)
   simp only [List.map_cons,List.sum_cons]; omega
 exact key _ (λ s hs=>h s (List.mem_range.1 hs))
theorem b4I {c : List Int} (h : c.length = 256) : mapR (λ s=>c.getD s 0) = c:=by
 apply List.ext_getElem
 · rw [a1E,h]
 · intro i h1 h2; simp [mapR,List.getElem?_eq_getElem h2]
theorem b4J (f : Nat -> Int) (k : Int) : (mapR (λ s=>f s * k)).sum = (mapR f).sum * k:=by
 unfold mapR
 induction List.range 256 with
 | nil=>simp
 | cons a l ih=>simp only [List.map_cons,List.sum_cons,ih,Int.add_mul]
theorem c3X (f g : Nat -> Int) : (mapR (λ s=>f s + g s)).sum = (mapR f).sum + (mapR g).sum:=by
 unfold mapR
 induction List.range 256 with
 | nil=>simp
 | cons a l ih=>simp only [List.map_cons,List.sum_cons,ih]; omega
def freeN (had : List Bool) : Nat:=had.countP (λ b=>!b)
theorem c3Y (c : List Int) (P n : Int) : ((freeN (hadL c P n) : Nat) : Int) = (mapR (λ s=>if c.getD s 0 * P / n = 0 then 0 else 1)).sum:=by
 unfold freeN hadL mapR
 induction List.range 256 with
 | nil=>simp
 | cons a l ih=>
  have e1 : ((if (!decide (c.getD a 0 * P / n = 0)) = true then 1 else 0 : Nat) : Int) = if c.getD a 0 * P / n = 0 then 0 else 1:=by
   by_cases e : c.getD a 0 * P / n = 0
   · rw [if_pos e,decide_eq_true e]; rfl
   · rw [if_neg e,decide_eq_false e]; rfl
  rw [List.map_cons,List.map_cons,List.countP_cons,List.sum_cons,Int.natCast_add,ih,e1]; omega
structure Can (c : List Int) (r : Nat) : Prop where
 len : c.length = 256
 nonneg : ∀ x ∈ c,0 <= x
 pos : 0 < c.sum
 le : c.sum <= 1073741824
 r1 : 1 <= r
 r12 : r <= 12
 many : c.countP (λ x=>decide (0 < x)) <= 2 ^ r
theorem Can.get {c : List Int} {r : Nat} (h : Can c r) (s : Nat) : 0 <= c.getD s 0 /\ c.getD s 0 <= c.sum:=by
 by_cases hs : s < c.length
 · exact ⟨h.nonneg _ (a1Y hs),a6u h.nonneg (a1Y hs)⟩
 · rw [List.getD_eq_getElem?_getD,List.getElem?_eq_none (by omega)]; have:=h.pos; simp; omega
theorem Can.q0 {c : List Int} {r : Nat} (h : Can c r) (s : Nat) : 0 <= q0F c (2 ^ r) c.sum s /\ q0F c (2 ^ r) c.sum s <= 4096 /\ (0 < q0F c (2 ^ r) c.sum s ↔ 0 < c.getD s 0) /\ c.getD s 0 * 2 ^ r <= (q0F c (2 ^ r) c.sum s + (if c.getD s 0 * 2 ^ r / c.sum = 0 then 0 else 1)) * c.sum:=by
 have hg:=h.get s
 have hp:=h.pos
 have h2:=a1H h.r12
 have hm0 : 0 <= c.getD s 0 * 2 ^ r:=Int.mul_nonneg hg.1 (by omega)
 have hd0 : 0 <= c.getD s 0 * 2 ^ r / c.sum:=Int.ediv_nonneg hm0 (by omega)
 have hdm:=Int.mul_ediv_add_emod (c.getD s 0 * 2 ^ r) c.sum
 have hml:=Int.emod_lt_of_pos (c.getD s 0 * 2 ^ r) hp
 have hmn:=Int.emod_nonneg (c.getD s 0 * 2 ^ r) (b:=c.sum) (by omega)
 have hle : c.getD s 0 * 2 ^ r / c.sum <= 2 ^ r:=by
  refine Int.ediv_le_of_le_mul hp ?_
  rw [Int.mul_comm]; exact Int.mul_le_mul_of_nonneg_left hg.2 (by omega)
 unfold q0F
 by_cases e : c.getD s 0 * 2 ^ r / c.sum = 0
 · rw [if_pos e,if_pos e]
   rw [e,Int.mul_zero,Int.zero_add] at hdm
   refine ⟨by omega,by omega,by omega,?_⟩
   by_cases e2 : c.getD s 0 = 0
   · rw [e2,show min (0 : Int) 1 = 0 by decide]; simp
   · rw [show min (c.getD s 0) 1 = 1 by omega]; omega
 · rw [if_neg e,if_neg e]
   refine ⟨hd0,by omega,⟨λ _=>?_,λ _=>by omega⟩,?_⟩
   · by_cases e2 : c.getD s 0 = 0
     · rw [e2] at e; simp at e
     · omega
   · rw [Int.add_mul,Int.one_mul,Int.mul_comm (c.getD s 0 * 2 ^ r / c.sum)]; omega
theorem Can.enough {c : List Int} {r : Nat} (h : Can c r) : (2 : Int) ^ r <= (q0L c (2 ^ r) c.sum).sum + freeN (hadL c (2 ^ r) c.sum):=by
 have h1 : (mapR (λ s=>c.getD s 0 * 2 ^ r)).sum <= (mapR (λ s=>(q0F c (2 ^ r) c.sum s + (if c.getD s 0 * 2 ^ r / c.sum = 0 then 0 else 1)) * c.sum)).sum:=c3W (λ s _=>(h.q0 s).2.2.2)
 rw [b4J,b4J,c3X,b4I h.len,<- c3Y,Int.mul_comm c.sum] at h1
 exact Int.le_of_mul_le_mul_right h1 h.pos
theorem a9s {had : List Bool} (hl : had.length = 256) (h : 0 < freeN had) : ∃ s,s < 256 /\ had.getD s false = false:=by
 unfold freeN at h
 obtain ⟨b,hb,hbf⟩:=List.countP_pos_iff.1 h
 obtain ⟨s,hs,rfl⟩:=List.getElem_of_mem hb
 refine ⟨s,by omega,?_⟩
 rw [List.getD_eq_getElem?_getD,List.getElem?_eq_getElem hs]; simpa using hbf
theorem b4K {had : List Bool} {s : Nat} (hs : s < had.length) (h : had.getD s false = false) : freeN (had.set s true) + 1 = freeN had:=by
 unfold freeN
 induction had generalizing s with
 | nil=>simp at hs
 | cons a l ih=>
  cases s with
  | zero=>simp at h; subst h; simp
  | succ s=>
   have:=ih (s:=s) (by simpa using hs) (by simpa using h)
   simp only [List.set_cons_succ,List.countP_cons]; omega
structure Way (c q : List Int) : Prop where
 len : q.length = 256
 rng : ∀ s,0 <= q.getD s 0 /\ q.getD s 0 <= 100000
 iff : ∀ s,0 < q.getD s 0 ↔ 0 < c.getD s 0
theorem a4P {c : List Int} {r : Nat} (h : Can c r) : ∀ m,m <= giveM c (2 ^ r) c.sum ->
    let st:=a0V (restL c (2 ^ r) c.sum) m (q0L c (2 ^ r) c.sum,hadL c (2 ^ r) c.sum)
    st.1.length = 256 /\ st.2.length = 256 /\ (∀ s,0 <= st.1.getD s 0 /\ st.1.getD s 0 <= 4096 + m) /\ (∀ s,0 < st.1.getD s 0 ↔ 0 < c.getD s 0) /\ st.1.sum = (q0L c (2 ^ r) c.sum).sum + m /\ freeN st.2 + m = freeN (hadL c (2 ^ r) c.sum) /\
     (∀ s,s < 256 -> st.2.getD s false = false -> 0 < c.getD s 0)
 | 0,_=>by
  have hlen : (q0L c (2 ^ r) c.sum).length = 256:=a1E _
  refine ⟨hlen,by simp [a0V,hadL],λ s=>?_,λ s=>?_,by simp [a0V],rfl,λ s hs hf=>?_⟩
  · show 0 <= (q0L c (2 ^ r) c.sum).getD s 0 /\ (q0L c (2 ^ r) c.sum).getD s 0 <= 4096 + ((0 : Nat) : Int)
    by_cases hs : s < 256
    · unfold q0L; rw [a4j _ hs]; have:=h.q0 s; exact ⟨this.1,by have:=this.2.1; omega⟩
    · rw [List.getD_eq_getElem?_getD,List.getElem?_eq_none (by omega)]; simp
  · show 0 < (q0L c (2 ^ r) c.sum).getD s 0 ↔ _
    by_cases hs : s < 256
    · unfold q0L; rw [a4j _ hs]; exact (h.q0 s).2.2.1
    · rw [List.getD_eq_getElem?_getD,List.getElem?_eq_none (by omega),List.getD_eq_getElem?_getD,List.getElem?_eq_none (by have:=h.len; omega)]
  · have hf2 : (hadL c (2 ^ r) c.sum).getD s false = false:=hf
    unfold hadL at hf2
    rw [List.getD_eq_getElem?_getD,List.getElem?_map,List.getElem?_range hs] at hf2
    simp only [Option.map_some,Option.getD_some,decide_eq_false_iff_not] at hf2
    have:=(h.get s).1
    by_cases e2 : c.getD s 0 = 0
    · rw [e2] at hf2; simp at hf2
    · omega
 | m + 1,hm=>by
  obtain ⟨h1,h2,h3,h4,h5,h6,h7⟩:=a4P h m (by omega)
  have hen:=h.enough
  obtain ⟨st,hst⟩ : ∃ st,st = a0V (restL c (2 ^ r) c.sum) m (q0L c (2 ^ r) c.sum,hadL c (2 ^ r) c.sum):=⟨_,rfl⟩
  simp only [a0V]
  rw [<- hst] at h1 h2 h3 h4 h5 h6 h7 ⊢
  have hM : (m : Int) + 1 <= 2 ^ r - (q0L c (2 ^ r) c.sum).sum:=by unfold giveM at hm; omega
  obtain ⟨s0,hs0,hf0⟩:=a9s h2 (by omega)
  have hn0:=a9r (restL c (2 ^ r) c.sum) st.2 hf0 256 hs0
  have hnl:=a4N (restL c (2 ^ r) c.sum) st.2 256
  obtain ⟨t,ht⟩ : ∃ t : Nat,needN (restL c (2 ^ r) c.sum) st.2 256 = t:=⟨_,(Int.toNat_of_nonneg hn0).symm⟩
  rw [ht] at hnl ⊢
  have htf:=hnl.2.2 (by omega)
  rw [Int.toNat_natCast] at htf ⊢
  have ht256 : t < 256:=by omega
  have hct:=h7 t ht256 htf
  have hg:=h3 t
  refine ⟨by rw [List.length_set]; exact h1,by rw [List.length_set]; exact h2,λ s=>?_,λ s=>?_,?_,?_,λ s hs hf=>?_⟩
  · rw [a3l _ _ _ _ (by omega)]
    have:=h3 s
    split <;> omega
  · rw [a3l _ _ _ _ (by omega)]
    by_cases e : s = t
    · subst e; rw [if_pos rfl]; exact ⟨λ _=>hct,λ _=>by omega⟩
    · rw [if_neg e]; exact h4 s
  · rw [a7o _ _ _ (by omega),h5]; omega
  · have:=b4K (had:=st.2) (s:=t) (by omega) htf; omega
  · refine h7 s hs ?_
    by_cases e : s = t
    · subst e; exact htf
    · rw [List.getD_eq_getElem?_getD,List.getElem?_set_ne (λ x=>e x.symm),<- List.getD_eq_getElem?_getD] at hf; exact hf
theorem c3Z {q : List Int} (h : ∀ x ∈ q,0 <= x /\ x <= 1) : q.sum <= (q.countP (λ x=>decide (0 < x)) : Nat):=by
 induction q with
 | nil=>simp
 | cons a l ih=>
  have:=ih (λ x hx=>h x (by simp [hx]))
  have ha:=h a (by simp)
  rw [List.sum_cons,List.countP_cons]
  by_cases e : 0 < a
  · simp [e]; omega
  · simp [e]; omega
theorem c4a {c q : List Int} (hc : c.length = 256) (hq : q.length = 256) (h : ∀ s,0 < q.getD s 0 ↔ 0 < c.getD s 0) : q.countP (λ x=>decide (0 < x)) = c.countP (λ x=>decide (0 < x)):=by
 have e : ∀ l : List Int,l.length = 256 -> l.countP (λ x=>decide (0 < x)) = (List.range 256).countP (λ s=>decide (0 < l.getD s 0)):=by
  intro l hl
  have:=b4I hl
  conv=>lhs; rw [<- this]
  unfold mapR
  rw [List.countP_map]; rfl
 rw [e q hq,e c hc]
 exact List.countP_congr (λ s _=>by simp only [decide_eq_true_eq]; exact h s)
theorem a7p {c : List Int} {r : Nat} (h : Can c r) {q : List Int} (hq : Way c q) : ∀ m,m <= (q.sum - 2 ^ r).toNat ->
    Way c (a0R c m q) /\ (a0R c m q).sum = q.sum - m
 | 0,_=>⟨hq,by simp [a0R]⟩
 | m + 1,hm=>by
  obtain ⟨h1,h2⟩:=a7p h hq m (by omega)
  simp only [a0R]
  obtain ⟨t,ht⟩ : ∃ t,t = a0R c m q:=⟨_,rfl⟩
  rw [<- ht] at h1 h2 ⊢
  obtain ⟨b,hb⟩ : ∃ b,b = richN t c 256:=⟨_,rfl⟩
  have hbl:=a4O t c 256
  have hmax:=b4H t c 256
  rw [<- hb] at hbl hmax ⊢
  have hlen:=h1.len
  have hbig : 2 <= t.getD b 0:=by
   by_cases e : 2 <= t.getD b 0
   · exact e
   · exfalso
     have hle : t.sum <= (t.countP (λ x=>decide (0 < x)) : Nat):=c3Z (λ x hx=>by
      obtain ⟨s,hs,rfl⟩:=List.getElem_of_mem hx
      have a:=hmax s (by omega); have a2:=h1.rng s
      rw [List.getD_eq_getElem?_getD,List.getElem?_eq_getElem hs,Option.getD_some] at a a2
      omega)
     rw [c4a h.len hlen h1.iff] at hle
     have hmny:=h.many
     have e2 : (2 : Int) ^ r = ((2 ^ r : Nat) : Int):=by simp
     have hmI : (m : Int) + 1 <= q.sum - 2 ^ r:=by omega
     rw [e2] at hmI; omega
  have hrb:=h1.rng b
  have hib:=h1.iff b
  refine ⟨⟨by rw [List.length_set]; exact hlen,λ s=>?_,λ s=>?_⟩,?_⟩
  · rw [a3l _ _ _ _ (by omega)]
    have:=h1.rng s
    split <;> omega
  · rw [a3l _ _ _ _ (by omega)]
    by_cases e : s = b
    · subst e; rw [if_pos rfl]; exact ⟨λ _=>hib.1 (by omega),λ _=>by omega⟩
    · rw [if_neg e]; exact h1.iff s
  · rw [a7o _ _ _ (by omega),h2]; omega
theorem a9t {c : List Int} {r : Nat} (h : Can c r) : Way c (a0V (restL c (2 ^ r) c.sum) (giveM c (2 ^ r) c.sum) (q0L c (2 ^ r) c.sum,hadL c (2 ^ r) c.sum)).1 /\ 2 ^ r <= (a0V (restL c (2 ^ r) c.sum) (giveM c (2 ^ r) c.sum) (q0L c (2 ^ r) c.sum,hadL c (2 ^ r) c.sum)).1.sum:=by
 obtain ⟨h1,h2,h3,h4,h5,h6,h7⟩:=a4P h _ (Nat.le_refl _)
 have h0 : 0 <= (q0L c (2 ^ r) c.sum).sum:=a2O (λ x hx=>by
  obtain ⟨v,hv,rfl⟩:=a7h hx; exact (h.q0 v).1)
 have hp:=a1H h.r12
 have hM : giveM c (2 ^ r) c.sum <= 4096:=by unfold giveM; omega
 refine ⟨⟨h1,λ s=>⟨(h3 s).1,by have:=(h3 s).2; omega⟩,h4⟩,?_⟩
 rw [h5]; unfold giveM; omega
theorem a4Q {c : List Int} {r : Nat} (h : Can c r) : Good (normL c r) /\ (normL c r).sum = 2 ^ r /\ ∀ s,0 < (normL c r).getD s 0 ↔ 0 < c.getD s 0:=by
 obtain ⟨hw,hs⟩:=a9t h
 obtain ⟨h1,h2⟩:=a7p h hw _ (Nat.le_refl _)
 have hp:=a1H h.r12
 have e : normL c r = a0R c ((a0V (restL c (2 ^ r) c.sum) (giveM c (2 ^ r) c.sum) (q0L c (2 ^ r) c.sum,hadL c (2 ^ r) c.sum)).1.sum - 2 ^ r).toNat (a0V (restL c (2 ^ r) c.sum) (giveM c (2 ^ r) c.sum) (q0L c (2 ^ r) c.sum,hadL c (2 ^ r) c.sum)).1:=rfl
 rw [<- e] at h1 h2
 have hsum : (normL c r).sum = 2 ^ r:=by rw [h2]; omega
 refine ⟨⟨h1.len,λ x hx=>?_,by omega⟩,hsum,h1.iff⟩
 obtain ⟨s,hs,rfl⟩:=List.getElem_of_mem hx
 have:=h1.rng s
 rw [List.getD_eq_getElem?_getD,List.getElem?_eq_getElem hs] at this; exact this.1
theorem b4L {c : List Int} {r : Nat} (h : Can c r) : logC (normL c r) = r:=by
 obtain ⟨h1,h2,_⟩:=a4Q h
 have hp:=a1H h.r12
 have hr : a0P (normL c r) = true:=rightC_iff.2 ⟨h1.len,h1.nonneg,by omega⟩
 unfold logC a1c
 rw [if_pos hr,h2]
 exact a6v h.r1 h.r12 rfl
open Go.IntWalk Go.Proofs.YtflfjpkmjnnodaaGreat.PRef Go.Proofs.YtflfjpkmjnnodaaGreatW.PrintWords Go.Proofs.YtflfjpkmjnnodaaGreatW.PrintLast Go.Proofs.YtflfjpkmjnnodaaGreatW.PrintMore
section
variable (A : Option Addr) (cp : Nat) (c : List Int) (w : World)
theorem c4g (hr : (Kd.int .i64).C w A c.length c) (hc : c.length <= cp) : Calls Tryz.prog 172 #[.slice A c.length cp] w (Ret (.int .i64 (logC c)) w):=by
 obtain ⟨k,hk⟩:=(a5q c).rounds
 exact (puncheonref08_Log.calls k A cp c _ w hr hc hk).mono λ e w' h=>⟨h.1,h.2.below⟩
end
theorem a7q (n : Nat) (hn : n <= 1000000) (w : World) : (Instr.makeSlice 84 (.int .i64 n) (.int .i64 n)).run Tryz.prog w = .ok (.slice (some ⟨w.heap.size,0,none⟩) n n) (w.alloc (.cells (madeCells #[.int .i64 0] n) 3)):=by
 obtain ⟨i0,hi,hzz⟩:=Option.map_eq_some_iff.1 a4c
 simp only [Prod.mk.injEq] at hzz
 obtain ⟨hz0,hz1,hz2⟩:=hzz
 have hr:=run_make (P:=Tryz.prog) w 84 3 i0 (.int .i64 0) Tryz.underlying84 hi hz0 .i64 .i64 (n : Int) (n : Int) (by omega) (by omega) (by rw [hz2]; omega) (by omega)
 rw [hz1] at hr
 simpa [Value.cells] using hr
end Go.Proofs.YtflfjpkmjnnodaaGreat
namespace Go.Proofs.YtflfjpkmjnnodaaGreat
open Go.RowKit Go.IntWalk Go.Proofs.YtflfjpkmjnnodaaGreatW.PrintWords
def qTo (c : List Int) (P n : Int) (k : Nat) : List Int:=mapR (λ s=>if s < k then q0F c P n s else 0)
def rTo (c : List Int) (P n : Int) (k : Nat) : List Int:=mapR (λ s=>if s < k then c.getD s 0 * P % n else 0)
def hTo (c : List Int) (P n : Int) (k : Nat) : List Bool:=(List.range 256).map (λ s=>if s < k then decide (c.getD s 0 * P / n = 0) else false)
theorem a9v (c : List Int) (P n : Int) : qTo c P n 0 = List.replicate 256 0 /\ rTo c P n 0 = List.replicate 256 0 /\ hTo c P n 0 = List.replicate 256 false:=by
 have e : ∀ {α : Type} (z : α) (f : Nat -> α),(∀ s,f s = z) -> (List.range 256).map f = List.replicate 256 z:=λ z f h=>by
  rw [show f = λ _=>z from funext h,List.map_const',List.length_range]
 exact ⟨e 0 (λ s=>if s < 0 then q0F c P n s else 0) (λ s=>by rw [if_neg (by omega)]),e 0 (λ s=>if s < 0 then c.getD s 0 * P % n else 0) (λ s=>by rw [if_neg (by omega)]),e false (λ s=>if s < 0 then decide (c.getD s 0 * P / n = 0) else false) (λ s=>by rw [if_neg (by omega)])⟩
theorem a9w (c : List Int) (P n : Int) : qTo c P n 256 = q0L c P n /\ rTo c P n 256 = restL c P n /\ hTo c P n 256 = hadL c P n:=
 ⟨a3k (λ s h=>by rw [if_pos h]),a3k (λ s h=>by rw [if_pos h]),List.map_congr_left (λ s h=>by rw [if_pos (List.mem_range.1 h)])⟩
theorem a7s (f : Nat -> Int) {k : Nat} (hk : k < 256) : (mapR (λ s=>if s < k then f s else 0)).set k (f k) = mapR (λ s=>if s < k + 1 then f s else 0):=by
 rw [a7g _ hk]
 refine a3k (λ s _=>?_)
 by_cases e : s = k
 · subst e; rw [if_pos rfl,if_pos (by omega)]
 · rw [if_neg e]
   by_cases e2 : s < k
   · rw [if_pos e2,if_pos (by omega)]
   · rw [if_neg e2,if_neg (by omega)]
theorem b4Q (q : List Int) (k : Nat) (x y : Int) : (q.set k x).set k y = q.set k y:=by simp
def a9x (c : List Int) (r : Nat) (w : World) (e : Ending) (w' : World) : Prop:=∃ v,e = .returned (.tuple #[v,.int .i64 0]) /\ (Kd.int .i64).R 3 w' w.heap.size (λ _=>True) v (normL c r) /\ Below w.heap.size w w'
end Go.Proofs.YtflfjpkmjnnodaaGreat
namespace Go.Proofs.YtflfjpkmjnnodaaGreat
open Go.RowKit Go.Proofs.YtflfjpkmjnnodaaGreatW.PrintWords Go.Proofs.YtflfjpkmjnnodaaGreatW.PrintLast Go.Proofs.YtflfjpkmjnnodaaGreatW.PrintMore
theorem a9y (b : List Int) (hb : Bytes b) : (histL b).sum = b.length:=by
 induction b with
 | nil=>
  unfold histL mapR
  have : ∀ l : List Nat,(l.map (λ (v : Nat)=>(((([] : List Int).count (v : Int)) : Nat) : Int))).sum = 0:=by
   intro l; induction l with
   | nil=>rfl
   | cons a l ih=>rw [List.map_cons,List.sum_cons,ih]; simp
  exact this _
 | cons x l ih=>
  have hx:=hb x (by simp)
  have ih2:=ih (λ y hy=>hb y (by simp [hy]))
  obtain ⟨v,rfl⟩ : ∃ v : Nat,x = v:=⟨x.toNat,by omega⟩
  have e : histL ((v : Int) :: l) = (histL l).set v ((l.count (v : Int) : Int) + 1):=by
   unfold histL
   rw [a7g _ (by omega)]
   refine a3k (λ u _=>?_)
   rw [List.count_cons]
   by_cases e : u = v
   · subst e; rw [if_pos rfl]; simp
   · rw [if_neg e]
     have : ¬ (v : Int) = (u : Int):=by omega
     simp [this]
  rw [e,a7o _ _ _ (by unfold histL; rw [a1E]; omega),a5B _ (by omega),ih2,List.length_cons]
  omega
theorem a9z (b : List Int) {s : Nat} (hs : s < 256) : 0 < (histL b).getD s 0 ↔ (s : Int) ∈ b:=by
 rw [a5B _ hs,<- List.count_pos_iff]; omega
theorem c4t (m : Nat) (h : m <= 256) : ceilI m <= 8 /\ m <= 2 ^ ceilI m:=by
 unfold ceilI a1Z
 rcases Nat.lt_or_ge m 2 with h2 | h2
 · rw [show ((m : Int) - 1).toNat = 0 by omega]
   exact ⟨by decide,by have : Lib.bitLen 0 = 0:=by decide
                       rw [this]; omega⟩
 · obtain ⟨y,hy⟩ : ∃ y,y = m - 1:=⟨_,rfl⟩
   rw [show ((m : Int) - 1).toNat = y by omega]
   obtain ⟨a,b,c⟩:=a3f y (by omega) (by omega)
   have:=Lib.bitLen_le8' (y : Int) (by omega) (by omega)
   rw [Int.toNat_natCast] at this
   exact ⟨this,by omega⟩
theorem b4T (n m : Nat) (most : Nat) (h : m <= 256) (h8 : 8 <= most) (h12 : most <= 12) : ∃ r : Nat,pickI n m most = r /\ 5 <= r /\ r <= most /\ m <= 2 ^ r:=by
 obtain ⟨c1,c2⟩:=c4t m h
 have hr : 5 <= pickI n m most /\ pickI n m most <= most /\ (ceilI m : Int) <= pickI n m most:=by
  unfold pickI mx mn
  split <;> (split <;> (split <;> omega))
 refine ⟨(pickI n m most).toNat,by omega,by omega,by omega,?_⟩
 have : 2 ^ ceilI m <= 2 ^ (pickI n m most).toNat:=Nat.pow_le_pow_right (by omega) (by omega)
 omega
theorem b4U {c : List Int} (h : a0P c = true) : manyC c = c.countP (λ x=>decide (0 < x)):=by unfold manyC; rw [if_pos h]
theorem a5C (b : List Int) (hb : Bytes b) (hl : b.length <= 1000000) : a0P (histL b) = true:=
 rightC_iff.2 ⟨a1E _,λ x hx=>by obtain ⟨v,_,rfl⟩:=a7h hx; omega,by rw [a9y b hb]; omega⟩
theorem b4V {b : List Int} {r : Nat} (hb : Bytes b) (hl : b.length <= 1000000) (h0 : 0 < b.length) (h1 : 1 <= r) (h12 : r <= 12) (hm : manyC (histL b) <= 2 ^ r) : Can (histL b) r:=
 ⟨a1E _,λ x hx=>by obtain ⟨v,_,rfl⟩:=a7h hx; omega,by rw [a9y b hb]; omega,by rw [a9y b hb]; omega,h1,h12,by rw [<- b4U (a5C b hb hl)]; exact hm⟩
def zeroR (b : List Int) : Nat:=(pickI b.length (manyC (histL b)) 11).toNat
def zeroQ (b : List Int) : List Int:=normL (histL b) (zeroR b)
theorem a4l (b : List Int) : pickI b.length (manyC (histL b)) 11 = (zeroR b : Int) /\ 5 <= zeroR b /\ zeroR b <= 11 /\ manyC (histL b) <= 2 ^ zeroR b:=by
 obtain ⟨r,h1,h2,h3,h4⟩:=b4T b.length (manyC (histL b)) 11 (a4L _) (by omega) (by omega)
 have e : zeroR b = r:=by unfold zeroR; rw [show ((11 : Nat) : Int) = 11 from rfl] at h1; rw [h1]; simp
 rw [e]; exact ⟨h1,h2,h3,h4⟩
theorem b4W {lg : Int} {q : List Int} (h : logC q ≠ 0) (h2 : (logC q : Int) = lg) : badQ lg q = false:=by
 unfold badQ; exact decide_eq_false (λ x=>x.2 ⟨h,h2⟩)
theorem c4u (lg : Int) : badQ lg [] = false:=by unfold badQ; exact decide_eq_false (λ x=>by simp at x)
theorem a5D {b : List Int} (hb : Bytes b) (hl : b.length <= 1000000) (h0 : 0 < b.length) : Can (histL b) (zeroR b):=by
 have:=a4l b
 exact b4V hb hl h0 (by omega) (by omega) this.2.2.2
theorem c4v {b : List Int} (hb : Bytes b) (hl : b.length <= 1000000) (h0 : 0 < b.length) : a0z (zeroR b) true [zeroQ b] = true:=by
 have hc:=a5D hb hl h0
 have hz:=a4l b
 have hlog:=b4L hc
 have hlen:=(a4Q hc).1.len
 unfold a0z
 rw [if_neg (by omega),if_neg (by
  simp only [List.any_cons,List.any_nil,Bool.or_false]
  rw [b4W (q:=zeroQ b) (by unfold zeroQ; omega) (by unfold zeroQ; rw [hlog])]; decide)]
 rw [if_pos rfl,decide_eq_true_eq]
 have h0 : 0 < (normL (histL b) (zeroR b)).length:=by omega
 refine ⟨List.length_singleton,?_⟩
 rw [List.getD_cons_zero]; unfold zeroQ; exact h0
theorem c4w {b : List Int} (hb : Bytes b) (hl : b.length <= 1000000) (h0 : 0 < b.length) : fitsM (zeroR b) true [zeroQ b] b = true:=by
 have hc:=a5D hb hl h0
 have hn:=a4Q hc
 unfold fitsM
 rw [c4v hb hl h0,Bool.true_and,List.all_eq_true]
 intro i hi
 have hi':=List.mem_range.1 hi
 have hg:=hb.get i
 obtain ⟨x,hx⟩ : ∃ x : Nat,b.getD i 0 = x:=⟨(b.getD i 0).toNat,by omega⟩
 unfold fitAt
 rw [decide_eq_true_eq]
 have e0 : ([zeroQ b].getD (listI true (ctxI b i)) []) = normL (histL b) (zeroR b):=by unfold listI; rw [if_pos rfl,List.getD_cons_zero]; rfl
 rw [e0]
 refine ⟨by have:=hn.1.len; omega,?_⟩
 rw [hx,Int.toNat_natCast]
 have h1:=(hn.2.2 x).2 ((a9z b (by omega)).2 (by rw [<- hx]; exact a1Y hi'))
 omega
def a0v (b : List Int) : Nat:=(pickI b.length (widN b 256) 9).toNat
def a1p (b : List Int) (c : Nat) : List Int:=if 0 < (a0r b (c : Int)).length then normL (histL (a0r b (c : Int))) (a0v b) else []
def a0G (b : List Int) : List (List Int):=(List.range 256).map (a1p b)
theorem a2Q (b : List Int) : pickI b.length (widN b 256) 9 = (a0v b : Int) /\ 5 <= a0v b /\ a0v b <= 9 /\ widN b 256 <= 2 ^ a0v b:=by
 obtain ⟨r,h1,h2,h3,h4⟩:=b4T b.length (widN b 256) 9 (a7n b _) (by omega) (by omega)
 have e : a0v b = r:=by unfold a0v; rw [show ((9 : Nat) : Int) = 9 from rfl] at h1; rw [h1]; simp
 rw [e]; exact ⟨h1,h2,h3,h4⟩
theorem b4X (b : List Int) : ∀ k c,c < k -> manyC (histL (a0r b (c : Nat))) <= widN b k
 | 0,c,h=>by omega
 | k + 1,c,h=>by
  simp only [widN]
  by_cases e : c = k
  · subst e; omega
  · have:=b4X b k c (by omega); omega
theorem c4x (b : List Int) (c : Int) : (a0r b c).length <= b.length:=a4k b c b.length
theorem a5E {b : List Int} (hb : Bytes b) (hl : b.length <= 1000000) {c : Nat} (hc : c < 256) (h0 : 0 < (a0r b (c : Int)).length) : Can (histL (a0r b (c : Int))) (a0v b):=by
 have h1:=a2Q b
 have h2:=b4X b 256 c hc
 have h3:=c4x b (c : Int)
 exact b4V (b4C hb _ _) (by omega) h0 (by omega) (by omega) (by omega)
theorem a9A (b : List Int) : (a0G b).length = 256:=by simp [a0G]
theorem a7u (b : List Int) {c : Nat} (h : c < 256) : (a0G b).getD c [] = a1p b c:=by
 unfold a0G; rw [List.getD_eq_getElem?_getD,List.getElem?_map,List.getElem?_range h]; rfl
theorem c4y {b : List Int} (hb : Bytes b) (hl : b.length <= 1000000) : a0z (a0v b) false (a0G b) = true:=by
 have hz:=a2Q b
 unfold a0z
 rw [if_neg (by omega),if_neg]
 · rw [if_neg (by decide),decide_eq_true_eq]; exact a9A b
 · rw [Bool.not_eq_true,List.any_eq_false]
   intro q hq
   unfold a0G at hq
   obtain ⟨c,hc,rfl⟩:=List.mem_map.1 hq
   unfold a1p
   split
   · rename_i h0
     have hlog:=b4L (a5E hb hl (List.mem_range.1 hc) h0)
     rw [b4W (by omega) (by rw [hlog])]; decide
   · rw [c4u]; decide
theorem c4z {b : List Int} (hb : Bytes b) (hl : b.length <= 1000000) : fitsM (a0v b) false (a0G b) b = true:=by
 unfold fitsM
 rw [c4y hb hl,Bool.true_and,List.all_eq_true]
 intro i hi
 have hi':=List.mem_range.1 hi
 have hg:=hb.get i
 have hcr:=a4e hb i hi'
 obtain ⟨x,hx⟩ : ∃ x : Nat,b.getD i 0 = x:=⟨(b.getD i 0).toNat,by omega⟩
 obtain ⟨c,hc⟩ : ∃ c : Nat,ctxI b i = c:=⟨(ctxI b i).toNat,by omega⟩
 have hmem : b.getD i 0 ∈ a0r b (c : Int):=by
  unfold a0r pkL
  exact List.mem_map.2 ⟨i,List.mem_filter.2 ⟨hi,by rw [decide_eq_true_eq]; exact hc⟩,rfl⟩
 have hpos : 0 < (a0r b (c : Int)).length:=List.length_pos_of_mem hmem
 have hcan:=a5E hb hl (c:=c) (by omega) hpos
 have hn:=a4Q hcan
 have e : (a0G b).getD (listI false (ctxI b i)) [] = normL (histL (a0r b (c : Int))) (a0v b):=by
  rw [hc]
  show (a0G b).getD ((c : Int)).toNat [] = _
  rw [Int.toNat_natCast,a7u b (by omega)]
  unfold a1p; rw [if_pos hpos]
 unfold fitAt
 rw [decide_eq_true_eq,e]
 refine ⟨by have:=hn.1.len; omega,?_⟩
 rw [hx,Int.toNat_natCast]
 have h1:=(hn.2.2 x).2 ((a9z _ (by omega)).2 (by rw [<- hx]; exact hmem))
 omega
end Go.Proofs.YtflfjpkmjnnodaaGreat
namespace Go.Proofs.YtflfjpkmjnnodaaGreat
open Go.RowKit Go.IntWalk Go.Proofs.YtflfjpkmjnnodaaGreatW.PrintWords
def MadeM (lg : Int) (one : Bool) (qs : List (List Int)) (w : World) (e : Ending) (w' : World) : Prop:=∃ v,e = .returned (.agg #[.int .i64 lg,.bool one,v]) /\ kq.R 84 w' w.heap.size (λ _=>True) v qs /\ Below w.heap.size w w'
theorem cell3 {w : World} {mb : Nat} {a b c : Value} {t : Nat} (h : w.heap[mb]? = some (.cells #[a,b,c] t (0,0))) : (w.cell? ⟨mb,0,none⟩ = some a /\ w.cell? ⟨mb,1,none⟩ = some b /\ w.cell? ⟨mb,2,none⟩ = some c) /\ (w.frozen? ⟨mb,0,none⟩ = false /\ w.frozen? ⟨mb,1,none⟩ = false /\ w.frozen? ⟨mb,2,none⟩ = false):=
 ⟨⟨(a0a h 0).trans rfl,(a0a h 1).trans rfl,(a0a h 2).trans rfl⟩,a0e h 0,a0e h 1,a0e h 2⟩
theorem a5F : (Tryz.prog.info? 26).map (·.size) = some 3:=by kernel_rfl
theorem a7w : (Tryz.prog.info? 84).map (λ i=>(i.zero,i.size,i.bytes)) = some (some (.slice none 0 0),1,24):=by kernel_rfl
theorem a9B (n : Nat) (hn : n <= 1000000) (w : World) : (Instr.makeSlice 24 (.int .i64 n) (.int .i64 n)).run Tryz.prog w = .ok (.slice (some ⟨w.heap.size,0,none⟩) n n) (w.alloc (.cells (madeCells #[.slice none 0 0] n) 84)):=by
 obtain ⟨i0,hi,hzz⟩:=Option.map_eq_some_iff.1 a7w
 simp only [Prod.mk.injEq] at hzz
 obtain ⟨hz0,hz1,hz2⟩:=hzz
 have hr:=run_make (P:=Tryz.prog) w 24 84 i0 (.slice none 0 0) Tryz.underlying24 hi hz0 .i64 .i64 (n : Int) (n : Int) (by omega) (by omega) (by rw [hz2]; omega) (by omega)
 rw [hz1] at hr
 simpa [Value.cells] using hr
theorem a3H {w w' : World} (h : Below w.heap.size w w') (o : Obj) : Below w.heap.size w (w'.alloc o):=h.alloc h.size o
theorem a4R {w w' : World} (h : Below w.heap.size w w') : Below w.heap.size w w'.drew:=h.drew
theorem a0g {w w1 w2 : World} (h : Below w.heap.size w w1) (k : Below w1.heap.size w1 w2) : Below w.heap.size w w2:=h.trans (k.mono h.size)
theorem b4Z {w w' : World} (h : Below w.heap.size w w') {k o : Nat} (hk : w.heap.size <= k) (a : Value) : Below w.heap.size w (w'.setCell ⟨k,o,none⟩ a):=h.setCell hk a
theorem c4C (n : Nat) (hn : n <= 1000000) (W : World) (mb base : Nat) (hne : W.heap.size ≠ mb) (hb : base <= W.heap.size) : kq.R 84 (W.alloc (.cells (madeCells #[.slice none 0 0] n) 84)) base (λ k=>k ≠ mb) (.slice (some ⟨W.heap.size,0,none⟩) n n) (List.replicate n []):=by
 have hr:=Kd.reps_made (R:=kq.M (W.alloc (.cells (madeCells #[.slice none 0 0] n) 84)) base (λ k=>k ≠ mb /\ some k ≠ (Value.slice (some ⟨W.heap.size,0,none⟩) n n).ownBlock)) (z:=.slice none 0 0) (size:=1) (z0:=([] : List Int)) rfl Nat.one_pos ⟨.slice none 0 0,rfl,Kd.R_nil _ _ _ _ _⟩ n
 have e : (Value.slice none 0 0).cells = #[.slice none 0 0]:=rfl
 rw [e,Nat.mul_one] at hr
 refine ⟨λ k hk=>by cases hk; exact hne,_,⟨?_,.inr ⟨W.heap.size,n,madeCells #[.slice none 0 0] n,by simp,hb,a0i W _,by simp,by unfold maxLen; omega,?_,?_⟩⟩,hr⟩
 · simp [size_madeCells]; exact (Nat.mul_one n).symm
 · rw [size_madeCells]; exact (Nat.mul_one n).symm
 · rw [List.length_replicate]; exact List.take_of_length_le (by simp [size_madeCells]; exact Nat.le_of_eq (Nat.mul_one n).symm)
theorem a5G (W : World) (mb base : Nat) (hne : W.heap.size ≠ mb) (hb : base <= W.heap.size) : kq.R 84 (W.alloc (.cells (madeCells #[.slice none 0 0] 256) 84)) base (λ k=>k ≠ mb) (.slice (some ⟨W.heap.size,0,none⟩) 256 256) (List.replicate 256 []):=c4C 256 (by omega) W mb base hne hb
theorem b5a (W : World) (o : Obj) (mb base : Nat) (hne : W.heap.size + 1 ≠ mb) (hb : base <= W.heap.size + 1) : kq.R 84 ((W.alloc o).alloc (.cells (madeCells #[.slice none 0 0] 256) 84)) base (λ k=>k ≠ mb) (.slice (some ⟨W.heap.size + 1,0,none⟩) 256 256) (List.replicate 256 []):=by
 have e : (W.alloc o).heap.size = W.heap.size + 1:=by simp
 have:=a5G (W.alloc o) mb base (by rw [e]; exact hne) (by rw [e]; exact hb)
 rw [e] at this; exact this
theorem a2i (W : World) (a o : Obj) : ((W.alloc a).alloc o).heap[W.heap.size + 1]? = some o:=by
 have:=a0i (W.alloc a) o
 rw [show (W.alloc a).heap.size = W.heap.size + 1 by simp] at this; exact this
theorem a1t {w : World} {mb : Nat} {t : Nat} {a b c : Value} (h : w.heap[mb]? = some (.cells #[a,b,c] t (0,0))) (x y z : Value) : (((w.setCell ⟨mb,0,none⟩ x).setCell ⟨mb,1,none⟩ y).setCell ⟨mb,2,none⟩ z).heap[mb]? = some (.cells #[x,y,z] t (0,0)):=by
 rw [a0x (a0x (a0x h 0 _) 1 _) 2]; rfl
theorem a2c {α : Type} {d : Kd α} {e : Nat} {w : World} {base mb : Nat} {v : Value} {xs : List α} (h : d.R e w base (λ k=>k ≠ mb) v xs) (x y z : Value) : d.R e (((w.setCell ⟨mb,0,none⟩ x).setCell ⟨mb,1,none⟩ y).setCell ⟨mb,2,none⟩ z) base (λ k=>k ≠ mb) v xs:=
 Kd.R_far (p:=⟨mb,2,none⟩) (Kd.R_far (p:=⟨mb,1,none⟩) (Kd.R_far (p:=⟨mb,0,none⟩) h (λ _ hk=>hk) x) (λ _ hk=>hk) y) (λ _ hk=>hk) z
theorem a9C {w : World} {g : Nat} {o : Obj} (h : w.heap[g]? = some o) : w.drew.heap[g]? = some o:=h
theorem a9D {e : TypeId} {W : World} {base g n cap : Nat} {ok okp : Nat -> Prop} {xs : List (List Int)} {v : Value} {x : List Int} (h : kq.R e W base ok (.slice (some ⟨g,0,none⟩) n cap) xs) (i : Nat) (hi : i < n) (hq : (Kd.int .i64).R 3 W base okp v x) (hokp : ∀ k,okp k -> ok k /\ k ≠ g) :
    kq.R e (W.setCell ⟨g,i,none⟩ v) base ok (.slice (some ⟨g,0,none⟩) n cap) (xs.set i x):=by
 obtain ⟨c,hcl,_,hcc,_⟩:=Kd.R_elem h [] (i : Int) (by omega) (by omega)
 have hs : kq.sz = 1:=rfl
 have:=(Kd.R_seg h (i : Int) (by omega) (by omega) (seg:=[v]) (j:=0) (x':=x) (okp:=okp) hcl hcc (by rw [hs]; simp) ⟨v,by rw [List.drop_of_length_le (by rw [hcl,hs]; simp)]; simp,hq⟩ hokp).1
 simp only [Int.toNat_natCast,hs,Nat.mul_one,Nat.add_zero] at this
 exact this
def a3m (b : List Int) (i : Nat) : List (List Int):=(List.range 256).map (λ (c : Nat)=>if (c : Int) ∈ (presN b 256).take i then a1p b c else [])
theorem a7x (b : List Int) {i : Nat} (h : i < (presN b 256).length) : ∃ c : Nat,(presN b 256).getD i 0 = c /\ c < 256 /\ 0 < (a0r b (c : Int)).length:=by
 have hm:=a1Y h
 obtain ⟨z,hz⟩ : ∃ z,z = (presN b 256).getD i 0:=⟨_,rfl⟩
 rw [<- hz] at hm ⊢
 unfold presN at hm
 obtain ⟨c,hc,rfl⟩:=List.mem_map.1 hm
 obtain ⟨h1,h2⟩:=List.mem_filter.1 hc
 exact ⟨c,rfl,List.mem_range.1 h1,by simpa using h2⟩
theorem b5b (b : List Int) : a3m b 0 = List.replicate 256 []:=by
 unfold a3m
 rw [<- List.length_range (n:=256),<- List.map_const',List.length_range]
 exact List.map_congr_left (λ c _=>by rw [if_neg (by simp)])
theorem b5c (b : List Int) {i c : Nat} (h : i < (presN b 256).length) (hc : (presN b 256).getD i 0 = (c : Int)) : (a3m b i).set c (a1p b c) = a3m b (i + 1):=by
 have e : (presN b 256).take (i + 1) = (presN b 256).take i ++ [(c : Int)]:=by
  rw [List.take_succ_eq_append_getElem h,<- hc,List.getD_eq_getElem?_getD,List.getElem?_eq_getElem h]; rfl
 unfold a3m
 apply List.ext_getElem
 · simp
 · intro k h1 h2
   rw [List.getElem_set]
   simp only [List.getElem_map,List.getElem_range,e,List.mem_append,List.mem_singleton]
   by_cases hk : c = k
   · subst hk; rw [if_pos rfl,if_pos (.inr rfl)]
   · rw [if_neg hk]
     by_cases h3 : (k : Int) ∈ (presN b 256).take i
     · rw [if_pos h3,if_pos (.inl h3)]
     · rw [if_neg h3,if_neg (λ x=>x.elim h3 (λ y=>by omega))]
theorem b5d (b : List Int) : a3m b (presN b 256).length = a0G b:=by
 unfold a3m a0G
 refine List.map_congr_left (λ c hc=>?_)
 rw [List.take_length]
 by_cases h : (c : Int) ∈ presN b 256
 · rw [if_pos h]
 · rw [if_neg h]
   unfold a1p
   rw [if_neg (λ h2=>h ?_)]
   unfold presN
   exact List.mem_map.2 ⟨c,List.mem_filter.2 ⟨hc,by simpa using h2⟩,rfl⟩
def a9E (lg : Int) (w : World) (s3 : Value) (wx : World) : Prop:=∃ mb g : Nat,s3 = .pointer (some ⟨mb,0,none⟩) /\ w.heap.size <= mb /\ w.heap.size <= g /\ mb ≠ g /\ wx.heap[mb]? = some (.cells #[.int .i64 lg,.bool false,.slice (some ⟨g,0,none⟩) 256 256] 26 (0,0)) /\
 kq.R 84 wx w.heap.size (λ k=>k ≠ mb) (.slice (some ⟨g,0,none⟩) 256 256) (List.replicate 256 []) /\ Below w.heap.size w wx
theorem a9F {e : TypeId} {W : World} {base g n cap : Nat} {ok : Nat -> Prop} {xs : List (List Int)} (h : kq.R e W base ok (.slice (some ⟨g,0,none⟩) n cap) xs) (i : Nat) (hi : i < n) : (∃ u,W.cell? ⟨g,i,none⟩ = some u) /\ W.frozen? ⟨g,i,none⟩ = false:=by
 obtain ⟨c,hcl,hm,hcc,hf⟩:=Kd.R_elem h [] (i : Int) (by omega) (by omega)
 obtain ⟨v,rfl,_⟩:=hm
 have h1:=hcc 0 v rfl
 have h2:=hf 0
 have hs : kq.sz = 1:=rfl
 simp only [Int.toNat_natCast,hs,Nat.mul_one,Nat.add_zero] at h1 h2
 exact ⟨⟨v,h1⟩,h2⟩
theorem b5e {lg : Int} {W1 wx : World} {mb : Nat} (g : Nat) (hd : wx.heap[mb]? = some (.cells #[.int .i64 lg,.bool false,.slice (some ⟨g,0,none⟩) 256 256] 26 (0,0))) (he : kq.R 84 wx W1.heap.size (λ k=>k ≠ mb) (.slice (some ⟨g,0,none⟩) 256 256) (List.replicate 256 [])) (hf : Below W1.heap.size W1 wx) (h1 : W1.heap.size <= mb) (h2 : W1.heap.size <= g) (h3 : mb ≠ g) : a9E lg W1 (.pointer (some ⟨mb,0,none⟩)) wx:=⟨mb,g,rfl,h1,h2,h3,hd,he,hf⟩
def ofR (b : List Int) (one : Bool) : Nat:=if one then zeroR b else a0v b
def ofQ (b : List Int) (one : Bool) : List (List Int):=if one then [zeroQ b] else a0G b
theorem a4m {b : List Int} {one : Bool} (hb : Bytes b) (hl : b.length <= 131072) (h0 : 0 < b.length) : canM (ofR b one) one (ofQ b one) b = true:=by
 unfold canM
 rw [decide_eq_true hl,Bool.true_and]
 cases one with
 | true=>exact c4w hb (by omega) h0
 | false=>exact c4z hb (by omega)
theorem a3n (κ : IntKind) (e : TypeId) (W : World) (base : Nat) (ok : Nat -> Prop) (hok : ok W.heap.size) (hb : base <= W.heap.size) (xs : List Int) (hl : xs.length <= 1000000) : (Kd.int κ).R e (W.alloc (.cells (xs.map (Value.int κ)).toArray e)) base ok (.slice (some ⟨W.heap.size,0,none⟩) xs.length xs.length) xs:=by
 refine Kd.R_of_own (h1:=λ _=>rfl) ⟨by simp [encs],.inr ⟨W.heap.size,xs.length,_,rfl,hb,a0i W _,Nat.le_refl _,by unfold maxLen; omega,by simp,?_⟩⟩ (λ k hk=>by cases hk; exact hok)
 rw [Nat.mul_one,show (xs.map (Value.int κ)).toArray.toList = encs (Value.int κ) xs from rfl,List.take_of_length_le (by rw [a2W]; exact Nat.le_refl _)]
theorem c4H {a b : List Int} (ha : Bytes a) (hb : Bytes b) : ((strOfNums a).toList == (strOfNums b).toList) = decide (a = b):=by
 have e : ∀ l : List Int,(strOfNums l).toList = l.map (λ x=>UInt8.ofNat x.toNat):=by
  intro l; unfold strOfNums; simp
 rw [e a,e b]
 by_cases h : a = b
 · subst h; simp
 · rw [decide_eq_false h]
   simp only [beq_eq_false_iff_ne,ne_eq]
   intro he
   apply h
   have inj : ∀ (a b : List Int),Bytes a -> Bytes b -> a.map (λ x=>UInt8.ofNat x.toNat) = b.map (λ x=>UInt8.ofNat x.toNat) -> a = b:=by
    intro a
    induction a with
    | nil=>intro b _ _ h; cases b with
     | nil=>rfl
     | cons y b=>simp at h
    | cons x a ih=>
     intro b hxa hyb h
     cases b with
     | nil=>simp at h
     | cons y b=>
      rw [List.map_cons,List.map_cons,List.cons.injEq] at h
      have hx:=hxa x (by simp)
      have hy:=hyb y (by simp)
      have h1:=congrArg UInt8.toNat h.1
      simp only [UInt8.toNat_ofNat'] at h1
      have : x = y:=by omega
      rw [this,ih b (λ z hz=>hxa z (by simp [hz])) (λ z hz=>hyb z (by simp [hz])) h.2]
   exact inj a b ha hb he
set_option maxRecDepth 100000 in
theorem b5f (A B : Option Addr) (ca cb : Nat) (a b : List Int) (w : World) (ha : (Kd.int .u8).C w A a.length a) (hb : (Kd.int .u8).C w B b.length b) (hya : Bytes a) (hyb : Bytes b) :
    Calls Tryz.prog 26 #[.slice A a.length ca,.slice B b.length cb] w λ e w'=>e = .returned (.bool (decide (a = b))) /\ w = w':=by
 have h1:=Kd.C_string (P:=Tryz.prog) (c:=ca) Tryz.underlying22 Tryz.underlying5 Tryz.underlying9 ha
 have h2:=Kd.C_string (P:=Tryz.prog) (c:=cb) Tryz.underlying22 Tryz.underlying5 Tryz.underlying9 hb
 rw [<- c4H hya hyb]
 obtain ⟨x,hx⟩ : ∃ x,x = strOfNums a:=⟨_,rfl⟩
 obtain ⟨y,hy⟩ : ∃ y,y = strOfNums b:=⟨_,rfl⟩
 rw [<- hx] at h1 ⊢
 rw [<- hy] at h2 ⊢
 clear hx hy ha hb hya hyb
 go_enter Tryz.func26,Tryz.ntmps26
 go_wp2_with fail
 go_ret
 exact ⟨rfl,rfl⟩
theorem a9G (A B : Option Addr) (ca cb : Nat) (p : List Int) (w : World) (ha : (Kd.int .u8).C w A p.length p) (hb : (Kd.int .u8).C w B p.length p) (hp : Bytes p) : Calls Tryz.prog 26 #[.slice A p.length ca,.slice B p.length cb] w (λ e w'=>e = .returned (.bool true) /\ w = w'):=by
 have:=b5f A B ca cb p p w ha hb hp hp
 rw [decide_eq_true rfl] at this; exact this
theorem b5g {one : Bool} {qs : List (List Int)} {ps : List Int} : ∀ (n i : Nat) (la x0 x1 : Int) (left : Nat) (out : List Int),(decGo one qs ps n i la x0 x1 left out).1 ≠ 0 -> (decGo one qs ps n i la x0 x1 left out).2 = []
 | 0,i,la,x0,x1,left,out=>by
  simp only [decGo]; split
  · intro h; exact absurd rfl h
  · intro _; rfl
 | n + 1,i,la,x0,x1,left,out=>by
  simp only [decGo]; split
  · intro _; rfl
  · split
    · intro _; rfl
    · exact b5g n (i + 1) _ _ _ _ _
theorem a9H {lg : Int} {one : Bool} {qs : List (List Int)} {ps : List Int} {n : Int} (h : (decM lg one qs ps n).1 ≠ 0) : (decM lg one qs ps n).2 = []:=by
 revert h
 unfold decM
 split
 · intro _; rfl
 · split
   · intro _; rfl
   · split
     · intro _; rfl
     · exact b5g _ _ _ _ _ _ _
structure MAt (mb : Nat) (lg : Int) (one : Bool) (A : Option Addr) (c : Nat) (qs : List (List Int)) (w : World) : Prop where
 blk : w.heap[mb]? = some (.cells #[.int .i64 lg,.bool one,.slice A qs.length c] 26 (0,0))
 row : kq.C w A qs.length qs
theorem MAt.later {mb : Nat} {lg : Int} {one : Bool} {A : Option Addr} {c : Nat} {qs : List (List Int)} {w w' : World} (h : MAt mb lg one A c qs w) (hb : Below w.heap.size w w') : MAt mb lg one A c qs w':=⟨a0h h.blk hb,Kd.C_below h.row hb⟩
theorem MAt.new {lg : Int} {one : Bool} {A : Option Addr} {c : Nat} {qs : List (List Int)} {w w0 : World} (h : kq.R 84 w w0.heap.size (λ _=>True) (.slice A qs.length c) qs) : MAt w.heap.size lg one A c qs (w.alloc (.cells #[.int .i64 lg,.bool one,.slice A qs.length c] 26)):=
 ⟨a0i _ _,Kd.C_alloc (Kd.R_reads' h).2.2 _⟩
set_option maxRecDepth 100000 in
set_option maxHeartbeats 2000000 in
theorem c4I (lg : Int) (one : Bool) (A : Option Addr) (c : Nat) (qs : List (List Int)) (w : World) (hr : kq.C w A qs.length qs) (h : a0z lg one qs = true) (h1 : one = true -> 0 < (qs.getD 0 []).length) :
    Calls Tryz.prog 121 #[.agg #[.int .i64 lg,.bool one,.slice A qs.length c]] w (Ret (.bool true) w):=by
 obtain ⟨W1,hW1⟩ : ∃ W1,W1 = w.alloc (.cells #[.int .i64 lg,.bool one,.slice A qs.length c] 26):=⟨_,rfl⟩
 have HB:=Lib.hid ((Below.refl w.heap.size w).alloc (Nat.le_refl _) (.cells #[.int .i64 lg,.bool one,.slice A qs.length c] 26))
 have hk1 : W1.heap[w.heap.size]? = some (.cells #[.int .i64 lg,.bool one,.slice A qs.length c] 26 (0,0)):=by rw [hW1]; exact a0i _ _
 have HR : Hid (kq.C W1 A qs.length qs):=Lib.hid (by rw [hW1]; exact Kd.C_alloc hr _)
 rw [<- hW1] at HB
 obtain ⟨l1,l2,l3,l4⟩:=a1P h
 have HL:=Lib.hid (And.intro h1 (And.intro l3 l4))
 have HK:=Lib.hid hk1
 have hn : Hid (qs.length <= 256):=Lib.hid (by rw [l3]; split <;> omega)
 have d1 : decide (lg < 1) = false:=decide_eq_false (by omega)
 have d2 : decide (12 < lg) = false:=decide_eq_false (by omega)
 have hd0 : (one = true /\ qs.length = 1) \/ (one = false /\ qs.length = 256):=by cases one <;> simp_all
 obtain ⟨⟨m0,m1,m2⟩,_⟩:=cell3 hk1
 clear hr h h1 l1 l2 l3 l4 hk1
 obtain ⟨n,hnn⟩ : ∃ n,n = qs.length:=⟨_,rfl⟩
 rw [<- hnn] at hd0 hn m2 HR HK ⊢
 rw [show (Obj.cells #[.int .i64 lg,.bool one,.slice A qs.length c] 26) = Obj.cells #[.int .i64 lg,.bool one,.slice A n c] 26 by rw [hnn]] at hW1
 have HN:=Lib.hid hnn
 clear hnn
 have hcut : ∀ (o : Bool) (q1 q2 : Bool),True:=λ _ _ _=>trivial
 have HF : one = true -> ∀ i,i < n -> (qs.getD i []).length ≠ 0:=λ e i hi=>by
  rcases hd0 with ⟨_,e2⟩ | ⟨e1,_⟩
  · have:=HL.out.1 e
    rw [show i = 0 by omega]; omega
  · rw [e] at e1; cases e1
 have HF':=Lib.hid HF
 clear HF
 have d3 : one = true -> ((n : Int) != 1) = false:=λ e=>by rcases hd0 with ⟨_,e2⟩ | ⟨e1,_⟩ <;> simp_all
 have d4 : one = false -> ((n : Int) != 256) = false:=λ e=>by rcases hd0 with ⟨e1,_⟩ | ⟨_,e2⟩ <;> simp_all
 have main : ∀ o : Bool,one = o -> Calls Tryz.prog 121 #[.agg #[.int .i64 lg,.bool one,.slice A n c]] w (Ret (.bool true) w):=by
  intro o ho
  subst ho
  cases one
  all_goals
   first | have d5:=d3 rfl | have d5:=d4 rfl
   clear d3 d4 hd0 hcut
   go_enter Tryz.func121,Tryz.ntmps121
   go_wp2_with fail
   rw [<- hW1]
   clear hW1 m0 m1 m2
   go_loopw [3] (λ kv wr=>∃ (i : Nat),kv = .int .i64 i /\ i <= n /\ Hid (Below W1.heap.size W1 wr)) (λ kv _=>n - (intOf kv).toNat)
   case atStart=>exact ⟨0,rfl,by omega,Lib.hid (Below.refl _ _)⟩
   case round=>
    obtain ⟨i,rfl,hi,H⟩:=hrel
    obtain ⟨⟨m0,m1,m2⟩,_⟩:=cell3 (a0h HK.out H.out)
    have hn256:=hn.out
    by_cases hlt : i < n
    · obtain ⟨ad,B,cb,rfl,hcell,hcb,hq⟩:=kq_at (Kd.C_below HR.out H.out) i hlt
      have hqs : i < qs.length:=by rw [<- HN.out]; exact hlt
      have HQL : Hid ((qs.getD i []).length ≠ 0 -> (logC (qs.getD i []) : Int) = lg):=Lib.hid (λ e=>(HL.out.2.2 _ (by rw [List.getD_eq_getElem?_getD,List.getElem?_eq_getElem hqs]; exact List.getElem_mem hqs) e).2)
      have HFi:=λ e=>HF'.out e i hlt
      obtain ⟨q,hqq⟩ : ∃ q,q = qs.getD i []:=⟨_,rfl⟩
      rw [<- hqq] at hcell hcb hq HQL HFi
      clear hqq hqs
      have HQ:=Lib.hid (And.intro hcb hq)
      have hiI : (i : Int) < (n : Int):=by omega
      by_cases h0 : q.length = 0
      · first
          | exact absurd h0 (HFi (by first | exact True.intro | rfl))
          | (have d6 : ((q.length : Int) == 0) = true:=by rw [h0]; rfl
             clear h0 hlt hcb hq HFi
             go_wp2_with fail
             go_roundw
             case rel=>exact ⟨i + 1,by go_num,by omega,H⟩
             case measure=>simp [intOf]; omega)
      · have d6 : ((q.length : Int) == 0) = false:=by simp; intro e; subst e; simp at h0
        have d7 : ((logC q : Int) != lg) = false:=by simp; exact HQL.out h0
        clear h0 hcb hq HFi
        go_wp2_with fail
        go_region_held3 (λ w'=>w'.cell? (ad.add i) = some (.slice B q.length cb) /\ w'.cell? ⟨w.heap.size,0,none⟩ = some (.int .i64 lg) /\ w'.cell? ⟨w.heap.size,2,none⟩ = some (.slice (some ad) n c)) ((repeat' apply And.intro) <;> first | assumption)
         (first | (go_at_call 172; refine (c4g B cb q _ (Kd.C_below HQ.out.2 (by first | exact (Below.refl _ _).drew | exact Below.refl _ _)) HQ.out.1).mono ?_; rintro e w2 ⟨rfl,hb2⟩; have k0:=a0s (w:=wr) ⟨hb2.os,hb2.tape,hb2.output,hb2.size,hb2.block⟩ hcell; have k1:=a0s (w:=wr) ⟨hb2.os,hb2.tape,hb2.output,hb2.size,hb2.block⟩ m0; have k2:=a0s (w:=wr) ⟨hb2.os,hb2.tape,hb2.output,hb2.size,hb2.block⟩ m2; have HV2:=Lib.hid (show Below wr.heap.size wr w2 from ⟨hb2.os,hb2.tape,hb2.output,hb2.size,hb2.block⟩); clear hb2))
        all_goals
         go_wp2_with fail
         go_roundw
         case rel=>exact ⟨i + 1,by go_num,by omega,Lib.hid (a0g H.out HV2.out)⟩
         case measure=>simp [intOf]; omega
    · obtain rfl : i = n:=by omega
      go_wp2_with fail
      go_ret
      exact ⟨rfl,a0g HB.out H.out⟩
 exact main one rfl
def a9I (q : List Int) (w : World) (e : Ending) (w' : World) : Prop:=∃ (B : Option Addr) (cb : Nat),e = .returned (.slice B q.length cb) /\ q.length <= cb /\ (Kd.int .i64).C w' B q.length q /\ Below w.heap.size w w'
set_option maxRecDepth 100000 in
set_option maxHeartbeats 1000000 in
theorem a9J (lg : Int) (one : Bool) (A : Option Addr) (c : Nat) (qs : List (List Int)) (x : Nat) (w : World) (hr : kq.C w A qs.length qs) (h : a0z lg one qs = true) (h1 : one = true -> 0 < (qs.getD 0 []).length) (hx : x < 256) :
    Calls Tryz.prog 125 #[.agg #[.int .i64 lg,.bool one,.slice A qs.length c],.int .i64 x] w (a9I (qs.getD (listI one x) []) w):=by
 obtain ⟨W1,hW1⟩ : ∃ W1,W1 = w.alloc (.cells #[.int .i64 lg,.bool one,.slice A qs.length c] 26):=⟨_,rfl⟩
 have HB:=Lib.hid ((Below.refl w.heap.size w).alloc (Nat.le_refl _) (.cells #[.int .i64 lg,.bool one,.slice A qs.length c] 26))
 have hk1 : W1.heap[w.heap.size]? = some (.cells #[.int .i64 lg,.bool one,.slice A qs.length c] 26 (0,0)):=by rw [hW1]; exact a0i _ _
 have HR : Hid (kq.C W1 A qs.length qs):=Lib.hid (by rw [hW1]; exact Kd.C_alloc hr _)
 rw [<- hW1] at HB
 have hlen:=(a1P h).2.2.1
 have hi : listI one x < qs.length:=by rw [hlen]; unfold listI; cases one <;> simp <;> omega
 have HX:=Lib.hid (c4I lg one A c qs W1 HR.out h h1)
 have HK:=Lib.hid hk1
 have d1 : decide ((x : Int) < 0) = false:=decide_eq_false (by omega)
 have d2 : decide (255 < (x : Int)) = false:=decide_eq_false (by omega)
 obtain ⟨⟨m0,m1,m2⟩,_⟩:=cell3 hk1
 have HI:=Lib.hid hi
 obtain ⟨q,hqq⟩ : ∃ q,q = qs.getD (listI one x) []:=⟨_,rfl⟩
 rw [<- hqq]
 have HQQ:=Lib.hid hqq
 clear hr h h1 hk1 hlen hi hqq
 go_enter Tryz.func125,Tryz.ntmps125
 go_wp2_with fail
 rw [<- hW1]
 go_wp2_with fail
 refine HX.out.mono ?_
 rintro e w2 ⟨rfl,hb2⟩
 obtain ⟨⟨n0,n1,n2⟩,_⟩:=cell3 (a0h HK.out hb2)
 obtain ⟨ad,B,cb,rfl,hcell,hcb,hq⟩:=kq_at (Kd.C_below HR.out hb2) _ HI.out
 have HB2:=Lib.hid (a0g HB.out hb2)
 rw [<- HQQ.out] at hcell hcb hq
 have HQ:=Lib.hid (And.intro hcb hq)
 clear hb2 hcb hq hW1 m0 m1 m2
 cases one
 · have e1 : listI false x = x:=rfl
   rw [e1] at hcell HI
   have hiI : (x : Int) < (qs.length : Int):=by have:=HI.out; omega
   clear e1
   go_wp2_with fail
   go_ret
   exact ⟨B,cb,rfl,HQ.out.1,HQ.out.2,HB2.out⟩
 · have e1 : listI true x = 0:=rfl
   rw [e1] at hcell HI
   have hiI : (0 : Int) < (qs.length : Int):=by have:=HI.out; omega
   have hcell0 : w2.cell? ad = some (.slice B q.length cb):=hcell
   clear e1
   go_wp2_with fail
   go_ret
   exact ⟨B,cb,rfl,HQ.out.1,HQ.out.2,HB2.out⟩
open Go.Proofs.YtflfjpkmjnnodaaGreat.PRef Go.Proofs.YtflfjpkmjnnodaaGreatW.PrintLast Go.Proofs.YtflfjpkmjnnodaaGreatW.PrintMore
theorem a9K {lg : Int} {one : Bool} {qs : List (List Int)} (h : a0z lg one qs = true) : one = true -> 0 < (qs.getD 0 []).length:=by
 intro e
 subst e
 unfold a0z at h
 split at h
 · cases h
 · split at h
   · cases h
   · simp only [if_true,decide_eq_true_eq] at h; exact h.2
def MadeB (xs : List Bool) (w : World) (e : Ending) (w' : World) : Prop:=∃ v,e = .returned v /\ Kd.bool.R 4 w' w.heap.size (λ _=>True) v xs /\ Below w.heap.size w w'
def MadeU (xs : List Int) (w : World) (e : Ending) (w' : World) : Prop:=∃ v,e = .returned v /\ (Kd.int .u8).R 5 w' w.heap.size (λ _=>True) v xs /\ Below w.heap.size w w'
end Go.Proofs.YtflfjpkmjnnodaaGreat
namespace Go.Proofs.YtflfjpkmjnnodaaGreat
open Go.RowKit Go.IntWalk Go.Proofs.YtflfjpkmjnnodaaGreatW.PrintWords
set_option maxRecDepth 100000 in
theorem b5n (n : Nat) (w : World) (hn : n <= 4096) : Calls Tryz.prog 163 #[.int .i64 n] w (λ e w'=>e = .returned (.int .i64 (Lib.bitLen n : Nat)) /\ w = w'):=by
 go_enter Tryz.func163,Tryz.ntmps163
 go_wp2_with fail
 go_loop [0,3] (λ nv kv=>∃ m k : Nat,nv = .int .i64 m /\ kv = .int .i64 k /\ m <= 4096 /\ k <= 64 /\ k + Lib.bitLen m = Lib.bitLen n) (λ nv _=>(intOf nv).toNat)
 case atStart=>exact ⟨n,0,rfl,rfl,hn,by omega,by omega⟩
 case round=>
  obtain ⟨m,k,rfl,rfl,hm,hk,hs⟩:=hrel
  have HS:=Lib.hid hs
  have hb:=Lib.bitLen_le n 13 (by decide) (show n < 2 ^ 13 from by omega)
  clear hs
  by_cases h0 : m = 0
  · subst h0
    have HE : Hid (k = Lib.bitLen n):=Lib.hid (by have:=HS.out; have e : Lib.bitLen 0 = 0:=by decide
                                                  omega)
    clear HS hb
    go_wp2_with fail
    go_ret
    exact ⟨by rw [<- HE.out]; rfl,rfl⟩
  · have hh:=Lib.bitLen_half m h0 (by omega)
    have hmI : (0 : Int) < (m : Int):=by omega
    obtain ⟨m2,hm2⟩ : ∃ m2,m2 = m / 2:=⟨_,rfl⟩
    have hmd : (m : Int) / 2 = (m2 : Int):=by omega
    have hmt : (m : Int).tdiv 2 = (m2 : Int):=by rw [Int.tdiv_eq_ediv_of_nonneg (by omega)]; exact hmd
    rw [<- hm2] at hh
    have HX:=Lib.hid (And.intro hh (And.intro hm2 hb))
    have hk63 : k <= 63:=by have:=HS.out; omega
    clear h0 hh hm2 hb hk
    go_wp2_with fail
    go_round
    case rel=>exact ⟨m2,k + 1,rfl,by go_num,by have:=HX.out; omega,by omega,by have:=HX.out; have:=HS.out; omega⟩
    case measure=>have:=HX.out; simp [intOf]; omega
open Go.Proofs.YtflfjpkmjnnodaaGreat.PRef
theorem MadeB.out {xs : List Bool} {w : World} {e : Ending} {w' : World} (h : MadeB xs w e w') : ∃ A c,e = .returned (.slice A xs.length c) /\ Kd.bool.C w' A xs.length xs /\ xs.length <= c /\ Below w.heap.size w w':=by
 obtain ⟨v,rfl,hv,hb⟩:=h
 obtain ⟨A,c,rfl⟩:=Kd.R_slice hv
 obtain ⟨_,hc,hC⟩:=Kd.R_reads' hv
 exact ⟨A,c,rfl,hC,hc,hb⟩
end Go.Proofs.YtflfjpkmjnnodaaGreat
namespace Go.Proofs.YtflfjpkmjnnodaaGreat
open Go.RowKit
def dirB (l : List Int) : List Bool:=(List.range 256).map (λ (c : Nat)=>decide ((c : Int) ∈ l))
def dirL (l : List Int) : List Int:=packB (dirB l)
theorem a3J (l : List Int) : (dirB l).length = 256:=by simp [dirB]
theorem a4n (l : List Int) : (dirL l).length = 32:=by unfold dirL; rw [a0D,a3J]
def onesN (ps : List Int) (k : Nat) : List Int:=((List.range k).filter (λ (c : Nat)=>decide (bitI ps c = 1))).map (λ (c : Nat)=>(c : Int))
theorem a4o (ps : List Int) (k : Nat) : onesN ps (k + 1) = if bitI ps k = 1 then onesN ps k ++ [(k : Int)] else onesN ps k:=by
 unfold onesN; rw [List.range_succ,List.filter_append,List.map_append]
 by_cases h : bitI ps k = 1
 · rw [if_pos h]; congr 1; simp only [List.filter_cons,List.filter_nil,h,decide_true]; rfl
 · rw [if_neg h]; simp only [List.filter_cons,List.filter_nil,h,decide_false]; simp
theorem a7G (ps : List Int) (k : Nat) : (onesN ps k).length <= k:=by
 unfold onesN; rw [List.length_map]; exact Nat.le_trans (List.length_filter_le _ _) (by simp)
theorem a7H {ps : List Int} {k : Nat} {x : Int} (h : x ∈ onesN ps k) : ∃ c : Nat,x = c /\ c < k /\ bitI ps c = 1:=by
 unfold onesN at h
 obtain ⟨c,hc,rfl⟩:=List.mem_map.1 h
 obtain ⟨h1,h2⟩:=List.mem_filter.1 hc
 exact ⟨c,rfl,List.mem_range.1 h1,of_decide_eq_true h2⟩
def dirT (ps : List Int) : Int × List Int:=if ps.length < 32 then (3,[]) else if (onesN ps 256).getD 0 1 ≠ 0 then (13,[]) else (0,onesN ps 256)
def hdrsB (r : Nat) (qs : List (List Int)) : List Int -> List Bool
 | []=>[]
 | c :: l=>hdrB (qs.getD c.toNat []) 257 0 (2 ^ r) ++ hdrsB r qs l
def hdrsT (ps : List Int) (r : Nat) : List Int -> List (List Int) -> Nat -> Int × List (List Int) × Nat
 | [],qs,at_=>(0,qs,at_)
 | c :: l,qs,at_=>if (hdrT ps (8 * ps.length) 257 zeros256 0 (2 ^ r) false at_).1 ≠ 0 then ((hdrT ps (8 * ps.length) 257 zeros256 0 (2 ^ r) false at_).1,qs,at_) else
  hdrsT ps r l (qs.set c.toNat (hdrT ps (8 * ps.length) 257 zeros256 0 (2 ^ r) false at_).2.1) (hdrT ps (8 * ps.length) 257 zeros256 0 (2 ^ r) false at_).2.2
def a2j : List (List Int):=List.replicate 256 []
def a0w (ps : List Int) : Int × Nat × List (List Int) × List Int:=
 if ps.length = 0 then (3,0,[],[]) else if (ps.getD 0 0).toNat < 5 \/ 9 < (ps.getD 0 0).toNat then (13,0,[],[]) else
 if (dirT (ps.drop 1)).1 ≠ 0 then ((dirT (ps.drop 1)).1,0,[],[]) else
 if (hdrsT (ps.drop 33) (ps.getD 0 0).toNat (dirT (ps.drop 1)).2 a2j 0).1 ≠ 0 then ((hdrsT (ps.drop 33) (ps.getD 0 0).toNat (dirT (ps.drop 1)).2 a2j 0).1,0,[],[]) else
 if (hdrsT (ps.drop 33) (ps.getD 0 0).toNat (dirT (ps.drop 1)).2 a2j 0).2.2 % 8 ≠ 0 /\ ((ps.drop 33).getD ((hdrsT (ps.drop 33) (ps.getD 0 0).toNat (dirT (ps.drop 1)).2 a2j 0).2.2 / 8) 0).toNat / 2 ^ ((hdrsT (ps.drop 33) (ps.getD 0 0).toNat (dirT (ps.drop 1)).2 a2j 0).2.2 % 8) ≠ 0 then (4,0,[],[]) else
 (0,(ps.getD 0 0).toNat,(hdrsT (ps.drop 33) (ps.getD 0 0).toNat (dirT (ps.drop 1)).2 a2j 0).2.1,(ps.drop 33).drop (((hdrsT (ps.drop 33) (ps.getD 0 0).toNat (dirT (ps.drop 1)).2 a2j 0).2.2 + 7) / 8))
def a1w (b : List Int) : List Int:=[(a0v b : Int)] ++ dirL (presN b 256) ++ packB (hdrsB (a0v b) (a0G b) (presN b 256)) ++ packB (a0T (a0v b : Nat) false (a0G b) b ++ [true])
theorem a9P (b : List Int) (c : Nat) (hc : c < 256) : (c : Int) ∈ presN b 256 ↔ 0 < (a0r b (c : Int)).length:=by
 unfold presN
 constructor
 · intro h
   obtain ⟨d,hd,e⟩:=List.mem_map.1 h
   obtain ⟨_,h2⟩:=List.mem_filter.1 hd
   have : d = c:=by omega
   subst this; exact of_decide_eq_true h2
 · intro h
   exact List.mem_map.2 ⟨c,List.mem_filter.2 ⟨List.mem_range.2 hc,by simpa using h⟩,rfl⟩
theorem c5r (l p : List Int) : ∀ k,k <= 256 -> onesN (dirL l ++ p) k = ((List.range k).filter (λ (c : Nat)=>decide ((c : Int) ∈ l))).map (λ (c : Nat)=>(c : Int)):=by
 intro k hk
 unfold onesN
 congr 1
 refine List.filter_congr (λ c hc=>?_)
 have hc':=List.mem_range.1 hc
 have h1:=a9N (dirB l) p c (by rw [a3J]; omega)
 rw [Nat.zero_add] at h1
 have h1' : bitI (dirL l ++ p) c = ((dirB l).getD c false).toNat:=h1
 rw [h1']
 have h2 : (dirB l).getD c false = decide ((c : Int) ∈ l):=by
  rw [List.getD_eq_getElem?_getD,List.getElem?_eq_getElem (by rw [a3J]; omega),Option.getD_some]
  simp [dirB]
 rw [h2]
 by_cases h : (c : Int) ∈ l
 · rw [decide_eq_true h]; rfl
 · rw [decide_eq_false h]; rfl
theorem b5o {b : List Int} (h0 : 0 < b.length) : (presN b 256).getD 0 1 = 0:=by
 have h1 : (0 : Int) ∈ presN b 256:=(a9P b 0 (by omega)).2 (by
  refine List.length_pos_iff_exists_mem.2 ⟨b.getD 0 0,?_⟩
  unfold a0r pkL
  exact List.mem_map.2 ⟨0,List.mem_filter.2 ⟨List.mem_range.2 h0,decide_eq_true (a5z b h0)⟩,rfl⟩)
 have h2 : presN b 256 = ((List.range 256).filter (λ (c : Nat)=>decide (0 < (a0r b (c : Int)).length))).map (λ (c : Nat)=>(c : Int)):=rfl
 have h3 : 0 < (a0r b ((0 : Nat) : Int)).length:=(a9P b 0 (by omega)).1 h1
 have h4 : List.range 256 = 0 :: (List.range 255).map Nat.succ:=List.range_succ_eq_map
 rw [h2,h4,List.filter_cons,if_pos (by simpa using h3)]
 rfl
theorem c5s {b p : List Int} (h0 : 0 < b.length) : dirT (dirL (presN b 256) ++ p) = (0,presN b 256):=by
 have h1 : onesN (dirL (presN b 256) ++ p) 256 = presN b 256:=by
  rw [c5r _ _ _ (Nat.le_refl _)]
  have h2 : presN b 256 = ((List.range 256).filter (λ (c : Nat)=>decide (0 < (a0r b (c : Int)).length))).map (λ (c : Nat)=>(c : Int)):=rfl
  conv=>rhs; rw [h2]
  congr 1
  refine List.filter_congr (λ c hc=>?_)
  have:=a9P b c (List.mem_range.1 hc)
  by_cases h : 0 < (a0r b (c : Int)).length
  · rw [decide_eq_true h,decide_eq_true (this.2 h)]
  · rw [decide_eq_false h,decide_eq_false (λ x=>h (this.1 x))]
 unfold dirT
 rw [if_neg (by rw [List.length_append,a4n]; omega),h1,if_neg (λ h=>h (b5o h0))]
theorem a9Q {b : List Int} (hb : Bytes b) (hl : b.length <= 1000000) {c : Nat} (hc : c < 256) (h0 : 0 < (a0r b (c : Int)).length) : (a1p b c).length = 256 /\ (∀ x ∈ a1p b c,0 <= x) /\ (a1p b c).sum = 2 ^ a0v b:=by
 have h:=a4Q (a5E hb hl hc h0)
 unfold a1p; rw [if_pos h0]
 exact ⟨h.1.len,h.1.nonneg,h.2.1⟩
theorem c5t {ps q : List Int} {r at_ : Nat} (hr : r <= 12) (hq : q.length = 256) (hn : ∀ x ∈ q,0 <= x) (hs : q.sum = 2 ^ r) (hb : BitsAt ps at_ (hdrB q 257 0 (2 ^ r))) (hl : at_ + (hdrB q 257 0 (2 ^ r)).length <= 8 * ps.length) : hdrT ps (8 * ps.length) 257 zeros256 0 (2 ^ r) false at_ = (0,q,at_ + (hdrB q 257 0 (2 ^ r)).length):=by
 have hp12 : 2 ^ r <= 2 ^ 12:=Nat.pow_le_pow_right (by omega) hr
 have e2 : (2 : Int) ^ r = ((2 ^ r : Nat) : Int):=by simp
 refine b5h hq hn 257 0 (2 ^ r) at_ zeros256 false (by omega) (by omega) (by rw [List.drop_zero,hs,e2]) (by omega) (λ h=>by cases h) (by unfold zeros256; exact List.length_replicate) (λ k hk=>by omega) (λ k _=>?_) hb hl
 unfold zeros256; rw [List.getD_eq_getElem?_getD,List.getElem?_replicate]; split <;> rfl
theorem c5u {b ps : List Int} (hb : Bytes b) (hl : b.length <= 1000000) : ∀ (d i at_ : Nat),i + d = (presN b 256).length -> BitsAt ps at_ (hdrsB (a0v b) (a0G b) ((presN b 256).drop i)) -> at_ + (hdrsB (a0v b) (a0G b) ((presN b 256).drop i)).length <= 8 * ps.length ->
    hdrsT ps (a0v b) ((presN b 256).drop i) (a3m b i) at_ = (0,a0G b,at_ + (hdrsB (a0v b) (a0G b) ((presN b 256).drop i)).length):=by
 intro d
 induction d with
 | zero=>
  intro i at_ hi _ _
  rw [List.drop_of_length_le (by omega),show i = (presN b 256).length by omega]
  simp only [hdrsT,hdrsB,List.length_nil,Nat.add_zero]
  rw [b5d]
 | succ d ih=>
  intro i at_ hi hB hL
  have hlt : i < (presN b 256).length:=by omega
  obtain ⟨c,hc,hc256,hpk⟩:=a7x b hlt
  have hr:=a2Q b
  have hd : (presN b 256).drop i = (c : Int) :: (presN b 256).drop (i + 1):=by rw [a4K _ _ hlt,hc]
  have hq : (a0G b).getD c [] = a1p b c:=a7u b hc256
  obtain ⟨n1,n2,n3⟩:=a9Q hb hl hc256 hpk
  rw [hd] at hB hL ⊢
  simp only [hdrsB,Int.toNat_natCast,hq] at hB hL ⊢
  rw [List.length_append] at hL ⊢
  have hh:=c5t (by omega) n1 n2 n3 hB.left (by omega)
  simp only [hdrsT,hh]
  rw [if_neg (λ h=>h rfl),Int.toNat_natCast,b5c b hlt hc]
  have:=ih (i + 1) (at_ + (hdrB (a1p b c) 257 0 (2 ^ a0v b)).length) (by omega) hB.right (by omega)
  rw [this,Nat.add_assoc]
theorem c5v {b : List Int} (hb : Bytes b) (hl : b.length <= 1000000) (h0 : 0 < b.length) : a0w (a1w b) = (0,a0v b,a0G b,packB (a0T (a0v b : Nat) false (a0G b) b ++ [true])):=by
 obtain ⟨p,hp⟩ : ∃ p,p = packB (a0T (a0v b : Nat) false (a0G b) b ++ [true]):=⟨_,rfl⟩
 obtain ⟨X,hX⟩ : ∃ X,X = hdrsB (a0v b) (a0G b) (presN b 256):=⟨_,rfl⟩
 have e1 : a1w b = (a0v b : Int) :: (dirL (presN b 256) ++ (packB X ++ p)):=by
  unfold a1w; rw [<- hp,<- hX]; simp
 have hr:=a2Q b
 have e2 : (a1w b).getD 0 0 = a0v b:=by rw [e1]; rfl
 have e3 : (a1w b).drop 1 = dirL (presN b 256) ++ (packB X ++ p):=by rw [e1]; rfl
 have e4 : (a1w b).drop 33 = packB X ++ p:=by
  rw [show 33 = 1 + 32 from rfl,<- List.drop_drop,e3,List.drop_append_of_le_length (by rw [a4n]; exact Nat.le_refl _),List.drop_of_length_le (by rw [a4n]; exact Nat.le_refl _),List.nil_append]
 have hh:=c5u (ps:=packB X ++ p) hb hl (presN b 256).length 0 0 (by omega) (by rw [List.drop_zero,<- hX]; exact a9N X p) (by rw [List.drop_zero,<- hX,List.length_append,a0D]; omega)
 rw [List.drop_zero,b5b,<- hX,Nat.zero_add] at hh
 unfold a0w
 rw [if_neg (by rw [e1]; simp),e2,Int.toNat_natCast,if_neg (by omega),e3,c5s h0,e4]
 dsimp only
 rw [if_neg (λ h=>h rfl)]
 unfold a2j
 rw [hh]
 dsimp only
 rw [if_neg (λ h=>h rfl),if_neg (λ h=>h.2 (b5l _ p h.1))]
 rw [List.drop_append_of_le_length (by rw [a0D]; exact Nat.le_refl _),List.drop_of_length_le (by rw [a0D]; exact Nat.le_refl _),List.nil_append,<- hp]
def dec1M (ps : List Int) (n : Int) : Int × List Int:=if (a0w ps).1 ≠ 0 then ((a0w ps).1,[]) else decM ((a0w ps).2.1 : Nat) false (a0w ps).2.2.1 (a0w ps).2.2.2 n
def putN (l : List Int) : Nat -> Nat
 | 0=>0
 | i + 1=>(l.getD i 0).toNat + 1
structure Asc (l : List Int) : Prop where
 first : l.getD 0 1 = 0
 asc : ∀ i,i + 1 < l.length -> l.getD i 0 < l.getD (i + 1) 0
 lo : ∀ x ∈ l,0 <= x
 hi : ∀ x ∈ l,x < 256
theorem Asc.pos {l : List Int} (h : Asc l) : 0 < l.length:=by
 rcases Nat.eq_zero_or_pos l.length with e | e
 · have:=h.first
   rw [List.eq_nil_of_length_eq_zero e] at this; cases this
 · exact e
theorem Asc.zero {l : List Int} (h : Asc l) : l.getD 0 0 = 0:=by
 have h1:=h.first
 have h2:=h.pos
 rw [List.getD_eq_getElem?_getD,List.getElem?_eq_getElem h2,Option.getD_some] at h1 ⊢
 exact h1
theorem Asc.lt {l : List Int} (h : Asc l) : ∀ (d i : Nat),i + d + 1 < l.length -> l.getD i 0 < l.getD (i + d + 1) 0:=by
 intro d
 induction d with
 | zero=>intro i hi; exact h.asc i hi
 | succ d ih=>
  intro i hi
  have h1:=ih i (by omega)
  have h2:=h.asc (i + d + 1) (by omega)
  rw [show i + (d + 1) + 1 = i + d + 1 + 1 by omega]
  omega
theorem Asc.lt' {l : List Int} (h : Asc l) {i j : Nat} (hij : i < j) (hj : j < l.length) : l.getD i 0 < l.getD j 0:=by
 have:=h.lt (j - i - 1) i (by omega)
 rwa [show i + (j - i - 1) + 1 = j by omega] at this
theorem Asc.get {l : List Int} (h : Asc l) {i : Nat} (hi : i < l.length) : ∃ c : Nat,l.getD i 0 = c /\ c < 256:=by
 have hm:=a1F hi
 have h1:=h.lo _ hm
 have h2:=h.hi _ hm
 exact ⟨(l.getD i 0).toNat,by omega,by omega⟩
theorem Asc.put_le {l : List Int} (h : Asc l) {i c : Nat} (hi : i < l.length) (hc : l.getD i 0 = c) : putN l i <= c:=by
 cases i with
 | zero=>exact Nat.zero_le _
 | succ i=>
  have h1:=h.asc i hi
  have h2:=h.lo _ (a1F (show i < l.length by omega))
  show (l.getD i 0).toNat + 1 <= c
  omega
theorem a9R {l : List Int} {x : Int} (h : x ∈ l) : ∃ j,j < l.length /\ l.getD j 0 = x:=by
 obtain ⟨j,hj,rfl⟩:=List.getElem_of_mem h
 exact ⟨j,hj,by rw [List.getD_eq_getElem?_getD,List.getElem?_eq_getElem hj,Option.getD_some]⟩
theorem a9S (l : List Int) {n : Nat} (hn : n < 256) : (dirB l).getD n false = decide ((n : Int) ∈ l):=by
 rw [List.getD_eq_getElem?_getD,List.getElem?_eq_getElem (by rw [a3J]; omega),Option.getD_some]
 simp [dirB]
theorem Asc.gap {l : List Int} (h : Asc l) {i n c : Nat} (hi : i < l.length) (hc : l.getD i 0 = c) (h1 : putN l i <= n) (h2 : n < c) : (n : Int) ∉ l:=by
 intro hm
 obtain ⟨j,hj,e⟩:=a9R hm
 rcases Nat.lt_trichotomy j i with hlt | heq | hgt
 · cases i with
   | zero=>omega
   | succ i=>
    have h3 : (l.getD i 0).toNat + 1 <= n:=h1
    by_cases hji : j = i
    · subst hji; omega
    · have:=h.lt' (show j < i by omega) (by omega); omega
 · subst heq; omega
 · have:=h.lt' hgt hj; omega
theorem Asc.behind {l : List Int} (h : Asc l) {n : Nat} (h1 : putN l l.length <= n) : (n : Int) ∉ l:=by
 intro hm
 obtain ⟨j,hj,e⟩:=a9R hm
 obtain ⟨m,hm2⟩ : ∃ m,l.length = m + 1:=⟨l.length - 1,by omega⟩
 rw [hm2] at h1
 have h3 : (l.getD m 0).toNat + 1 <= n:=h1
 by_cases hjm : j = m
 · subst hjm; omega
 · have:=h.lt' (show j < m by omega) (by omega); omega
theorem c5w {l : List Int} (h : Asc l) {i n c : Nat} (hi : i < l.length) (hc : l.getD i 0 = c) (hc2 : c < 256) (h1 : putN l i <= n) (h2 : n < c) : (dirB l).take (n + 1) = (dirB l).take n ++ [false]:=by
 have hl:=a3J l
 rw [List.take_succ_eq_append_getElem (by omega)]
 congr 2
 have h3:=a9S l (n:=n) (by omega)
 rw [decide_eq_false (h.gap hi hc h1 h2),List.getD_eq_getElem?_getD,List.getElem?_eq_getElem (by omega),Option.getD_some] at h3
 exact h3
theorem c5x {l : List Int} {i c : Nat} (hi : i < l.length) (hc : l.getD i 0 = c) (hc2 : c < 256) : (dirB l).take (putN l (i + 1)) = (dirB l).take c ++ [true]:=by
 have hl:=a3J l
 have e : putN l (i + 1) = c + 1:=by show (l.getD i 0).toNat + 1 = _; omega
 rw [e,List.take_succ_eq_append_getElem (by omega)]
 congr 2
 have h3:=a9S l (n:=c) hc2
 rw [decide_eq_true (by rw [<- hc]; exact a1F hi),List.getD_eq_getElem?_getD,List.getElem?_eq_getElem (by omega),Option.getD_some] at h3
 exact h3
theorem c5y (bs : List Bool) (n : Nat) (hn : n <= bs.length) (h : ∀ k,n <= k -> bs.getD k false = false) : packB bs = packB (bs.take n) ++ List.replicate ((bs.length + 7) / 8 - (n + 7) / 8) 0:=by
 apply List.ext_getElem
 · rw [a0D,List.length_append,a0D,List.length_replicate,List.length_take]; omega
 · intro j h1 h2
   rw [a2p]
   rw [a0D] at h1
   have hb : ∀ (a b : List Bool),(∀ k,a.getD k false = b.getD k false) -> a.length <= b.length -> byteL a = byteL b:=by
    intro a b hab hle
    have e : b = a ++ List.replicate (b.length - a.length) false:=by
     apply List.ext_getElem
     · rw [List.length_append,List.length_replicate]; omega
     · intro k k1 k2
       have:=hab k
       rw [List.getD_eq_getElem?_getD,List.getD_eq_getElem?_getD,List.getElem?_eq_getElem k1,Option.getD_some] at this
       by_cases hk : k < a.length
       · rw [List.getElem?_eq_getElem hk,Option.getD_some] at this
         rw [List.getElem_append_left hk]; exact this.symm
       · rw [List.getElem?_eq_none (by omega)] at this
         rw [List.getElem_append_right (by omega),List.getElem_replicate]; exact this.symm
    have z : ∀ m,byteL (a ++ List.replicate m false) = byteL a:=by
     intro m
     induction m with
     | zero=>simp
     | succ m ih=>rw [List.replicate_succ',<- List.append_assoc,a3h,ih]; simp
    rw [e,z]
   by_cases hj : j < (packB (bs.take n)).length
   · rw [List.getElem_append_left hj,a2p]
     congr 1
     symm
     refine hb _ _ (λ k=>?_) ?_
     · simp only [List.getD_eq_getElem?_getD,List.getElem?_take,List.getElem?_drop]
       by_cases hk : k < 8
       · rw [if_pos hk,if_pos hk]
         by_cases hk2 : 8 * j + k < n
         · rw [if_pos hk2]
         · rw [if_neg hk2]
           have:=h (8 * j + k) (by omega)
           rw [List.getD_eq_getElem?_getD] at this
           rw [this]; rfl
       · rw [if_neg hk,if_neg hk]
     · simp only [List.length_take,List.length_drop]; omega
   · rw [List.getElem_append_right (by omega),List.getElem_replicate]
     rw [a0D,List.length_take,Nat.min_eq_left hn] at hj
     have : byteL ((bs.drop (8 * j)).take 8) = byteL []:=by
      symm
      refine hb _ _ (λ k=>?_) (by simp)
      simp only [List.getD_eq_getElem?_getD,List.getElem?_take,List.getElem?_drop,List.getElem?_nil]
      by_cases hk : k < 8
      · rw [if_pos hk]
        have:=h (8 * j + k) (by omega)
        rw [List.getD_eq_getElem?_getD] at this
        rw [this]; rfl
      · rw [if_neg hk]
     rw [this]; rfl
theorem c5z {l : List Int} (h : Asc l) : dirL l = packB ((dirB l).take (putN l l.length)) ++ List.replicate (32 - ((putN l l.length) + 7) / 8) 0:=by
 have hl:=a3J l
 have hn : putN l l.length <= 256:=by
  have hp:=h.pos
  obtain ⟨m,hm2⟩ : ∃ m,l.length = m + 1:=⟨l.length - 1,by omega⟩
  rw [hm2]
  show (l.getD m 0).toNat + 1 <= 256
  have:=h.hi _ (a1F (show m < l.length by omega)); omega
 have:=c5y (dirB l) (putN l l.length) (by omega) (λ k hk=>by
  by_cases hk2 : k < 256
  · rw [a9S l hk2,decide_eq_false (h.behind hk)]
  · rw [List.getD_eq_getElem?_getD,List.getElem?_eq_none (by omega)]; rfl)
 rw [hl] at this
 exact this
theorem c5A {b : List Int} (h0 : 0 < b.length) : Asc (presN b 256):=by
 refine ⟨b5o h0,λ i hi=>?_,λ x hx=>?_,λ x hx=>?_⟩
 · have hp : (presN b 256).Pairwise (· < ·):=by
     unfold presN
     rw [List.pairwise_map]
     refine List.Pairwise.filter _ (List.Pairwise.imp (λ h=>?_) List.pairwise_lt_range)
     omega
   have:=List.pairwise_iff_getElem.1 hp i (i + 1) (by omega) hi (by omega)
   rw [List.getD_eq_getElem?_getD,List.getElem?_eq_getElem (by omega),List.getD_eq_getElem?_getD,List.getElem?_eq_getElem hi]
   exact this
 · unfold presN at hx
   obtain ⟨c,_,rfl⟩:=List.mem_map.1 hx; omega
 · unfold presN at hx
   obtain ⟨c,hc,rfl⟩:=List.mem_map.1 hx
   have:=List.mem_range.1 (List.mem_filter.1 hc).1; omega
open Go.IntWalk Go.Proofs.YtflfjpkmjnnodaaGreatW.PrintWords
theorem a9T (w : World) : WrVal (w.alloc (.cells #[.slice none 0 0,.int .i64 0] 229)) w.heap.size w.heap.size (.slice none 0 0) []:=⟨a0i _ _,Kd.R_nil _ _ _ _ _⟩
theorem PutRel.bel {base p : Nat} {v0 : Value} {bs : List Bool} {w0 w w' : World} (h : PutRel base p v0 bs w w') (hb : Below w0.heap.size w0 w) (hp : w0.heap.size <= p) (hv : ∀ k,v0.ownBlock = some k -> w0.heap.size <= k) : Below w0.heap.size w0 w':=by
 obtain ⟨_,_,_,ho⟩:=h
 exact hb.trans (ho.below hb.size (λ k hk=>by
  rcases hk with hk | hk
  · exact hk ▸ hp
  · exact hv k hk))
theorem b5p : a0k 0 1 = [false]:=by decide
theorem b5q : a0k 1 1 = [true]:=by decide
theorem c5D {l : List Int} (h : Asc l) {i : Nat} (hi : i <= l.length) : putN l i <= 256:=by
 cases i with
 | zero=>exact Nat.zero_le _
 | succ i=>
  show (l.getD i 0).toNat + 1 <= 256
  have:=h.hi _ (a1F (show i < l.length by omega)); omega
theorem a7I {l : List Int} {n : Nat} (hn : n <= 256) : ((dirB l).take n).length = n:=by
 rw [List.length_take,a3J]; omega
def DRel (P : Nat) (l : List Int) (n : Nat) (W wr : World) : Prop:=PutRel P P (.slice none 0 0) ((dirB l).take n) W wr
theorem DRel.cell {P n : Nat} {l : List Int} {W wr : World} (h : DRel P l n W wr) (hn : n <= 256) : wr.cell? ⟨P,1,none⟩ = some (.int .i64 n):=by
 obtain ⟨v,h1,_⟩:=h
 have:=(a0a h1.blk 1).trans rfl
 rw [a7I hn] at this; exact this
theorem DRel.below {P n : Nat} {l : List Int} {w W wr : World} (h : DRel P l n W wr) (hb : Below w.heap.size w W) (hp : w.heap.size <= P) : Below w.heap.size w wr:=PutRel.bel h hb hp (λ k hk=>by simp [Value.ownBlock] at hk)
def c5E (l : List Int) (w : World) (e : Ending) (w' : World) : Prop:=∃ v,e = .returned (.tuple #[v,.bool true]) /\ (Kd.int .u8).R 5 w' w.heap.size (λ _=>True) v (dirL l) /\ Below w.heap.size w w'
set_option maxRecDepth 100000 in
set_option maxHeartbeats 4000000 in
theorem c5F (A : Option Addr) (cp : Nat) (l : List Int) (w : World) (hr : (Kd.int .i64).C w A l.length l) (hA : Asc l) (hl : l.length <= 256) :
    Calls Tryz.prog 151 #[.slice A l.length cp] w (c5E l w):=by
 obtain ⟨ad,rfl,hcs⟩:=a5o hr hA.pos
 have h00:=hcs 0 hA.pos
 rw [hA.zero,Addr.add_zero'] at h00
 obtain ⟨W,hW⟩ : ∃ W,W = w.alloc (.cells #[.slice none 0 0,.int .i64 0] 229):=⟨_,rfl⟩
 have hb1 : Below w.heap.size w W:=by rw [hW]; exact (Below.refl _ _).alloc (Nat.le_refl _) _
 have hw0 : WrVal W w.heap.size w.heap.size (.slice none 0 0) []:=by rw [hW]; exact a9T w
 obtain ⟨P,hP⟩ : ∃ P,P = w.heap.size:=⟨_,rfl⟩
 have HPW : Hid (P <= W.heap.size):=by rw [hP]; exact Lib.hid hb1.size
 rw [<- hP] at hw0
 have HP:=Lib.hid hP
 have HR:=Lib.hid (And.intro hr (And.intro hA hl))
 have HW0:=Lib.hid (And.intro hb1 hw0)
 have hne : ((l.length : Int) == 0) = false:=by have:=hA.pos; simp; intro e; subst e; simp at this
 have hpos : 0 < l.length:=hA.pos
 have hl256 : l.length <= 256:=hl
 have hne0 : ¬ l = []:=by intro e; subst e; simp at hpos
 clear hr hA hl hb1 hw0 hcs
 go_enter Tryz.func151,Tryz.ntmps151
 go_wp2_with fail
 refine (a6N _).mono ?_
 rw [<- hW,<- hP]
 clear hW hP h00
 rintro e w1 ⟨rfl,rfl⟩
 go_wp2_with fail
 go_loopw [19] (λ kv wr=>∃ i : Nat,i <= l.length /\ kv = .int .i64 i /\ Hid (DRel P l (putN l i) w1 wr)) (λ kv _=>l.length - (intOf kv).toNat)
 case atStart=>exact ⟨0,by omega,rfl,Lib.hid ⟨_,HW0.out.2,.inl rfl,Only.refl _ _⟩⟩
 case round=>
  obtain ⟨i,hi,rfl,H⟩:=hrel
  by_cases hlt : i < l.length
  · obtain ⟨c,hc,hc256⟩:=HR.out.2.1.get hlt
    have hB:=H.out.below HW0.out.1 (by have:=HP.out; omega)
    obtain ⟨ad2,hA2,hcx⟩:=a0y (Kd.C_below HR.out.1 hB) i hlt
    cases hA2
    rw [hc] at hcx
    have hgap : Hid ((¬ 0 < i /\ i = 0) \/ (0 < i /\ ∃ j c' : Nat,(i : Int) - 1 = (j : Int) /\ wr.cell? (ad.add j) = some (.int .i64 c') /\ c' < c /\ (j : Int) < (l.length : Int))):=by
     rcases Nat.eq_zero_or_pos i with h0 | h0
     · exact Lib.hid (.inl ⟨by omega,h0⟩)
     · obtain ⟨c',hc',_⟩:=HR.out.2.1.get (i:=i - 1) (by omega)
       obtain ⟨ad3,hA3,hcx'⟩:=a0y (Kd.C_below HR.out.1 hB) (i - 1) (by omega)
       cases hA3
       rw [hc'] at hcx'
       have h2:=HR.out.2.1.asc (i - 1) (by omega)
       rw [show i - 1 + 1 = i by omega] at h2
       exact Lib.hid (.inr ⟨h0,i - 1,c',by omega,hcx',by omega,by omega⟩)
    have hpl:=HR.out.2.1.put_le hlt hc
    have HC:=Lib.hid (And.intro hc (And.intro hc256 (And.intro hpl hlt)))
    have hc2 : c < 256:=hc256
    have HZ1:=Lib.hid (c5x (l:=l) hlt hc hc2)
    have HZ0 : Hid (∀ n,putN l i <= n -> n < c -> (dirB l).take (n + 1) = (dirB l).take n ++ [false]):=Lib.hid λ n g1 g2=>c5w HR.out.2.1 hlt hc hc2 g1 g2
    obtain ⟨i1,hi1⟩ : ∃ i1,i1 = i + 1:=⟨_,rfl⟩
    rw [<- hi1] at HZ1
    have HI : Hid (DRel P l (putN l i1) w1 wr -> i1 <= l.length /\ (i1 : Int) = (i : Int) + 1):=Lib.hid λ _=>⟨by omega,by omega⟩
    have HI1 : Hid (i1 <= l.length /\ (i1 : Int) = (i : Int) + 1):=Lib.hid ⟨by omega,by omega⟩
    obtain ⟨N0,hN0⟩ : ∃ N0,N0 = putN l i:=⟨_,rfl⟩
    rw [<- hN0] at H hpl HZ0
    have HPl:=Lib.hid hpl
    clear hc hc256 hB hpl hN0 hi1 HC HI
    have hd256 : decide ((256 : Int) <= (c : Int)) = false:=decide_eq_false (by omega)
    rcases hgap.out with ⟨hz,hz0⟩ | ⟨hz,j,c',hij,hcy,hcc,hjl⟩
    · subst hz0
      rw [Addr.add_zero'] at hcx
      rw [show ((0 : Nat) : Int) = 0 from rfl] at HI1 ⊢
      clear hz hgap
      go_wp2_with fail
      go_loopw [] (λ wr=>Hid (∃ n,N0 <= n /\ n <= c /\ DRel P l n w1 wr)) (λ wr=>c - (intOf ((wr.cell? ⟨P,1,none⟩).getD undef)).toNat)
      case atStart=>exact Lib.hid ⟨_,Nat.le_refl _,HPl.out,H.out⟩
      case round=>
       obtain ⟨n,hn1,hn2,hn3⟩:=hrel.out
       obtain ⟨v1,k1,k2,k3⟩:=hn3
       have hcell:=DRel.cell ⟨v1,k1,k2,k3⟩ (show n <= 256 by omega)
       have hlen:=a7I (l:=l) (show n <= 256 by omega)
       have HK:=Lib.hid (And.intro k1 (And.intro k2 k3))
       have HBs : Hid (P <= wr.heap.size):=Lib.hid (Nat.le_trans HPW.out k3.size)
       have HN:=Lib.hid (And.intro hn1 hn2)
       have HBt:=Lib.hid (b3C P P v1 _ wr k1)
       rw [hlen] at HBt
       have HLe : Hid (((dirB l).take n).length <= 900000):=Lib.hid (by omega)
       have HCell:=Lib.hid hcell
       clear k1 k2 k3 hn1 hlen hrel hcell
       go_wp2_with fail
       refine HBt.out.mono ?_
       rintro e w2 ⟨rfl,rfl⟩
       by_cases hnc : n < c
       · have hz2:=HZ0.out n HN.out.1 hnc
         have HZ2:=Lib.hid hz2
         clear hz2
         go_wp2_with fail
         refine (a2q P P v1 _ 0 1 wr HK.out.1 HBs.out HLe.out (by decide) (by decide)).mono ?_
         rintro e w3 ⟨rfl,hp⟩
         have HP3 : Hid (DRel P l (n + 1) w1 w3):=Lib.hid (by
          have:=PutRel.trans HK.out hp
          unfold DRel
          rw [HZ2.out,<- b5p]; exact this)
         clear hp
         go_wp2_with fail
         go_roundw
         case rel=>exact Lib.hid ⟨n + 1,by have:=HN.out.1; omega,by omega,HP3.out⟩
         case measure=>
          rw [HP3.out.cell (by omega),HCell.out]
          simp [intOf]; omega
       · obtain rfl : n = c:=by omega
         go_wp2_with fail
         refine (a2q P P v1 _ 1 1 wr HK.out.1 HBs.out HLe.out (by decide) (by decide)).mono ?_
         rintro e w3 ⟨rfl,hp⟩
         have HP3 : Hid (DRel P l (putN l i1) w1 w3):=Lib.hid (by
          have:=PutRel.trans HK.out hp
          unfold DRel
          rw [HZ1.out,<- b5q]; exact this)
         clear hp
         go_wp2_with fail
         go_roundw
         case rel=>exact ⟨i1,HI1.out.1,by first | (rw [HI1.out.2]; done) | (rw [HI1.out.2]; rfl) | (rw [HI1.out.2]; go_num),HP3.out⟩
         case measure=>first | (simp [intOf]; done) | (simp [intOf]; omega)
    · clear hgap
      have hcd : decide (c <= c') = false:=decide_eq_false (by omega)
      clear hcc
      go_wp2_with fail
      go_loopw [] (λ wr=>Hid (∃ n,N0 <= n /\ n <= c /\ DRel P l n w1 wr)) (λ wr=>c - (intOf ((wr.cell? ⟨P,1,none⟩).getD undef)).toNat)
      case atStart=>exact Lib.hid ⟨_,Nat.le_refl _,HPl.out,H.out⟩
      case round=>
       obtain ⟨n,hn1,hn2,hn3⟩:=hrel.out
       obtain ⟨v1,k1,k2,k3⟩:=hn3
       have hcell:=DRel.cell ⟨v1,k1,k2,k3⟩ (show n <= 256 by omega)
       have hlen:=a7I (l:=l) (show n <= 256 by omega)
       have HK:=Lib.hid (And.intro k1 (And.intro k2 k3))
       have HBs : Hid (P <= wr.heap.size):=Lib.hid (Nat.le_trans HPW.out k3.size)
       have HN:=Lib.hid (And.intro hn1 hn2)
       have HBt:=Lib.hid (b3C P P v1 _ wr k1)
       rw [hlen] at HBt
       have HLe : Hid (((dirB l).take n).length <= 900000):=Lib.hid (by omega)
       have HCell:=Lib.hid hcell
       clear k1 k2 k3 hn1 hlen hrel hcell
       go_wp2_with fail
       refine HBt.out.mono ?_
       rintro e w2 ⟨rfl,rfl⟩
       by_cases hnc : n < c
       · have hz2:=HZ0.out n HN.out.1 hnc
         have HZ2:=Lib.hid hz2
         clear hz2
         go_wp2_with fail
         refine (a2q P P v1 _ 0 1 wr HK.out.1 HBs.out HLe.out (by decide) (by decide)).mono ?_
         rintro e w3 ⟨rfl,hp⟩
         have HP3 : Hid (DRel P l (n + 1) w1 w3):=Lib.hid (by
          have:=PutRel.trans HK.out hp
          unfold DRel
          rw [HZ2.out,<- b5p]; exact this)
         clear hp
         go_wp2_with fail
         go_roundw
         case rel=>exact Lib.hid ⟨n + 1,by have:=HN.out.1; omega,by omega,HP3.out⟩
         case measure=>
          rw [HP3.out.cell (by omega),HCell.out]
          simp [intOf]; omega
       · obtain rfl : n = c:=by omega
         go_wp2_with fail
         refine (a2q P P v1 _ 1 1 wr HK.out.1 HBs.out HLe.out (by decide) (by decide)).mono ?_
         rintro e w3 ⟨rfl,hp⟩
         have HP3 : Hid (DRel P l (putN l i1) w1 w3):=Lib.hid (by
          have:=PutRel.trans HK.out hp
          unfold DRel
          rw [HZ1.out,<- b5q]; exact this)
         clear hp
         go_wp2_with fail
         go_roundw
         case rel=>exact ⟨i1,HI1.out.1,by first | (rw [HI1.out.2]; done) | (rw [HI1.out.2]; rfl) | (rw [HI1.out.2]; go_num),HP3.out⟩
         case measure=>first | (simp [intOf]; omega) | (simp [intOf]; done)
  · obtain rfl : i = l.length:=by omega
    have hB:=H.out.below HW0.out.1 (by have:=HP.out; omega)
    have hpn:=c5D HR.out.2.1 (Nat.le_refl l.length)
    obtain ⟨v1,k1,k2,k3⟩:=H.out
    have hE:=c5z HR.out.2.1
    obtain ⟨n,hn⟩ : ∃ n,n = putN l l.length:=⟨_,rfl⟩
    rw [<- hn] at k1 hE hpn
    have hlen:=a7I (l:=l) hpn
    obtain ⟨bs,hbs⟩ : ∃ bs,bs = (dirB l).take n:=⟨_,rfl⟩
    rw [<- hbs] at k1 hE hlen
    have HK:=Lib.hid k1
    have HE:=Lib.hid hE
    have HB:=Lib.hid hB
    have hbl : (packB bs).length = (n + 7) / 8:=by rw [a0D,hlen]
    have HL:=Lib.hid (And.intro hlen hbl)
    obtain ⟨pb,hpb⟩ : ∃ pb,pb = packB bs:=⟨_,rfl⟩
    obtain ⟨q,hq⟩ : ∃ q,q = (n + 7) / 8:=⟨_,rfl⟩
    have hq32 : q <= 32:=by omega
    rw [<- hpb,<- hq] at HE
    have hpq : pb.length = q:=by rw [hpb,hq]; exact hbl
    have HPQ:=Lib.hid (And.intro hpb hpq)
    clear k1 k2 k3 hE hB hn hlen hbs hbl hpb hq hpq
    go_wp2_with fail
    refine (a7D P P v1 bs wr HK.out (by have:=HL.out.1; omega)).mono ?_
    rintro e w2 ⟨u2,rfl,hu2,hb2⟩
    rw [<- HPQ.out.1] at hu2
    obtain ⟨A2,c2,rfl⟩:=Kd.R_slice hu2
    rw [HPQ.out.2] at hu2 ⊢
    have HK2 : Hid (WrVal w2 P P v1 bs):=Lib.hid ⟨a0h HK.out.blk hb2,Kd.R_below HK.out.row hb2⟩
    have HU2:=Lib.hid hu2
    have HB2:=Lib.hid (a0g HB.out hb2)
    clear hu2 hb2
    go_wp2_with fail
    refine (a7D P P v1 bs w2 HK2.out (by have:=HL.out.1; omega)).mono ?_
    rintro e w3 ⟨u3,rfl,hu3,hb3⟩
    rw [<- HPQ.out.1] at hu3
    obtain ⟨A3,c3,rfl⟩:=Kd.R_slice hu3
    rw [HPQ.out.2] at hu3 ⊢
    have HU3 : Hid ((Kd.int .u8).R 5 w3 w.heap.size (λ _=>True) (.slice A2 q c2) pb):=Lib.hid (Kd.R_lower (Kd.R_below HU2.out hb3) HB.out.size)
    have HB3:=Lib.hid (a0g HB2.out hb3)
    have HS3:=Lib.hid HB3.out.size
    have HLn : Hid ((pb.length + ((32 : Int) - (q : Int)).toNat) * 1 <= 140737488355328):=Lib.hid (by have:=HPQ.out.2; omega)
    have hge : (0 : Int) <= 32 - (q : Int):=by omega
    have HGe:=Lib.hid hge
    clear hu3 hb3
    go_wp2_with (at_builtin; refine Kd.R_append_zeros (Kd.int .u8) (w0:=w) (W:=w3) w.heap.size rfl (.tmp 49) (.tmp 53) 22 3 5 (.int .u8 0) 1 rfl Tryz.underlying22 (k:=.i64) Tryz.underlying3 a0H rfl (by decide) (by decide) (.slice A2 q c2) pb (0 : Int) (kx:=.i64) (32 - (q : Int)) (λ _=>True) rfl rfl rfl (λ _ _=>trivial) HU3.out HGe.out HB3.out HS3.out HLn.out ?_; intro v4 w4 hr4 hb4 hg4 hat4; have HA4:=Lib.hid (And.intro hr4 hb4); clear hr4 hb4 hg4 hat4)
    go_ret2
    refine ⟨v4,rfl,?_,HA4.out.2⟩
    rw [HE.out]
    have h9:=HA4.out.1
    rw [show ((32 : Int) - (q : Int)).toNat = 32 - q by omega] at h9
    exact h9
theorem c5M : Tryz.zeroCells256 = madeCells #[.int .i64 0] 256:=by kernel_rfl
theorem a7K (n : Nat) (e : TypeId) (W : World) (ok : Nat -> Prop) (hok : ok W.heap.size) (base : Nat) (hb : base <= W.heap.size) (hn : n <= 1000000) : (Kd.int .i64).R e (W.alloc (.cells (madeCells #[.int .i64 0] n) e)) base ok (.slice (some ⟨W.heap.size,0,none⟩) n n) (List.replicate n 0):=by
 have hr:=Kd.reps_made (R:=(Kd.int .i64).M (W.alloc (.cells (madeCells #[.int .i64 0] n) e)) base (λ k=>ok k /\ some k ≠ (Value.slice (some ⟨W.heap.size,0,none⟩) n n).ownBlock)) (z:=.int .i64 0) (size:=1) (z0:=(0 : Int)) rfl Nat.one_pos rfl n
 have e' : (Value.int .i64 0).cells = #[.int .i64 0]:=rfl
 rw [e',Nat.mul_one] at hr
 refine ⟨λ k hk=>by cases hk; exact hok,_,⟨?_,.inr ⟨W.heap.size,n,madeCells #[.int .i64 0] n,by simp,hb,a0i W _,by simp,by unfold maxLen; omega,?_,?_⟩⟩,hr⟩
 · simp [size_madeCells]; exact (Nat.mul_one n).symm
 · rw [size_madeCells]; exact (Nat.mul_one n).symm
 · rw [List.length_replicate]; exact List.take_of_length_le (by simp [size_madeCells]; exact Nat.le_of_eq (Nat.mul_one n).symm)
theorem c5N : histL [] = List.replicate 256 0:=by
 unfold histL mapR
 rw [List.map_congr_left (g:=λ _=>(0 : Int)) (λ _ _=>by simp),List.map_const',List.length_range]
theorem c5O (b : List Int) (k : Nat) (hk : k < b.length) {y : Nat} (hy : b.getD k 0 = y) (h : y < 256) : histL (b.take (k + 1)) = (histL (b.take k)).set y ((histL (b.take k)).getD y 0 + 1):=by
 rw [List.take_succ_eq_append_getElem hk]
 have e : b[k] = (y : Int):=by rw [<- hy,List.getD_eq_getElem?_getD,List.getElem?_eq_getElem hk]; rfl
 rw [e,b4D _ h,a5B _ h]
def c5P (b : List Int) (w : World) (e : Ending) (w' : World) : Prop:=∃ v,e = .returned v /\ (Kd.int .i64).R 3 w' w.heap.size (λ _=>True) v (histL b) /\ Below w.heap.size w w'
set_option maxRecDepth 100000 in
set_option maxHeartbeats 1000000 in
theorem b5t (A : Option Addr) (cp : Nat) (b : List Int) (w : World) (hr : (Kd.int .u8).C w A b.length b) (hl : b.length <= 1000000) (hb : ∀ x ∈ b,0 <= x /\ x < 256) :
    Calls Tryz.prog 195 #[.slice A b.length cp] w (c5P b w):=by
 have HR:=Lib.hid (And.intro hr (And.intro hl hb))
 have HI : Hid ((Kd.int .i64).R 256 (w.alloc (.cells Tryz.zeroCells256 256)) w.heap.size (λ _=>True) (.slice (some ⟨w.heap.size,0,none⟩) 256 256) (histL (b.take 0)) /\ Below w.heap.size w (w.alloc (.cells Tryz.zeroCells256 256))):=by
  rw [c5M,List.take_zero,c5N]
  exact ⟨a7K 256 _ w _ trivial _ (Nat.le_refl _) (by omega),(Below.refl _ _).alloc (Nat.le_refl _) _⟩
 clear hr hb
 go_enter Tryz.func195,Tryz.ntmps195
 go_wp2_with fail
 go_loopw [8] (λ kv wr=>∃ (k : Nat),kv = .int .i64 k /\ k <= b.length /\ Hid ((Kd.int .i64).R 256 wr w.heap.size (λ _=>True) (.slice (some ⟨w.heap.size,0,none⟩) 256 256) (histL (b.take k)) /\ Below w.heap.size w wr)) (λ kv _=>b.length - (intOf kv).toNat)
 case atStart=>exact ⟨0,rfl,by omega,HI⟩
 case round=>
  obtain ⟨k,rfl,hk,H⟩:=hrel
  by_cases hlt : k < b.length
  · obtain ⟨ad,rfl,hcell⟩:=a0y HR.out.1 k hlt
    have hcw:=a0s H.out.2 hcell
    obtain ⟨x,hx⟩ : ∃ x : Nat,b.getD k 0 = x:=by
     have : 0 <= b.getD k 0:=(HR.out.2.2 _ (a1Y hlt)).1
     exact ⟨(b.getD k 0).toNat,by omega⟩
    have hx2 : x < 256:=by have:=(HR.out.2.2 _ (a1Y hlt)).2; omega
    rw [hx] at hcw
    obtain ⟨hc3,hf3⟩:=a1D H.out.1 x hx2
    obtain ⟨y,hy⟩ : ∃ y,y = (histL (b.take k)).getD x 0:=⟨_,rfl⟩
    have hyr : 0 <= y /\ y <= 1000000:=by
     rw [hy,a5B _ hx2]
     have:=List.count_le_length (a:=(x : Int)) (l:=b.take k)
     rw [List.length_take] at this
     omega
    obtain ⟨hy0,hy1⟩:=hyr
    rw [<- hy] at hc3
    have HY:=Lib.hid (And.intro hy hx)
    have hx256 : (x : Int) < 256:=by omega
    clear hy hx hcell
    go_wp2_with fail
    go_roundw
    case rel=>
     refine ⟨k + 1,by go_num,by omega,?_,H.out.2.setCell (Nat.le_refl _) _⟩
     rw [c5O b k hlt HY.out.2 hx2,<- HY.out.1]
     have:=Kd.R_putn H.out.1 (x : Int) (y + 1)
     rw [Int.toNat_natCast] at this
     exact this
    case measure=>simp [intOf]; omega
  · obtain rfl : k = b.length:=by omega
    rw [List.take_length] at H
    have hrd:=Kd.R_reads' H.out.1
    have hcl : (histL b).length = 256:=a1E _
    have HE:=Lib.hid (a6L .i64 3 wr w.heap.size (λ _=>True) H.out.2.size trivial)
    have HC : Hid ((Kd.int .i64).C (wr.alloc (.cells #[] 3)) (some ⟨w.heap.size,0,none⟩) 256 (histL b)):=by
     have:=Kd.C_alloc hrd.2.2 (.cells #[] 3)
     rw [hcl] at this; exact this
    have HL : Hid ((([] : List Int).length + (histL b).length) * 8 <= 140737488355328):=by show _ <= _; rw [hcl]; decide
    have HB:=Lib.hid (H.out.2.alloc H.out.2.size (.cells #[] 3))
    have HS : Hid (w.heap.size <= (wr.alloc (.cells #[] 3)).heap.size):=by show _ <= _; have:=H.out.2.size; simp; omega
    clear hrd hcl hlt
    go_wp2_with (at_builtin; refine Kd.R_append_rows (Kd.int .i64) (Rr:=(Kd.int .i64).K (wr.alloc (.cells #[] 3))) (w0:=w) (W:=wr.alloc (.cells #[] 3)) w.heap.size rfl (.tmp 18) (.tmp 19) 84 3 (.int .i64 0) 8 rfl Tryz.underlying84 a4c rfl (by decide) (by decide) (.slice (some ⟨wr.heap.size,0,none⟩) 0 0) [] (histL b) (some ⟨w.heap.size,0,none⟩) 256 256 (λ _=>True) (λ _=>False) rfl rfl HE.out HC.out (λ _ _ h=>h) (λ _ h=>h.elim) (λ _ _=>trivial) HB.out HS.out HL.out ?_; intro vi w2 hr2 hb2 hg2 hat2; have HR2:=Lib.hid hr2; have HB2:=Lib.hid hb2; clear hr2 hb2 hg2 hat2)
    go_ret
    rw [List.nil_append] at HR2
    exact ⟨_,rfl,HR2.out,HB2.out⟩
def panE (n : Int) : Ending:=.panicked [{ v:=.iface 27 (.int .i64 n),recovered:=false }]
set_option maxRecDepth 100000 in
theorem a4U (w : World) : Calls Tryz.prog 158 #[.bool false] w λ e w'=>e = .returned (.tuple #[]) /\ w = w':=by
 go_enter Tryz.func158,Tryz.ntmps158
 go_wp2_with fail
 go_end0
 exact ⟨rfl,rfl⟩
set_option maxRecDepth 100000 in
theorem a9W (w : World) : Calls Tryz.prog 158 #[.bool true] w λ e w'=>e = panE 13 /\ w = w':=by
 go_enter Tryz.func158,Tryz.ntmps158
 go_wp2_with fail
 first | exact ⟨rfl,rfl⟩ | (simp [bodyPost,panE])
set_option maxRecDepth 100000 in
theorem a4V (n : Int) (w : World) : Calls Tryz.prog 159 #[.int .i64 n,.int .i64 0] w λ e w'=>e = .returned (.int .i64 n) /\ w = w':=by
 go_enter Tryz.func159,Tryz.ntmps159
 go_wp2_with fail
 go_ret
 exact ⟨rfl,rfl⟩
set_option maxRecDepth 100000 in
theorem a9X (n e : Int) (w : World) (h : ¬ e = 0) : Calls Tryz.prog 159 #[.int .i64 n,.int .i64 e] w λ en w'=>en = panE e /\ w = w':=by
 have hb : (e == 0) = false:=beq_eq_false_iff_ne.2 h
 have hn : (e != 0) = true:=by simp [h]
 go_enter Tryz.func159,Tryz.ntmps159
 go_wp2_with fail
 first | exact ⟨rfl,rfl⟩ | (simp [bodyPost,panE])
theorem b5u {ps : List Int} {T : Nat} : ∀ (f at_ n most : Nat),(runT ps T f at_ n most).1 = 0 -> (runT ps T f at_ n most).2.1 <= most:=by
 intro f
 induction f with
 | zero=>intro _ _ _ h; simp [runT] at h
 | succ f ih=>
  intro at_ n most
  simp only [runT]
  by_cases h1 : T < at_ + 2
  · rw [if_pos h1]; intro h; cases h
  · rw [if_neg h1]
    by_cases h2 : most < n + takeF ps at_ 2
    · rw [if_pos h2]; intro h; cases h
    · rw [if_neg h2]
      by_cases h3 : takeF ps at_ 2 = 3
      · rw [if_pos h3]; exact ih _ _ _
      · rw [if_neg h3]; intro _; simp only []; omega
structure HcRel (base p g : Nat) (ps : List Int) (H : Int × List Int × Nat) (w : World) (left s : Nat) (again : Bool) (q : List Int) (at_ d : Nat) (wr : World) : Prop where
 rd : RfAt wr base p ps at_
 row : (Kd.int .i64).R 3 wr w.heap.size (λ _=>True) (.slice (some ⟨g,0,none⟩) 256 256) q
 ql : q.length = 256
 at_le : at_ <= 8 * ps.length
 eq : hdrT ps (8 * ps.length) d q s left again at_ = H
 fuel : 257 <= s + d
 only : Only (λ k=>k = p) w wr
 gt : p < g /\ w.heap.size <= g
def c5Q (base p : Nat) (ps : List Int) (H : Int × List Int × Nat) (w : World) (e : Ending) (w' : World) : Prop:=
 (H.1 = 0 -> ∃ g,e = .returned (.slice (some ⟨g,0,none⟩) 256 256) /\ (Kd.int .i64).R 3 w' w.heap.size (λ _=>True) (.slice (some ⟨g,0,none⟩) 256 256) H.2.1 /\ H.2.1.length = 256 /\ RfAt w' base p ps H.2.2) /\
 (H.1 ≠ 0 -> e = panE H.1) /\ Only (λ k=>k = p) w w'
theorem HcRel.put {base p g : Nat} {ps : List Int} {H : Int × List Int × Nat} {w wr w1 : World} {left s : Nat} {again : Bool} {q : List Int} {at_ d : Nat} (h : HcRel base p g ps H w left s again q at_ d wr) {at2 : Nat} (hr : RfAt w1 base p ps at2) (ho : Only (λ k=>k = p) wr w1) (x : Int) :
    RfAt (w1.setCell ⟨g,s,none⟩ (.int .i64 x)) base p ps at2 /\ (Kd.int .i64).R 3 (w1.setCell ⟨g,s,none⟩ (.int .i64 x)) w.heap.size (λ _=>True) (.slice (some ⟨g,0,none⟩) 256 256) (q.set s x) /\ Only (λ k=>k = p) w (w1.setCell ⟨g,s,none⟩ (.int .i64 x)) /\
     (Kd.int .i64).R 3 w1 w.heap.size (λ _=>True) (.slice (some ⟨g,0,none⟩) 256 256) q:=by
 have hgp:=h.gt
 have h1 : (Kd.int .i64).R 3 w1 w.heap.size (λ _=>True) (.slice (some ⟨g,0,none⟩) 256 256) q:=a2E rfl h.row ho (λ k hk e=>by
  have : g = k:=by simpa [Value.ownBlock] using hk
  omega)
 have h2:=Kd.R_putn h1 (s : Int) x
 rw [Int.toNat_natCast] at h2
 refine ⟨hr.far hgp.1 s _,h2,?_,h1⟩
 have h3:=h.only.trans ho
 exact ⟨h3.os,h3.tape,h3.output,by simp; exact h3.size,λ k hk hs=>by rw [Below.heap_setCell _ _ _ _ (by show k ≠ g; omega)]; exact h3.block k hk hs⟩
set_option maxRecDepth 100000 in
set_option maxHeartbeats 2000000 in
theorem c5R (base p : Nat) (ps : List Int) (at_ left0 : Nat) (w : World) (h : RfAt w base p ps at_) (hps : ∀ x ∈ ps,0 <= x /\ x < 256) (hl : ps.length <= 1000000) (ha : at_ <= 8 * ps.length) (hleft : left0 <= 4096) (hp : p < w.heap.size) :
    Calls Tryz.prog 108 #[.pointer (some ⟨p,0,none⟩),.int .i64 left0] w (c5Q base p ps (hdrT ps (8 * ps.length) 257 zeros256 0 left0 false at_) w):=by
 obtain ⟨H,hH⟩ : ∃ H,H = hdrT ps (8 * ps.length) 257 zeros256 0 left0 false at_:=⟨_,rfl⟩
 rw [<- hH]
 obtain ⟨W,hW⟩ : ∃ W,W = w.alloc (.cells (madeCells #[.int .i64 0] 256) 3):=⟨_,rfl⟩
 have HI : Hid (HcRel base p w.heap.size ps H w left0 0 false zeros256 at_ 257 W):=by
  refine ⟨?_,?_,by unfold zeros256; exact List.length_replicate,ha,hH.symm,by omega,?_,hp,Nat.le_refl _⟩
  · rw [hW]; exact h.below ((Below.refl _ _).alloc (Nat.le_refl _) _)
  · rw [hW]; exact a7K 256 3 w _ trivial _ (Nat.le_refl _) (by omega)
  · rw [hW]; exact (Only.refl _ _).alloc _
 have hmi : ∀ w : World,(Instr.makeSlice 84 (.int .i64 256) (.int .i64 256)).run Tryz.prog w = .ok (.slice (some ⟨w.heap.size,0,none⟩) 256 256) (w.alloc (.cells (madeCells #[.int .i64 0] 256) 3)):=λ w=>a7q 256 (by omega) w
 have HP:=Lib.hid (And.intro hps (And.intro hl ha))
 clear h hps hl ha hH
 go_enter Tryz.func108,Tryz.ntmps108
 go_wp2_with fail
 rw [<- hW]
 obtain ⟨g,hg⟩ : ∃ g,g = w.heap.size:=⟨_,rfl⟩
 rw [<- hg] at HI ⊢
 clear hW hg hmi
 go_loopw [1,6,7] (λ lv av sv wr=>∃ (left s : Nat) (again : Bool),lv = .int .i64 left /\ av = .bool again /\ sv = .int .i64 s /\ left <= 4096 /\ s <= 256 /\ Hid (∃ q at' d,HcRel base p g ps H w left s again q at' d wr)) (λ _ _ sv _=>257 - (intOf sv).toNat)
 case atStart=>exact ⟨left0,0,false,rfl,rfl,rfl,hleft,by omega,zeros256,at_,257,HI⟩
 case round=>
  obtain ⟨left,s,again,rfl,rfl,rfl,hl4,hs,HR⟩:=hrel
  obtain ⟨q,at',d,hr⟩:=HR.out
  obtain ⟨d,rfl⟩ : ∃ d',d = d' + 1:=⟨d - 1,by have:=hr.fuel; omega⟩
  have heq:=hr.eq
  simp only [hdrT] at heq
  have HH:=Lib.hid hr
  clear hr HR
  by_cases h0 : left = 0
  · rw [if_pos h0] at heq
    have HE:=Lib.hid heq
    subst h0
    clear heq
    go_wp2_with fail
    go_ret
    exact ⟨λ _=>⟨g,rfl,by rw [<- HE.out]; exact HH.out.row,by rw [<- HE.out]; exact HH.out.ql,by rw [<- HE.out]; exact HH.out.rd⟩,λ h=>by rw [<- HE.out] at h; exact absurd rfl h,HH.out.only⟩
  · rw [if_neg h0] at heq
    by_cases h256 : s = 256
    · rw [if_pos h256] at heq
      have HE:=Lib.hid heq
      subst h256
      clear heq
      go_wp2_with fail
      refine (a9W wr).mono ?_
      rintro e w' ⟨rfl,rfl⟩
      unfold panE
      go_wp2_with fail
      refine ⟨rfl,?_⟩
      exact ⟨(λ h=>by rw [<- HE.out] at h; cases h),(λ _=>by rw [<- HE.out]; rfl),HH.out.only⟩
    · rw [if_neg h256] at heq
      have hsb : ((s : Int) == 256) = false:=beq_eq_false_iff_ne.2 (by omega)
      have hs256 : (s : Int) < 256:=by omega
      have HEQ:=Lib.hid heq
      clear heq
      go_wp2_with fail
      refine (a4U wr).mono ?_
      rintro e w' ⟨rfl,rfl⟩
      go_wp2_with fail
      refine (c5K base p ps at' left wr HH.out.rd HP.out.1 HP.out.2.1 HH.out.at_le (by omega) hl4).mono ?_
      rintro e w1 ⟨t1,t2,t3,t4⟩
      have HO:=Lib.hid t4
      by_cases hT : 8 * ps.length < at' + Lib.bitLen left
      · obtain rfl:=t1 hT
        have HE : Hid ((3,q,0) = H):=by have:=HEQ.out; rw [if_pos hT] at this; exact this
        clear t1 t2 t3 t4
        go_wp2_with fail
        refine (a9X 0 3 w1 (by decide)).mono ?_
        rintro e w' ⟨rfl,rfl⟩
        unfold panE
        go_wp2_with fail
        refine ⟨rfl,?_⟩
        exact ⟨(λ h=>by rw [<- HE.out] at h; cases h),(λ _=>by rw [<- HE.out]; rfl),HH.out.only.trans HO.out⟩
      · have HNT:=Lib.hid hT
        have hT' : at' + Lib.bitLen left <= 8 * ps.length:=by omega
        by_cases hV : left < takeF ps at' (Lib.bitLen left)
        · obtain rfl:=t2 hT' hV
          have HE : Hid ((13,q,0) = H):=by have:=HEQ.out; rw [if_neg hT,if_pos hV] at this; exact this
          clear t1 t2 t3 t4 hT hT' hV
          go_wp2_with fail
          refine (a9X 0 13 w1 (by decide)).mono ?_
          rintro e w' ⟨rfl,rfl⟩
          unfold panE
          go_wp2_with fail
          refine ⟨rfl,?_⟩
          exact ⟨(λ h=>by rw [<- HE.out] at h; cases h),(λ _=>by rw [<- HE.out]; rfl),HH.out.only.trans HO.out⟩
        · obtain ⟨rfl,hrd⟩:=t3 hT' (by omega)
          obtain ⟨V,hVe⟩ : ∃ V,V = takeF ps at' (Lib.bitLen left):=⟨_,rfl⟩
          have hq3:=HEQ.out
          rw [if_neg hT,if_neg hV] at hq3
          rw [<- hVe] at hq3 hV ⊢
          have hVl : V <= left:=by omega
          have HPut:=Lib.hid (HH.out.put hrd HO.out (V : Int))
          obtain ⟨hcl,hfz⟩:=a1D HPut.out.2.2.2 s (by omega)
          have hcl2:=(a1D HPut.out.2.1 s (by omega)).1
          have hqs : (q.set s (V : Int)).getD s 0 = V:=by rw [a5L _ _ _ _ (by have:=HH.out.ql; omega),if_pos rfl]
          rw [hqs] at hcl2
          have HQ3:=Lib.hid hq3
          have HT2:=Lib.hid hT'
          obtain ⟨at2,hat2⟩ : ∃ a,a = at' + Lib.bitLen left:=⟨_,rfl⟩
          rw [<- hat2] at HPut HQ3 HT2
          clear t1 t2 t3 t4 hT hT' hV hVe hq3 hqs hrd hat2
          by_cases hV0 : V = 0
          · subst hV0
            have hvb : (((0 : Nat) : Int) == 0) = true:=rfl
            cases again with
            | true=>
             have HE : Hid ((13,q,0) = H):=by have:=HQ3.out; rw [if_pos ⟨rfl,rfl⟩] at this; exact this
             go_wp2_with fail
             refine (a4V (0 : Int) w1).mono ?_
             rintro e w' ⟨rfl,rfl⟩
             go_wp2_with fail
             refine (a9W _).mono ?_
             rintro e w' ⟨rfl,rfl⟩
             unfold panE
             go_wp2_with fail
             refine ⟨rfl,?_⟩
             exact ⟨(λ h=>by rw [<- HE.out] at h; cases h),(λ _=>by rw [<- HE.out]; rfl),HPut.out.2.2.1⟩
            | false=>
             by_cases hs1 : s + 1 = 256
             · have HE : Hid ((13,q,0) = H):=by have:=HQ3.out; rw [if_neg (λ h=>by cases h.1),if_pos rfl,if_pos hs1] at this; exact this
               have hsb1 : ((s : Int) + 1 == 256) = true:=by simp; omega
               go_wp2_with fail
               refine (a4V (0 : Int) w1).mono ?_
               rintro e w' ⟨rfl,rfl⟩
               go_wp2_with fail
               refine (a4U _).mono ?_
               rintro e w' ⟨rfl,rfl⟩
               go_wp2_with fail
               refine (a9W _).mono ?_
               rintro e w' ⟨rfl,rfl⟩
               unfold panE
               go_wp2_with fail
               refine ⟨rfl,?_⟩
               exact ⟨(λ h=>by rw [<- HE.out] at h; cases h),(λ _=>by rw [<- HE.out]; rfl),HPut.out.2.2.1⟩
             · have hsb1 : ((s : Int) + 1 == 256) = false:=beq_eq_false_iff_ne.2 (by omega)
               have hq4:=HQ3.out
               rw [if_neg (λ h=>by cases h.1),if_pos rfl,if_neg hs1] at hq4
               have HQ4:=Lib.hid hq4
               have hmost : (254 : Int) - (s : Int) = ((254 - s : Nat) : Int):=by omega
               clear hq4
               go_wp2_with fail
               refine (a4V (0 : Int) w1).mono ?_
               rintro e w' ⟨rfl,rfl⟩
               go_wp2_with fail
               refine (a4U _).mono ?_
               rintro e w' ⟨rfl,rfl⟩
               go_wp2_with fail
               refine (a4U _).mono ?_
               rintro e w' ⟨rfl,rfl⟩
               go_wp2_with fail
               obtain ⟨R,hR⟩ : ∃ R,R = runT ps (8 * ps.length) 100 at2 0 (254 - s):=⟨_,rfl⟩
               have hRle : R.1 = 0 -> R.2.1 <= 254 - s:=λ h=>by rw [hR] at h ⊢; exact b5u _ _ _ _ h
               have hRend : R.1 = 0 -> R.2.2 <= 8 * ps.length:=λ h=>by rw [hR] at h ⊢; exact a9O _ _ _ _ h
               have hrt:=c5L base p ps at2 (254 - s) _ HPut.out.1 HP.out.1 HP.out.2.1 HT2.out (by omega)
               unfold a9V at hrt
               rw [<- hR] at hrt HQ4
               have HRE:=Lib.hid (And.intro hRle hRend)
               clear hR hRle hRend
               refine hrt.mono ?_
               rintro e w2 ⟨r1,r2,r3⟩
               have HO2 : Hid (Only (λ k=>k = p) w w2):=HPut.out.2.2.1.trans r3
               by_cases hr1 : R.1 = 0
               · obtain ⟨rfl,hrd2⟩:=r1 hr1
                 have hle:=HRE.out.1 hr1
                 have hq5:=HQ4.out
                 rw [if_neg (λ h=>h hr1)] at hq5
                 have HNew : Hid (∃ q at' d,HcRel base p g ps H w left (s + R.2.1 + 1) true q at' d w2):=by
                  refine ⟨q.set s 0,R.2.2,d,hrd2,?_,by simp [HH.out.ql],HRE.out.2 hr1,?_,by have:=HH.out.fuel; omega,HO2.out,HH.out.gt⟩
                  · exact a2E rfl HPut.out.2.1 r3 (λ k hk e=>by
                      have : g = k:=by simpa [Value.ownBlock] using hk
                      have:=HH.out.gt
                      omega)
                  · rw [show s + R.2.1 + 1 = s + 1 + R.2.1 by omega]; exact hq5
                 obtain ⟨rn,hrn⟩ : ∃ rn,rn = R.2.1:=⟨_,rfl⟩
                 rw [<- hrn] at hle HNew ⊢
                 clear r1 r2 r3 hrd2 hq5 hrt hrn
                 go_wp2_with fail
                 refine (a4V (rn : Int) w2).mono ?_
                 rintro e w' ⟨rfl,rfl⟩
                 go_wp2_with fail
                 go_roundw
                 case rel=>exact ⟨left,s + rn + 1,true,by first | rfl | (congr 1; omega),rfl,by go_num,hl4,by omega,HNew⟩
                 case measure=>simp [intOf]; omega
               · obtain rfl:=r2 hr1
                 have HE : Hid ((R.1,q,0) = H):=by have:=HQ4.out; rw [if_pos hr1] at this; exact this
                 obtain ⟨rc,hrc⟩ : ∃ rc,rc = R.1:=⟨_,rfl⟩
                 rw [<- hrc] at HE hr1 ⊢
                 clear r1 r2 r3 hrt hrc
                 go_wp2_with fail
                 refine (a9X 0 rc w2 hr1).mono ?_
                 rintro e w' ⟨rfl,rfl⟩
                 unfold panE
                 go_wp2_with fail
                 refine ⟨rfl,?_⟩
                 exact ⟨(λ h=>by rw [<- HE.out] at h; exact absurd h hr1),(λ _=>by rw [<- HE.out]; rfl),HO2.out⟩
          · have hvb : ((V : Int) == 0) = false:=beq_eq_false_iff_ne.2 (by omega)
            have hq4:=HQ3.out
            rw [if_neg (λ h=>hV0 h.2),if_neg hV0] at hq4
            have HNew : Hid (∃ q at' d,HcRel base p g ps H w (left - V) (s + 1) false q at' d (w1.setCell ⟨g,s,none⟩ (.int .i64 (V : Int)))):=
             ⟨q.set s (V : Int),at2,d,HPut.out.1,HPut.out.2.1,by simp [HH.out.ql],HT2.out,hq4,by have:=HH.out.fuel; omega,HPut.out.2.2.1,HH.out.gt⟩
            have hls : (left : Int) - (V : Int) = ((left - V : Nat) : Int):=by omega
            clear hq4
            cases again with
            | true=>
             go_wp2_with fail
             refine (a4V (V : Int) w1).mono ?_
             rintro e w' ⟨rfl,rfl⟩
             go_wp2_with fail
             refine (a4U _).mono ?_
             rintro e w' ⟨rfl,rfl⟩
             go_wp2_with fail
             go_roundw
             case rel=>exact ⟨left - V,s + 1,false,by first | rfl | (congr 1; omega),rfl,by go_num,by omega,by omega,HNew⟩
             case measure=>simp [intOf]; omega
            | false=>
             go_wp2_with fail
             refine (a4V (V : Int) w1).mono ?_
             rintro e w' ⟨rfl,rfl⟩
             go_wp2_with fail
             refine (a4U _).mono ?_
             rintro e w' ⟨rfl,rfl⟩
             go_wp2_with fail
             go_roundw
             case rel=>exact ⟨left - V,s + 1,false,by first | rfl | (congr 1; omega),rfl,by go_num,by omega,by omega,HNew⟩
             case measure=>simp [intOf]; omega
set_option maxRecDepth 100000 in
theorem c5S (a b : Nat) (va : Value) (n x : Int) (older : List PanicEntry) (w : World) (ha : w.cell? ⟨a,0,none⟩ = some va) (hfa : w.frozen? ⟨a,0,none⟩ = false) (hb : w.cell? ⟨b,0,none⟩ = some (.int .i64 x)) (hfb : w.frozen? ⟨b,0,none⟩ = false) (hne : a ≠ b) :
    CallsD Tryz.prog 107 #[.pointer (some ⟨a,0,none⟩),.pointer (some ⟨b,0,none⟩)] (.panicking ({ v:=.iface 27 (.int .i64 n),recovered:=false } :: older)) w λ e u' w'=>
     e = .returned (.tuple #[]) /\ u' = .panicking ({ v:=.iface 27 (.int .i64 n),recovered:=true } :: older) /\ w' = (w.setCell ⟨a,0,none⟩ (.slice none 0 0)).setCell ⟨b,0,none⟩ (.int .i64 n):=by
 have ta : ∀ (v : Value) (w : World),(Instr.typeAssert (.iface 27 v) 20 27 true).run Tryz.prog w = .ok (.tuple #[v,.bool true]) w:=λ v w=>by kernel_rfl
 have hne2 : ¬ b = a:=λ e=>hne e.symm
 refine callsD_of_wpS Tryz.func107 rfl λ c₀ cs hu=>?_
 apply wpS_seq
 apply wpS_region
 simp [wpOpsS,go_sem,recoverD,hu,Tryz.ntmps107,Exit.thenS,ta]
 apply wpS_seq
 apply wpS_region
 simp [wpOpsS,go_sem,Exit.thenS]
 refine wpS_cond (t:=true) (by simp [Act.eval,Array.replicate]) ?_
 simp only [if_true]
 apply wpS_region
 have hb2 : (w.setCell ⟨a,0,none⟩ (.slice none 0 0)).cell? ⟨b,0,none⟩ = some (.int .i64 x):=by
  rw [World.cell?_setCell_other _ _ _ _ (by simp)]; exact hb
 have hfb2 : (w.setCell ⟨a,0,none⟩ (.slice none 0 0)).frozen? ⟨b,0,none⟩ = false:=by simp [hfb,go_sem]
 simp [wpOpsS,go_sem,ha,hfa,hb2,hfb2,bodyPostS,results,Tryz.results107]
set_option maxRecDepth 100000 in
theorem c5T (a b : Nat) (w : World) :
    CallsD Tryz.prog 107 #[.pointer (some ⟨a,0,none⟩),.pointer (some ⟨b,0,none⟩)] .returning w λ e u' w'=>e = .returned (.tuple #[]) /\ u' = .returning /\ w' = w:=by
 have ta : ∀ (w : World),(Instr.typeAssert .nilIface 20 27 true).run Tryz.prog w = .ok (.tuple #[.int .i64 0,.bool false]) w:=λ w=>by kernel_rfl
 refine callsD_of_wpS Tryz.func107 rfl λ c₀ cs hu=>?_
 apply wpS_seq
 apply wpS_region
 simp [wpOpsS,go_sem,recoverD,hu,Tryz.ntmps107,Exit.thenS,ta]
 apply wpS_seq
 apply wpS_region
 simp [wpOpsS,go_sem,Exit.thenS]
 refine wpS_cond (t:=false) (by simp [Act.eval,Array.replicate]) ?_
 simp only [Bool.false_eq_true,if_false]
 refine wpS_of_wp (wp_skip ?_)
 cases c₀
 simp_all [bodyPostS,results,Tryz.results107]
theorem Only.setNew {S : Nat -> Prop} {w w1 : World} (h : Only S w w1) {a : Nat} (ha : w.heap.size <= a) (j : Nat) (u : Value) : Only S w (w1.setCell ⟨a,j,none⟩ u):=
 ⟨h.os,h.tape,h.output,by simp; exact h.size,λ k hk hs=>by rw [Below.heap_setCell _ _ _ _ (by show k ≠ a; omega)]; exact h.block k hk hs⟩
def c5U (base p : Nat) (ps : List Int) (H : Int × List Int × Nat) (w : World) (e : Ending) (w' : World) : Prop:=
 (H.1 = 0 -> ∃ g,e = .returned (.tuple #[.slice (some ⟨g,0,none⟩) 256 256,.int .i64 0]) /\ (Kd.int .i64).R 3 w' w.heap.size (λ _=>True) (.slice (some ⟨g,0,none⟩) 256 256) H.2.1 /\ H.2.1.length = 256 /\ RfAt w' base p ps H.2.2) /\
 (H.1 ≠ 0 -> e = .returned (.tuple #[.slice none 0 0,.int .i64 H.1])) /\ Only (λ k=>k = p) w w'
set_option maxRecDepth 100000 in
set_option maxHeartbeats 1000000 in
theorem b5v (base p r : Nat) (ps : List Int) (at_ : Nat) (w : World) (h : RfAt w base p ps at_) (hps : ∀ x ∈ ps,0 <= x /\ x < 256) (hl : ps.length <= 1000000) (ha : at_ <= 8 * ps.length) (h1 : 1 <= r) (h12 : r <= 12) (hp : p < w.heap.size) :
    Calls Tryz.prog 68 #[.pointer (some ⟨p,0,none⟩),.int .i64 r] w (c5U base p ps (hdrT ps (8 * ps.length) 257 zeros256 0 (2 ^ r) false at_) w):=by
 obtain ⟨P,hP⟩ : ∃ P : Nat,P = 2 ^ r:=⟨_,rfl⟩
 rw [<- hP]
 obtain ⟨H,hH⟩ : ∃ H,H = hdrT ps (8 * ps.length) 257 zeros256 0 P false at_:=⟨_,rfl⟩
 rw [<- hH]
 have hPI : (2 : Int) ^ r = (P : Int):=by rw [hP]; simp
 have hPb : 1 <= P /\ P <= 4096:=by have:=a1H h12; rw [hPI] at this; omega
 have hw1 : IntKind.i64.wrap (2 ^ r) = (P : Int):=by rw [hPI]; exact i64_in _ (by omega)
 obtain ⟨W,hW⟩ : ∃ W,W = (w.alloc (.cells #[.slice none 0 0] 84)).alloc (.cells #[.int .i64 0] 27):=⟨_,rfl⟩
 have hmf : ∀ (fn : Fn) (first cap : Array Value) (w : World),(Instr.makeFunc fn first cap).run Tryz.prog w = .ok (.func fn first cap) w:=λ _ _ _ _=>rfl
 have hr1 : ¬ (r : Int) < 1:=by omega
 have hr2 : ¬ 12 < (r : Int):=by omega
 have hr0 : (0 : Int) <= r:=by omega
 have HW:=Lib.hid hPI
 have hsz : W.heap.size = w.heap.size + 2:=by rw [hW]; simp
 have hba : W.heap[w.heap.size]? = some (.cells #[.slice none 0 0] 84 (0,0)):=by rw [hW]; exact a0o (a0i _ _) _
 have hbb : W.heap[w.heap.size + 1]? = some (.cells #[.int .i64 0] 27 (0,0)):=by rw [hW]; exact a2i _ _ _
 have hWb : Below w.heap.size w W:=by rw [hW]; exact ((Below.refl _ _).alloc (Nat.le_refl _) _).alloc (by simp) _
 have HCnt:=Lib.hid (c5R base p ps at_ P W (h.below hWb) hps hl ha (by omega) (by omega))
 rw [<- hH] at HCnt
 obtain ⟨a,hae⟩ : ∃ a,a = w.heap.size:=⟨_,rfl⟩
 obtain ⟨b,hbe⟩ : ∃ b,b = w.heap.size + 1:=⟨_,rfl⟩
 rw [<- hae] at hba
 rw [<- hbe] at hbb
 have HA:=Lib.hid (And.intro hae (And.intro hbe (And.intro hsz (And.intro hba (And.intro hbb (And.intro hWb hp))))))
 clear hPI hP hH h hps hl ha hsz hba hbb hWb hp
 go_enter_defers Tryz.func68,Tryz.ntmps68
 go_wp2_with fail
 rw [<- hW,<- hbe,<- hae]
 clear hW hae hbe
 refine HCnt.out.mono ?_
 rintro e w1 ⟨c1,c2,c3⟩
 have hab : p ≠ a /\ p ≠ b /\ a ≠ b /\ a < W.heap.size /\ b < W.heap.size:=by obtain ⟨q1,q2,q3,q4,q5,q6,q7⟩:=HA.out; omega
 have hba1 : w1.heap[a]? = some (.cells #[.slice none 0 0] 84 (0,0)):=by rw [c3.block a hab.2.2.2.1 (λ e=>hab.1 e.symm)]; exact HA.out.2.2.2.1
 have hbb1 : w1.heap[b]? = some (.cells #[.int .i64 0] 27 (0,0)):=by rw [c3.block b hab.2.2.2.2 (λ e=>hab.2.1 e.symm)]; exact HA.out.2.2.2.2.1
 have ca : w1.cell? ⟨a,0,none⟩ = some (.slice none 0 0):=(a0a hba1 0).trans rfl
 have cb : w1.cell? ⟨b,0,none⟩ = some (.int .i64 0):=(a0a hbb1 0).trans rfl
 have fa : w1.frozen? ⟨a,0,none⟩ = false:=a0e hba1 0
 have fb : w1.frozen? ⟨b,0,none⟩ = false:=a0e hbb1 0
 have HC3:=Lib.hid (And.intro c3 hab)
 have hne : ¬ a = b:=hab.2.2.1
 have hne' : ¬ b = a:=λ e=>hab.2.2.1 e.symm
 by_cases h0 : H.1 = 0
 · obtain ⟨g,rfl,d1,d2,d3⟩:=c1 h0
   have HD:=Lib.hid (And.intro d1 (And.intro d2 (And.intro d3 h0)))
   clear c1 c2 c3 d1 d2 d3 hba1 hbb1
   go_wp2_with fail
   refine leaves_cons (f:=107) (args:=#[.pointer (some ⟨a,0,none⟩),.pointer (some ⟨b,0,none⟩)]) (by simp) (by simp [go_sem]) ?_
   refine (c5T a b _).mono ?_
   rintro e u' w'' ⟨rfl,rfl,rfl⟩
   have ca2 : (w1.setCell ⟨a,0,none⟩ (.slice (some ⟨g,0,none⟩) 256 256)).cell? ⟨a,0,none⟩ = some (.slice (some ⟨g,0,none⟩) 256 256):=World.cell?_setCell_same _ _ _ ca
   have cb2 : ((w1.setCell ⟨a,0,none⟩ (.slice (some ⟨g,0,none⟩) 256 256)).setCell ⟨b,0,none⟩ (.int .i64 0)).cell? ⟨b,0,none⟩ = some (.int .i64 0):=World.cell?_setCell_same _ _ _ (by rw [World.cell?_setCell_other _ _ _ _ (by simp)]; exact cb)
   simp [Leaves,settle,results,Tryz.results68,go_sem,ca2,cb2]
   have ho : Only (λ k=>k = p) w w1:=(Only.of_below HA.out.2.2.2.2.2.1).trans HC3.out.1
   refine ⟨λ _=>⟨g,rfl,?_,HD.out.2.1,?_⟩,λ h=>absurd HD.out.2.2.2 h,(ho.setNew (by have:=HA.out.1; omega) 0 _).setNew (by have:=HA.out.2.1; omega) 0 _⟩
   · have hlt:=HC3.out.2
     have h1:=Kd.R_bound HD.out.1
     have h2:=Kd.R_far (p:=⟨b,0,none⟩) (Kd.R_far (p:=⟨a,0,none⟩) h1 (λ k hk=>by show k ≠ a; have:=hk.2.1; omega) (.slice (some ⟨g,0,none⟩) 256 256)) (λ k hk=>by show k ≠ b; have:=hk.2.1; omega) (.int .i64 0)
     exact Kd.R_mono (Kd.R_lower h2 HA.out.2.2.2.2.2.1.size) (λ _ _=>trivial)
   · have h1:=HA.out.1; have h2:=HA.out.2.1; have h3:=HA.out.2.2.2.2.2.2
     exact (HD.out.2.2.1.far (by omega) 0 _).far (by omega) 0 _
 · obtain rfl:=c2 h0
   have HD:=Lib.hid h0
   clear c1 c2 c3 hba1 hbb1
   unfold panE
   go_wp2_with fail
   refine leaves_cons (f:=107) (args:=#[.pointer (some ⟨a,0,none⟩),.pointer (some ⟨b,0,none⟩)]) (by simp) (by simp [go_sem]) ?_
   refine (c5S a b (.slice none 0 0) H.1 0 [] w1 ca fa cb fb hne).mono ?_
   rintro e u' w'' ⟨rfl,rfl,rfl⟩
   have ca2 : (w1.setCell ⟨a,0,none⟩ (.slice none 0 0)).cell? ⟨a,0,none⟩ = some (.slice none 0 0):=World.cell?_setCell_same _ _ _ ca
   have cb2 : ((w1.setCell ⟨a,0,none⟩ (.slice none 0 0)).setCell ⟨b,0,none⟩ (.int .i64 H.1)).cell? ⟨b,0,none⟩ = some (.int .i64 H.1):=World.cell?_setCell_same _ _ _ (by rw [World.cell?_setCell_other _ _ _ _ (by simp)]; exact cb)
   simp [Leaves,settle,results,Tryz.results68,go_sem,ca2,cb2]
   refine ⟨λ h=>absurd h HD.out,λ _=>rfl,?_⟩
   have ho : Only (λ k=>k = p) w w1:=(Only.of_below HA.out.2.2.2.2.2.1).trans HC3.out.1
   exact (ho.setNew (by have:=HA.out.1; omega) 0 _).setNew (by have:=HA.out.2.1; omega) 0 _
end Go.Proofs.YtflfjpkmjnnodaaGreat
namespace Go.Proofs.YtflfjpkmjnnodaaGreat
open Go.RowKit Go.Proofs.YtflfjpkmjnnodaaGreatW.PrintWords HeapL
def a1L (rest : List Int) (s : Nat) : K3:=((s : Int),rest.getD s 0,0)
def candN (rest : List Int) (had : List Bool) (k : Nat) : List K3:=((List.range k).filter (λ s=>!had.getD s false)).map (a1L rest)
def a1A (c q : List Int) (s : Nat) : K3:=((s : Int),q.getD s 0,(1073741824 - c.getD s 0) * 256 + s)
def candT (c q : List Int) (k : Nat) : List K3:=((List.range k).filter (λ s=>decide (0 < c.getD s 0))).map (a1A c q)
theorem b0f (rest : List Int) (had : List Bool) (k : Nat) : candN rest had (k + 1) = if had.getD k false = false then candN rest had k ++ [a1L rest k] else candN rest had k:=by
 unfold candN
 have e : [k].filter (λ s=>!had.getD s false) = if had.getD k false = false then [k] else []:=by
  rw [List.filter_cons,List.filter_nil]; cases had.getD k false <;> rfl
 rw [List.range_succ,List.filter_append,List.map_append,e]
 split
 · rfl
 · rw [List.map_nil,List.append_nil]
theorem b5J (c q : List Int) (k : Nat) : candT c q (k + 1) = if 0 < c.getD k 0 then candT c q k ++ [a1A c q k] else candT c q k:=by
 unfold candT
 rw [List.range_succ,List.filter_append,List.map_append,List.filter_cons,List.filter_nil]
 by_cases h : 0 < c.getD k 0
 · rw [if_pos h,if_pos (decide_eq_true h)]; rfl
 · rw [if_neg h,if_neg (by rw [decide_eq_false h]; decide),List.map_nil,List.append_nil]
theorem b0g (rest : List Int) (had : List Bool) (k : Nat) : (candN rest had k).length <= k:=by
 unfold candN; rw [List.length_map]; exact Nat.le_trans (List.length_filter_le _ _) (by simp)
theorem b0h (c q : List Int) (k : Nat) : (candT c q k).length <= k:=by
 unfold candT; rw [List.length_map]; exact Nat.le_trans (List.length_filter_le _ _) (by simp)
theorem b5K {p : Nat -> Bool} {t : Nat} (ht : t < 256) (hp : p t = true) : ((List.range 256).filter p).Perm (t :: (List.range 256).filter (λ s=>p s && decide (s ≠ t))):=by
 have hm : t ∈ (List.range 256).filter p:=List.mem_filter.2 ⟨List.mem_range.2 ht,hp⟩
 have hn : ((List.range 256).filter p).Nodup:=List.Pairwise.filter _ List.nodup_range
 have e : ((List.range 256).filter p).erase t = (List.range 256).filter (λ s=>p s && decide (s ≠ t)):=by
  rw [hn.erase_eq_filter,List.filter_filter]
  refine List.filter_congr λ s _=>?_
  rw [Bool.and_comm]
  congr 1
  by_cases h : s = t <;> simp [h]
 rw [<- e]
 exact List.perm_cons_erase hm
theorem b5L (rest : List Int) (had : List Bool) : ∀ k s,s < k -> had.getD s false = false -> 0 <= needN rest had k /\ (rest.getD s 0 < rest.getD (needN rest had k).toNat 0 \/ rest.getD s 0 = rest.getD (needN rest had k).toNat 0 /\ needN rest had k <= s)
 | 0,s,h,_=>by omega
 | k + 1,s,h,hs=>by
  have hl:=a4N rest had k
  simp only [needN]
  by_cases e : s = k
  · subst e
    rw [if_neg (by rw [hs]; decide)]
    by_cases h1 : needN rest had s < 0
    · rw [if_pos h1,Int.toNat_natCast]; exact ⟨by omega,.inr ⟨rfl,Int.le_refl _⟩⟩
    · rw [if_neg h1]
      by_cases h2 : rest.getD s 0 > rest.getD (needN rest had s).toNat 0
      · rw [if_pos h2,Int.toNat_natCast]; exact ⟨by omega,.inr ⟨rfl,Int.le_refl _⟩⟩
      · rw [if_neg h2]; exact ⟨by omega,by omega⟩
  · obtain ⟨i1,i2⟩:=b5L rest had k s (by omega) hs
    by_cases h0 : had.getD k false = true
    · rw [if_pos h0]; exact ⟨i1,i2⟩
    · rw [if_neg h0,if_neg (by omega)]
      by_cases h2 : rest.getD k 0 > rest.getD (needN rest had k).toNat 0
      · rw [if_pos h2,Int.toNat_natCast]; exact ⟨by omega,.inl (by omega)⟩
      · rw [if_neg h2]; exact ⟨i1,i2⟩
theorem b5M (q c : List Int) : ∀ k s,s < k -> q.getD s 0 < q.getD (richN q c k) 0 \/ q.getD s 0 = q.getD (richN q c k) 0 /\ (c.getD (richN q c k) 0 < c.getD s 0 \/ c.getD (richN q c k) 0 = c.getD s 0 /\ s <= richN q c k)
 | 0,s,h=>by omega
 | k + 1,s,h=>by
  have hl:=a4O q c k
  by_cases e : s = k
  · subst e
    simp only [richN]
    split
    · exact .inr ⟨rfl,.inr ⟨rfl,Nat.le_refl _⟩⟩
    · omega
  · have ih:=b5M q c k s (by omega)
    simp only [richN]
    split
    · omega
    · exact ih
theorem c6i {rest : List Int} {had : List Bool} {x : K3} (h : x ∈ candN rest had 256) : ∃ s,s < 256 /\ had.getD s false = false /\ x = a1L rest s:=by
 obtain ⟨s,hs,rfl⟩:=List.mem_map.1 h
 obtain ⟨h1,h2⟩:=List.mem_filter.1 hs
 exact ⟨s,List.mem_range.1 h1,by simpa using h2,rfl⟩
theorem b5N {rest : List Int} {had : List Bool} {s : Nat} (h : s < 256) (h2 : had.getD s false = false) : a1L rest s ∈ candN rest had 256:=
 List.mem_map.2 ⟨s,List.mem_filter.2 ⟨List.mem_range.2 h,by show (!had.getD s false) = true; rw [h2]; rfl⟩,rfl⟩
theorem b5O {ys : List K3} {x : K3} (h : x ∈ ys) : ∃ k,k < ys.length /\ ys.getD k z3 = x:=by
 obtain ⟨k,hk,rfl⟩:=List.getElem_of_mem h
 exact ⟨k,hk,by rw [List.getD_eq_getElem?_getD,List.getElem?_eq_getElem hk]; rfl⟩
theorem b5P {ys : List K3} {k : Nat} (h : k < ys.length) : ys.getD k z3 ∈ ys:=by
 rw [List.getD_eq_getElem?_getD,List.getElem?_eq_getElem h]; exact List.getElem_mem _
theorem c6j {rest : List Int} {had : List Bool} {ys : List K3} (hp : ys.Perm (candN rest had 256)) (hh : From lessC z3 ys 0 ys.length) (h0 : 0 < ys.length) :
    ∃ t : Nat,needN rest had 256 = t /\ t < 256 /\ had.getD t false = false /\ ys.getD 0 z3 = a1L rest t:=by
 obtain ⟨s,hs,hsf,e⟩:=c6i (hp.subset (b5P h0))
 obtain ⟨n1,n2⟩:=b5L rest had 256 s hs hsf
 obtain ⟨l1,l2,l3⟩:=a4N rest had 256
 obtain ⟨t,ht⟩ : ∃ t : Nat,needN rest had 256 = t:=⟨_,(Int.toNat_of_nonneg n1).symm⟩
 rw [ht] at n1 n2 l2 l3
 rw [Int.toNat_natCast] at n2 l3
 have hf:=l3 (by omega)
 obtain ⟨k,hk,ek⟩:=b5O (hp.symm.subset (b5N (rest:=rest) (show t < 256 by omega) hf))
 have hr:=From.root ordC hh (Nat.le_refl _) (λ _ _=>trivial) k hk
 rw [ek,e,a7L] at hr
 simp only [a1L,true_and,Int.lt_irrefl,false_or] at hr
 have est : s = t:=by omega
 subst est
 exact ⟨s,ht,hs,hf,e⟩
theorem c6k {rest : List Int} {had : List Bool} {ys zs : List K3} {t : Nat} (hl : had.length = 256) (ht : t < 256) (hf : had.getD t false = false) (hp : ys.Perm (candN rest had 256)) (h : (a1L rest t :: zs).Perm ys) : zs.Perm (candN rest (had.set t true) 256):=by
 have h1:=(b5K (p:=λ s=>!had.getD s false) ht (by show (!had.getD t false) = true; rw [hf]; rfl)).map (a1L rest)
 have h2 : (a1L rest t :: zs).Perm (a1L rest t :: ((List.range 256).filter (λ s=>(!had.getD s false) && decide (s ≠ t))).map (a1L rest)):=(h.trans hp).trans h1
 have h3:=h2.cons_inv
 have e : candN rest (had.set t true) 256 = ((List.range 256).filter (λ s=>(!had.getD s false) && decide (s ≠ t))).map (a1L rest):=by
  unfold candN
  congr 1
  refine List.filter_congr λ s hs=>?_
  rw [List.getD_eq_getElem?_getD,List.getElem?_set]
  by_cases e : t = s
  · subst e; rw [if_pos rfl,if_pos (by omega)]; simp
  · rw [if_neg e,<- List.getD_eq_getElem?_getD]
    have : ¬ s = t:=λ x=>e x.symm
    simp [this]
 rw [e]; exact h3
theorem c6l {c q : List Int} {x : K3} (h : x ∈ candT c q 256) : ∃ s,s < 256 /\ 0 < c.getD s 0 /\ x = a1A c q s:=by
 obtain ⟨s,hs,rfl⟩:=List.mem_map.1 h
 obtain ⟨h1,h2⟩:=List.mem_filter.1 hs
 exact ⟨s,List.mem_range.1 h1,by simpa using h2,rfl⟩
theorem b5Q {c q : List Int} {s : Nat} (h : s < 256) (h2 : 0 < c.getD s 0) : a1A c q s ∈ candT c q 256:=
 List.mem_map.2 ⟨s,List.mem_filter.2 ⟨List.mem_range.2 h,decide_eq_true h2⟩,rfl⟩
theorem c6m {c q : List Int} {ys : List K3} (hi : ∀ s,0 < q.getD s 0 ↔ 0 < c.getD s 0) (hp : ys.Perm (candT c q 256)) (hh : From lessC z3 ys 0 ys.length) (h0 : 0 < ys.length) :
    richN q c 256 < 256 /\ 0 < c.getD (richN q c 256) 0 /\ ys.getD 0 z3 = a1A c q (richN q c 256):=by
 obtain ⟨s,hs,hsf,e⟩:=c6l (hp.subset (b5P h0))
 have n2:=b5M q c 256 s hs
 have l2:=a4O q c 256
 obtain ⟨t,ht⟩ : ∃ t : Nat,t = richN q c 256:=⟨_,rfl⟩
 rw [<- ht] at n2 l2 ⊢
 have hqs:=(hi s).2 hsf
 have hct : 0 < c.getD t 0:=(hi t).1 (by omega)
 obtain ⟨k,hk,ek⟩:=b5O (hp.symm.subset (b5Q (q:=q) (show t < 256 by omega) hct))
 have hr:=From.root ordC hh (Nat.le_refl _) (λ _ _=>trivial) k hk
 rw [ek,e,a7L] at hr
 simp only [a1A] at hr
 have est : s = t:=by omega
 subst est
 exact ⟨hs,hct,e⟩
theorem c6n {c q : List Int} {ys zs us : List K3} {t : Nat} (hl : q.length = 256) (ht : t < 256) (hf : 0 < c.getD t 0) (hp : ys.Perm (candT c q 256)) (h : (a1A c q t :: zs).Perm ys)
    (hu : us.Perm (((t : Int),q.getD t 0 - 1,(1073741824 - c.getD t 0) * 256 + t) :: zs)) : us.Perm (candT c (q.set t (q.getD t 0 - 1)) 256):=by
 have hpa:=b5K (p:=λ s=>decide (0 < c.getD s 0)) ht (decide_eq_true hf)
 have h2 : (a1A c q t :: zs).Perm (a1A c q t :: ((List.range 256).filter (λ s=>(decide (0 < c.getD s 0)) && decide (s ≠ t))).map (a1A c q)):=(h.trans hp).trans (hpa.map (a1A c q))
 have h3:=h2.cons_inv
 have h4:=hpa.map (a1A c (q.set t (q.getD t 0 - 1)))
 rw [List.map_cons] at h4
 have e1 : a1A c (q.set t (q.getD t 0 - 1)) t = ((t : Int),q.getD t 0 - 1,(1073741824 - c.getD t 0) * 256 + t):=by
  unfold a1A; rw [a3l _ _ _ _ (by omega),if_pos rfl]
 have e2 : ((List.range 256).filter (λ s=>(decide (0 < c.getD s 0)) && decide (s ≠ t))).map (a1A c (q.set t (q.getD t 0 - 1))) = ((List.range 256).filter (λ s=>(decide (0 < c.getD s 0)) && decide (s ≠ t))).map (a1A c q):=by
  refine List.map_congr_left λ s hs=>?_
  have hs2:=(List.mem_filter.1 hs).2
  have : s ≠ t:=by simp at hs2; exact hs2.2
  unfold a1A; rw [a3l _ _ _ _ (by omega),if_neg this]
 rw [e1,e2] at h4
 exact (hu.trans (h3.cons _)).trans h4.symm
open Go.IntWalk
structure GvRel (gq c B : Nat) (w : World) (qs : List Int) (p : Nat) (v : Value) (ys : List K3) (wr : World) : Prop where
 q : (Kd.int .i64).R 3 wr B (λ _=>True) (.slice (some ⟨gq,0,none⟩) 256 c) qs
 h : CKp p B wr v ys
 ne : p ≠ gq /\ v.ownBlock ≠ some gq
 heap : From lessC z3 ys 0 ys.length
 below : Below B w wr
 pB : B <= p
theorem GvRel.start {gq c B : Nat} {w : World} {qs : List Int} {l : Value} {xs : List K3} (hq : (Kd.int .i64).R 3 w B (λ _=>True) (.slice (some ⟨gq,0,none⟩) 256 c) qs)
    (hl : k3.R 253 w B (λ k=>k ≠ gq) l xs) (hB : B <= w.heap.size) :
    CKp w.heap.size B (w.alloc (.cells #[l] 251)) l xs /\ (Kd.int .i64).R 3 (w.alloc (.cells #[l] 251)) B (λ _=>True) (.slice (some ⟨gq,0,none⟩) 256 c) qs /\
     w.heap.size ≠ gq /\ l.ownBlock ≠ some gq /\ Below B w (w.alloc (.cells #[l] 251)):=by
 have h1:=Kd.R_lt hq gq rfl
 refine ⟨⟨a0i _ _,Kd.R_alloc (Kd.R_mono (Kd.R_bound hl) (λ k hk=>by have:=hk.2.2.1; omega)) _⟩,Kd.R_alloc hq _,by omega,λ e=>hl.1 gq e rfl,(Below.refl _ _).alloc hB _⟩
theorem GvRel.of_init {gq c B : Nat} {w w1 w2 : World} {qs : List Int} {p : Nat} {v : Value} {ys : List K3} (hq : (Kd.int .i64).R 3 w1 B (λ _=>True) (.slice (some ⟨gq,0,none⟩) 256 c) qs) (hp : p ≠ gq) (hv : v.ownBlock ≠ some gq) (hb : Below B w w1) (hB : B <= p) (hB1 : B <= w1.heap.size)
    (h : CKp p B w2 v ys) (hh : From lessC z3 ys 0 ys.length) (ho : Only (λ k=>v.ownBlock = some k) w1 w2) : GvRel gq c B w qs p v ys w2:=
 ⟨a2E rfl hq ho (λ k hk e=>hv (by rw [e,<- hk]; rfl)),h,⟨hp,hv⟩,hh,hb.trans (ho.below hB1 (λ k e=>Kd.R_base h.row k e)),hB⟩
theorem GvRel.popped {gq c B g n cap : Nat} {w w1 w2 : World} {qs : List Int} {p : Nat} {ys zs : List K3} (H : GvRel gq c B w qs p (.slice (some ⟨g,0,none⟩) (n + 1) cap) ys w1) (hB1 : B <= w1.heap.size)
    (h : CKp p B w2 (.slice (some ⟨g,0,none⟩) n cap) zs) (hh : From lessC z3 zs 0 n) (ho : Only (λ k=>k = p \/ k = g) w1 w2) : GvRel gq c B w qs p (.slice (some ⟨g,0,none⟩) n cap) zs w2:=by
 have hg : g ≠ gq:=λ e=>H.ne.2 (by rw [e]; rfl)
 have hn:=(Kd.R_reads' h.row).1
 exact ⟨a2E rfl H.q ho (λ k hk e=>by
  have hk' : gq = k:=by simpa [Value.ownBlock] using hk
  subst hk'
  rcases e with e | e
  · exact H.ne.1 e.symm
  · exact hg e.symm),h,⟨H.ne.1,λ e=>hg (by simpa [Value.ownBlock] using e)⟩,by rw [<- hn]; exact hh,
  H.below.trans (ho.below hB1 (λ k e=>by rcases e with e | e; exact e ▸ H.pB; exact e ▸ Kd.R_base h.row g rfl)),H.pB⟩
theorem GvRel.put {gq c B : Nat} {w w1 : World} {qs : List Int} {p : Nat} {v : Value} {ys : List K3} (H : GvRel gq c B w qs p v ys w1) (t : Nat) (y : Int) : GvRel gq c B w (qs.set t y) p v ys (w1.setCell ⟨gq,t,none⟩ (.int .i64 y)):=by
 have ho : Only (λ k=>k = gq) w1 (w1.setCell ⟨gq,t,none⟩ (.int .i64 y)):=(Only.refl _ _).set1 _ _
 have hr:=Kd.R_putn H.q (t : Int) y
 rw [Int.toNat_natCast] at hr
 refine ⟨hr,⟨a1r H.h.blk (p:=⟨gq,t,none⟩) H.ne.1 _,?_⟩,H.ne,H.heap,H.below.setCell (Kd.R_base H.q gq rfl) _,H.pB⟩
 exact Kd.R_mono (Kd.R_step (Kd.R_tight rfl H.h.row) (λ k hk hlt=>ho.block k hlt (λ e=>H.ne.2 (by rw [<- e]; exact hk.symm)))) (λ k hk=>H.h.row.1 k hk.symm)
theorem c6o {rest : List Int} {m : Nat} {st : List Int × List Bool} {t : Nat} (h : needN rest (a0V rest m st).2 256 = t) : a0V rest (m + 1) st = ((a0V rest m st).1.set t ((a0V rest m st).1.getD t 0 + 1),(a0V rest m st).2.set t true):=by
 simp only [a0V]; rw [h,Int.toNat_natCast]
structure GvNum (rest : List Int) (had : List Bool) (ys : List K3) (k : Nat) (st : List Int × List Bool) : Prop where
 ql : st.1.length = 256
 hl : st.2.length = 256
 rng : ∀ s,0 <= st.1.getD s 0 /\ st.1.getD s 0 <= 8192 + k
 free : freeN st.2 + k = freeN had
 perm : ys.Perm (candN rest st.2 256)
theorem GvNum.some {rest : List Int} {had : List Bool} {ys : List K3} {k : Nat} {st : List Int × List Bool} (h : GvNum rest had ys k st) (hk : k < freeN had) : 0 < ys.length:=by
 obtain ⟨s,hs,hf⟩:=a9s h.hl (by have:=h.free; omega)
 exact List.length_pos_of_mem (h.perm.symm.subset (b5N hs hf))
theorem GvNum.next {rest : List Int} {had : List Bool} {ys zs : List K3} {k t : Nat} {st : List Int × List Bool} (h : GvNum rest had ys k st) (ht : t < 256) (hf : st.2.getD t false = false) (hz : (a1L rest t :: zs).Perm ys) : GvNum rest had zs (k + 1) (st.1.set t (st.1.getD t 0 + 1),st.2.set t true):=by
 refine ⟨by simp [h.ql],by simp [h.hl],λ s=>?_,?_,c6k h.hl ht hf h.perm hz⟩
 · show 0 <= (st.1.set t (st.1.getD t 0 + 1)).getD s 0 /\ (st.1.set t (st.1.getD t 0 + 1)).getD s 0 <= 8192 + ((k + 1 : Nat) : Int)
   rw [a3l _ _ _ _ (by rw [h.ql]; exact ht)]
   have h1:=h.rng t; have h2:=h.rng s
   split <;> omega
 · have:=b4K (s:=t) (by rw [h.hl]; exact ht) hf
   have:=h.free
   show freeN (st.2.set t true) + (k + 1) = _
   omega
theorem c6p (a b c : Value) (w : World) : (Instr.field 253 (.agg #[a,b,c]) 0).run Tryz.prog w = .ok a w:=by kernel_rfl
def c6q (gq c B : Nat) (qs' : List Int) (w : World) (e : Ending) (w' : World) : Prop:=e = .returned (.tuple #[]) /\ (Kd.int .i64).R 3 w' B (λ _=>True) (.slice (some ⟨gq,0,none⟩) 256 c) qs' /\ Below B w w'
set_option maxRecDepth 100000 in
set_option maxHeartbeats 1000000 in
theorem c6r (gq c B : Nat) (qs : List Int) (l : Value) (rest : List Int) (had : List Bool) (m : Nat) (w : World) (hq : (Kd.int .i64).R 3 w B (λ _=>True) (.slice (some ⟨gq,0,none⟩) 256 c) qs)
    (hl : k3.R 253 w B (λ k=>k ≠ gq) l (candN rest had 256)) (hB : B <= w.heap.size) (hqs : qs.length = 256) (hhl : had.length = 256) (hr : ∀ s,0 <= qs.getD s 0 /\ qs.getD s 0 <= 8192) (hm : m <= freeN had) (hm2 : m <= 4096) :
    Calls Tryz.prog 235 #[.slice (some ⟨gq,0,none⟩) 256 c,l,.int .i64 m] w (c6q gq c B (a0V rest m (qs,had)).1 w):=by
 have HS:=Lib.hid (GvRel.start hq hl hB)
 have HM:=Lib.hid (And.intro hB (And.intro hqs (And.intro hhl (And.intro hr hm))))
 clear hq hl hB hqs hhl hr hm
 obtain ⟨A,cl,rfl⟩:=Kd.R_slice HS.out.1.row
 have ta:=b0c
 go_enter Tryz.func235,Tryz.ntmps235
 go_wp2_with fail
 refine (b5I _ HS.out.1 (by have:=b0g rest had 256; omega)).mono ?_
 rintro e w2 ⟨rfl,ys,h1,h2,h3,h4⟩
 have HI : Hid (GvRel gq c B w qs w.heap.size (.slice A (candN rest had 256).length cl) ys w2 /\ GvNum rest had ys 0 (qs,had)):=
  ⟨GvRel.of_init HS.out.2.1 HS.out.2.2.1 HS.out.2.2.2.1 HS.out.2.2.2.2 HM.out.1 (by simp; have:=HM.out.1; omega) h1 h3 h4,⟨HM.out.2.1,HM.out.2.2.1,λ s=>by have:=HM.out.2.2.2.1 s; show 0 <= qs.getD s 0 /\ qs.getD s 0 <= 8192 + ((0 : Nat) : Int); omega,rfl,h2⟩⟩
 clear h1 h2 h3 h4
 go_wp2_with fail
 go_loopw [9] (λ kv wr=>∃ (k : Nat) (v : Value) (ys : List K3),kv = .int .i64 k /\ k <= m /\ Hid (GvRel gq c B w (a0V rest k (qs,had)).1 w.heap.size v ys wr /\ GvNum rest had ys k (a0V rest k (qs,had)))) (λ kv _=>m - (intOf kv).toNat)
 case atStart=>exact ⟨0,_,ys,rfl,by omega,HI⟩
 case round=>
  obtain ⟨k,v,ys,rfl,hk,H⟩:=hrel
  by_cases hlt : k < m
  · have hpos:=H.out.2.some (by have:=HM.out.2.2.2.2; omega)
    obtain ⟨g,cap,rfl,-⟩:=Kd.R_form H.out.1.h.row hpos
    obtain ⟨t,ht1,ht2,ht3,ht4⟩:=c6j H.out.2.perm H.out.1.heap hpos
    obtain ⟨n,hn⟩ : ∃ n,ys.length = n + 1:=⟨ys.length - 1,by omega⟩
    rw [hn] at H
    have hn6 : n <= 100000:=by have:=H.out.2.perm.length_eq; have:=b0g rest (a0V rest k (qs,had)).2 256; omega
    have HT:=Lib.hid (And.intro ht1 (And.intro ht2 (And.intro ht3 (And.intro ht4 hn))))
    have HBr : Hid (B <= wr.heap.size):=Nat.le_trans HM.out.1 H.out.1.below.size
    clear ht1 ht3 ht4 hn hpos
    go_wp2_with fail
    refine (b5H ordC _ H.out.1.h hn6 (λ _ _=>trivial) (by have:=H.out.1.heap; rw [HT.out.2.2.2.2] at this; exact this)).mono ?_
    rintro e w3 ⟨rfl,zs,h1,h2,h3,h4⟩
    have H3 : Hid (GvRel gq c B w (a0V rest k (qs,had)).1 w.heap.size (.slice (some ⟨g,0,none⟩) n cap) zs w3):=GvRel.popped H.out.1 HBr.out h1 h3 h4
    rw [HT.out.2.2.2.1] at h2 ⊢
    have HZ:=Lib.hid (GvNum.next H.out.2 ht2 HT.out.2.2.1 h2)
    clear h1 h2 h3 h4
    obtain ⟨hc3,hf3⟩:=a1D H3.out.q t ht2
    obtain ⟨hy0,hy1⟩:=H.out.2.rng t
    obtain ⟨y,hy⟩ : ∃ y,y = (a0V rest k (qs,had)).1.getD t 0:=⟨_,rfl⟩
    rw [<- hy] at hc3 hy0 hy1
    have HY:=Lib.hid hy
    have ht256 : (t : Int) < 256:=by omega
    clear hy
    simp only [a1L]
    obtain ⟨z,hz⟩ : ∃ z,z = rest.getD t 0:=⟨_,rfl⟩
    rw [<- hz]
    have fd:=c6p (.int .i64 t) (.int .i64 z) (.int .i64 0)
    clear hz
    go_wp2_with fail
    go_roundw
    case rel=>
     have hg:=c6o (st:=(qs,had)) HT.out.1
     refine ⟨k + 1,.slice (some ⟨g,0,none⟩) n cap,zs,by go_num,by omega,?_⟩
     rw [hg,<- HY.out]
     exact ⟨H3.out.put t (y + 1),by rw [HY.out]; exact HZ.out⟩
    case measure=>simp [intOf]; omega
  · have hkm : k = m:=by omega
    subst hkm
    go_wp2_with fail
    go_end0
    exact ⟨rfl,H.out.1.q,H.out.1.below⟩
structure TkRel (gq cq B : Nat) (W0 : World) (qs : List Int) (p : Nat) (v : Value) (ys : List K3) (wr : World) : Prop where
 q : (Kd.int .i64).R 3 wr B (λ _=>True) (.slice (some ⟨gq,0,none⟩) 256 cq) qs
 h : CKp p B wr v ys
 ne : p ≠ gq /\ v.ownBlock ≠ some gq
 below : Below B W0 wr
 pB : B <= p
theorem TkRel.start {gq cq B : Nat} {W0 w : World} {qs : List Int} (hq : (Kd.int .i64).R 3 w B (λ _=>True) (.slice (some ⟨gq,0,none⟩) 256 cq) qs) (hb : Below B W0 w) (hB : B <= w.heap.size) :
    TkRel gq cq B W0 qs w.heap.size (.slice none 0 0) [] (w.alloc (.cells #[.slice none 0 0] 251)):=by
 have h1:=Kd.R_lt hq gq rfl
 exact ⟨Kd.R_alloc hq _,⟨a0i _ _,Kd.R_nil _ _ _ _ _⟩,⟨by omega,by simp [Value.ownBlock]⟩,hb.alloc hB _,hB⟩
theorem TkRel.app {gq cq B : Nat} {W0 W wa : World} {qs : List Int} {p : Nat} {v v1 : Value} {ys zs : List K3} (H : TkRel gq cq B W0 qs p v ys W) (hB : B <= W.heap.size) (hr : k3.R 253 wa B (λ k=>k ≠ p) v1 zs) (hg : W.grownBy wa v.ownBlock)
    (hat : v1.ownBlock = v.ownBlock \/ ∃ b,v1.ownBlock = some b /\ W.heap.size <= b) : TkRel gq cq B W0 qs p v1 zs (wa.setCell ⟨p,0,none⟩ v1):=by
 have hpv : some p ≠ v.ownBlock:=λ e=>H.h.row.1 p e.symm rfl
 have hgl:=Kd.R_lt H.q gq rfl
 have hb1:=a1e H.h.blk hg hpv
 have hne1 : v1.ownBlock ≠ some gq:=λ e=>by
  rcases hat with h | ⟨b,h,hle⟩
  · exact H.ne.2 (by rw [<- h]; exact e)
  · rw [h] at e; injection e with e; omega
 have h1:=Kd.R_grown1 H.q rfl hg H.ne.2
 have ho : Only (λ k=>k = p) wa (wa.setCell ⟨p,0,none⟩ v1):=(Only.refl _ _).set1 _ _
 refine ⟨a2E rfl h1 ho (λ k hk e=>H.ne.1 (by rw [<- e]; simpa [Value.ownBlock] using hk.symm)),⟨a0x hb1 0 _,Kd.R_far (p:=⟨p,0,none⟩) hr (λ k hk=>hk) _⟩,⟨H.ne.1,hne1⟩,?_,H.pB⟩
 exact (c0c H.below hg (λ k hk=>Kd.R_base H.h.row k hk) hB).setCell H.pB _
theorem GvRel.alloc {gq c B : Nat} {w : World} {qs : List Int} {p : Nat} {v : Value} {ys : List K3} {wr : World} (H : GvRel gq c B w qs p v ys wr) (hB : B <= wr.heap.size) (o : Obj) : GvRel gq c B w qs p v ys (wr.alloc o):=
 ⟨Kd.R_alloc H.q o,H.h.below ((Below.refl _ _).alloc (Nat.le_refl _) o),H.ne,H.heap,H.below.alloc hB o,H.pB⟩
theorem GvRel.far {gq c B : Nat} {w : World} {qs : List Int} {p : Nat} {v : Value} {ys : List K3} {wr : World} (H : GvRel gq c B w qs p v ys wr) {g : Nat} (h1 : g ≠ gq) (h2 : p ≠ g) (h3 : v.ownBlock ≠ some g) (hB : B <= g) (j : Nat) (u : Value) : GvRel gq c B w qs p v ys (wr.setCell ⟨g,j,none⟩ u):=by
 have ho : Only (λ k=>k = g) wr (wr.setCell ⟨g,j,none⟩ u):=(Only.refl _ _).set1 _ _
 refine ⟨a2E rfl H.q ho (λ k hk e=>h1 (by rw [<- e]; simpa [Value.ownBlock] using hk.symm)),⟨a1r H.h.blk (p:=⟨g,j,none⟩) h2 _,?_⟩,H.ne,H.heap,H.below.setCell hB _,H.pB⟩
 exact Kd.R_mono (Kd.R_step (Kd.R_tight rfl H.h.row) (λ k hk hlt=>ho.block k hlt (λ e=>h3 (by rw [<- e]; exact hk.symm)))) (λ k hk=>H.h.row.1 k hk.symm)
theorem GvRel.pushed {gq c B : Nat} {w w1 w2 : World} {qs : List Int} {p : Nat} {v v' : Value} {ys zs : List K3} (H : GvRel gq c B w qs p v ys w1) (hB : B <= w1.heap.size) (h : CKp p B w2 v' zs) (hh : From lessC z3 zs 0 zs.length)
    (hat : v'.ownBlock = v.ownBlock \/ ∃ b,v'.ownBlock = some b /\ w1.heap.size <= b) (ho : Only (λ k=>k = p \/ v.ownBlock = some k) w1 w2) : GvRel gq c B w qs p v' zs w2:=by
 have hgl:=Kd.R_lt H.q gq rfl
 refine ⟨a2E rfl H.q ho (λ k hk e=>?_),h,⟨H.ne.1,λ e=>?_⟩,hh,H.below.trans (ho.below hB (λ k e=>?_)),H.pB⟩
 · have hk' : gq = k:=by simpa [Value.ownBlock] using hk
   subst hk'
   rcases e with e | e
   · exact H.ne.1 e.symm
   · exact H.ne.2 e
 · rcases hat with h | ⟨b,h,hle⟩
   · exact H.ne.2 (by rw [<- h]; exact e)
   · rw [h] at e; injection e with e; omega
 · rcases e with e | e
   · exact e ▸ H.pB
   · exact Kd.R_base H.h.row k e
theorem c6s (c : List Int) (m : Nat) (q : List Int) : a0R c (m + 1) q = (a0R c m q).set (richN (a0R c m q) c 256) ((a0R c m q).getD (richN (a0R c m q) c 256) 0 - 1):=rfl
def b0i (c q : List Int) (m : Nat) : Prop:=∀ k,k <= m -> (a0R c k q).length = 256 /\ (∀ s,0 <= (a0R c k q).getD s 0 /\ (a0R c k q).getD s 0 <= 100000) /\ ∀ s,0 < (a0R c k q).getD s 0 ↔ 0 < c.getD s 0
def b5R (gq cq B : Nat) (qs' : List Int) (W0 : World) (e : Ending) (w' : World) : Prop:=e = .returned (.tuple #[]) /\ (Kd.int .i64).R 3 w' B (λ _=>True) (.slice (some ⟨gq,0,none⟩) 256 cq) qs' /\ Below B W0 w'
set_option maxRecDepth 100000 in
set_option maxHeartbeats 2000000 in
theorem c6t (gq cq cc : Nat) (A : Option Addr) (W0 : World) (qs c : List Int) (m : Nat) (w : World) (hq : (Kd.int .i64).R 3 w W0.heap.size (λ _=>True) (.slice (some ⟨gq,0,none⟩) 256 cq) qs)
    (hc : (Kd.int .i64).C W0 A 256 c) (hb : Below W0.heap.size W0 w) (hcl : c.length = 256) (hcr : ∀ s,0 <= c.getD s 0 /\ c.getD s 0 <= 1073741824) (hok : b0i c qs m) (hm2 : m <= 2000000) (hpos : 0 < m -> ∃ s,s < 256 /\ 0 < c.getD s 0) :
    Calls Tryz.prog 236 #[.slice (some ⟨gq,0,none⟩) 256 cq,.slice A 256 cc,.int .i64 m] w (b5R gq cq W0.heap.size (a0R c m qs) W0):=by
 have HQ:=Lib.hid hq
 have HC:=Lib.hid (And.intro hc (And.intro hcl hcr))
 have HO:=Lib.hid hok
 have HP:=Lib.hid hpos
 have HB:=Lib.hid hb
 have HI : Hid (TkRel gq cq W0.heap.size W0 qs w.heap.size (.slice none 0 0) [] (w.alloc (.cells #[.slice none 0 0] 251))):=TkRel.start hq hb hb.size
 clear hq hc hb hcl hcr hok hpos
 go_enter Tryz.func236,Tryz.ntmps236
 go_wp2_with fail
 go_loopw [12] (λ kv wr=>∃ (k : Nat) (v : Value),kv = .int .i64 k /\ k <= 256 /\ Hid (TkRel gq cq W0.heap.size W0 qs w.heap.size v (candT c qs k) wr)) (λ kv _=>256 - (intOf kv).toNat)
 case atStart=>exact ⟨0,_,rfl,by omega,HI⟩
 case round=>
  obtain ⟨k,v,rfl,hk,H⟩:=hrel
  by_cases hlt : k < 256
  · obtain ⟨hqc,-⟩:=a1D H.out.q k hlt
    obtain ⟨y,hy⟩ : ∃ y,y = qs.getD k 0:=⟨_,rfl⟩
    rw [<- hy] at hqc
    have hy2:=(HO.out 0 (Nat.zero_le _)).2.1 k
    have hyc:=(HO.out 0 (Nat.zero_le _)).2.2 k
    simp only [a0R] at hy2 hyc
    rw [<- hy] at hy2 hyc
    obtain ⟨hy0,hy1⟩:=hy2
    have HY:=Lib.hid (And.intro hy hyc)
    clear hy hyc
    by_cases hpos : 0 < y
    · obtain ⟨ad,rfl,hcc⟩:=a0y HC.out.1 k hlt
      obtain ⟨z,hz⟩ : ∃ z,z = c.getD k 0:=⟨_,rfl⟩
      obtain ⟨hz0,hz1⟩:=HC.out.2.2 k
      rw [<- hz] at hcc hz0 hz1
      have hcw:=a0s H.out.below hcc
      have hcw2 : (wr.alloc (.cells #[.int .i64 k,.int .i64 y,.int .i64 (IntKind.i64.wrap (IntKind.i64.wrap (IntKind.i64.wrap (1073741824 - z) * 256) + (k : Int)))] 253)).cell? (ad.add k) = some (.int .i64 z):=a0s ((Below.refl _ _).alloc (Nat.le_refl _) _) hcw
      have HZ:=Lib.hid hz
      have HE : Hid (IntKind.i64.wrap (IntKind.i64.wrap (IntKind.i64.wrap (1073741824 - z) * 256) + (k : Int)) = (1073741824 - z) * 256 + k):=by
       show _ = _
       rw [i64_in (1073741824 - z) (by omega),i64_in ((1073741824 - z) * 256) (by omega),i64_in ((1073741824 - z) * 256 + (k : Int)) (by omega)]
      clear hz hcc
      have hpc:=H.out.h.cell
      have hpf:=a0e H.out.h.blk 0
      have hpl:=a0f H.out.h.blk
      have hpn : ¬ w.heap.size = wr.heap.size:=by omega
      have hpn' : ¬ wr.heap.size = w.heap.size:=by omega
      have hfr : Hid (∀ k,wr.heap.size <= k -> k ≠ w.heap.size):=λ k hk e=>by omega
      have HL : Hid (((candT c qs k).length + 1) * 24 <= 140737488355328):=by show _ <= _; have:=b0h c qs k; omega
      have HN : Hid (some w.heap.size ≠ v.ownBlock):=λ e=>H.out.h.row.1 _ e.symm rfl
      have HBr : Hid (W0.heap.size <= wr.heap.size):=H.out.below.size
      go_wp2_with fail
      go_region_law (first | (refine a5n k3 (w0:=W0) (W:=wr) W0.heap.size rfl (.tmp 19) (.tmp 31) 251 253 _ 24 rfl Tryz.underlying251 b0b rfl (by decide) (by decide) v (candT c qs k) ((k : Int),y,IntKind.i64.wrap (IntKind.i64.wrap (IntKind.i64.wrap (1073741824 - z) * 256) + (k : Int))) [.int .i64 k,.int .i64 y,.int .i64 (IntKind.i64.wrap (IntKind.i64.wrap (IntKind.i64.wrap (1073741824 - z) * 256) + (k : Int)))] (λ k=>k ≠ w.heap.size) (λ _=>False) rfl rfl (a5r _ _ _ _) (λ _ h=>h.elim) hfr.out H.out.h.row H.out.below HBr.out HL.out ?_; intro v1 w1 hr1 hb1 hg1 hat1; have hb2:=a1e H.out.h.blk hg1 HN.out; have hc2 : w1.cell? ⟨w.heap.size,0,none⟩ = some v:=(a0a hb2 0).trans rfl; have hf2:=a0e hb2 0; have HT:=Lib.hid (TkRel.app H.out HBr.out hr1 hg1 hat1); obtain ⟨A1,c1,rfl⟩:=Kd.R_slice hr1; simp only [List.length_append,List.length_singleton] at HT; clear hr1 hb1 hg1 hat1) | fail)
      all_goals
       go_wp2_with fail
       go_roundw
       case rel=>
        refine ⟨k + 1,.slice A1 ((candT c qs k).length + 1) c1,by go_num,by omega,?_⟩
        rw [b5J,if_pos (HY.out.2.1 hpos)]
        unfold a1A
        rw [<- HY.out.1,<- HZ.out,<- HE.out]
        exact HT.out
       case measure=>simp [intOf]; omega
    · go_wp2_with fail
      go_roundw
      case rel=>
       refine ⟨k + 1,v,by go_num,by omega,?_⟩
       rw [b5J,if_neg (λ h=>hpos (HY.out.2.2 h))]
       exact H.out
      case measure=>simp [intOf]; omega
  · obtain rfl : k = 256:=by omega
    obtain ⟨A1,c1,rfl⟩:=Kd.R_slice H.out.h.row
    have ta:=b0c
    go_wp2_with fail
    refine (b5I _ H.out.h (by have:=b0h c qs 256; omega)).mono ?_
    rintro e w2 ⟨rfl,ys,h1,h2,h3,h4⟩
    have HI2 : Hid (GvRel gq cq W0.heap.size W0 qs w.heap.size (.slice A1 (candT c qs 256).length c1) ys w2 /\ ys.Perm (candT c qs 256)):=
     ⟨GvRel.of_init H.out.q H.out.ne.1 H.out.ne.2 H.out.below H.out.pB H.out.below.size h1 h3 h4,h2⟩
    clear h1 h2 h3 h4 H
    go_wp2_with fail
    go_loopw [37] (λ kv wr=>∃ (k : Nat) (v : Value) (ys : List K3),kv = .int .i64 k /\ k <= m /\ Hid (GvRel gq cq W0.heap.size W0 (a0R c k qs) w.heap.size v ys wr /\ ys.Perm (candT c (a0R c k qs) 256))) (λ kv _=>m - (intOf kv).toNat)
    case atStart=>exact ⟨0,_,ys,rfl,by omega,HI2⟩
    case round=>
     obtain ⟨k,v,ys,rfl,hk,H⟩:=hrel
     by_cases hlt : k < m
     · obtain ⟨hql,hqr,hqi⟩:=HO.out k hk
       have hpos : 0 < ys.length:=by
        obtain ⟨s,hs,hsp⟩:=HP.out (by omega)
        exact List.length_pos_of_mem (H.out.2.symm.subset (b5Q hs hsp))
       obtain ⟨g,cap,rfl,-⟩:=Kd.R_form H.out.1.h.row hpos
       obtain ⟨t,ht⟩ : ∃ t,t = richN (a0R c k qs) c 256:=⟨_,rfl⟩
       obtain ⟨ht1,ht2,ht3⟩:=c6m hqi H.out.2 H.out.1.heap hpos
       rw [<- ht] at ht1 ht2 ht3
       obtain ⟨n,hn⟩ : ∃ n,ys.length = n + 1:=⟨ys.length - 1,by omega⟩
       rw [hn] at H
       have hn6 : n <= 100000:=by have:=H.out.2.length_eq; have:=b0h c (a0R c k qs) 256; omega
       have HT:=Lib.hid (And.intro ht (And.intro ht1 (And.intro ht2 (And.intro ht3 hn))))
       have HBr : Hid (W0.heap.size <= wr.heap.size):=H.out.1.below.size
       obtain ⟨hy0,hy1⟩:=hqr t
       have HQL:=Lib.hid (And.intro hql hqi)
       have hct:=(HC.out.2.2 t)
       clear ht ht2 ht3 hn hpos hqr hql hqi
       go_wp2_with fail
       refine (b5H ordC _ H.out.1.h hn6 (λ _ _=>trivial) (by have:=H.out.1.heap; rw [HT.out.2.2.2.2] at this; exact this)).mono ?_
       rintro e w3 ⟨rfl,zs,h1,h2,h3,h4⟩
       have H3 : Hid (GvRel gq cq W0.heap.size W0 (a0R c k qs) w.heap.size (.slice (some ⟨g,0,none⟩) n cap) zs w3):=GvRel.popped H.out.1 HBr.out h1 h3 h4
       rw [HT.out.2.2.2.1] at h2 ⊢
       have HZ:=Lib.hid h2
       clear h1 h2 h3 h4
       obtain ⟨hc3,hf3⟩:=a1D H3.out.q t ht1
       obtain ⟨y,hy⟩ : ∃ y,y = (a0R c k qs).getD t 0:=⟨_,rfl⟩
       have HY:=Lib.hid hy
       simp only [a1A]
       rw [<- hy] at hc3 hy0 hy1 ⊢
       obtain ⟨z,hz⟩ : ∃ z,z = (1073741824 - c.getD t 0) * 256 + (t : Int):=⟨_,rfl⟩
       rw [<- hz]
       have HZ2:=Lib.hid hz
       clear hy hz
       have hgl : gq < w3.heap.size:=Kd.R_lt H3.out.q gq rfl
       have hg1 : ¬ gq = w3.heap.size:=by omega
       have hg2 : ¬ w3.heap.size = gq:=by omega
       have ht256 : (t : Int) < 256:=by omega
       go_wp2_with fail
       have H4 : Hid (GvRel gq cq W0.heap.size W0 ((a0R c k qs).set t (y - 1)) w.heap.size (.slice (some ⟨g,0,none⟩) n cap) zs ((w3.setCell ⟨gq,t,none⟩ (.int .i64 (y - 1))).alloc (.cells #[.int .i64 t,.int .i64 (y - 1),.int .i64 z] 253))):=
        (H3.out.put t (y - 1)).alloc (H3.out.put t (y - 1)).below.size _
       have hzl : zs.length = n:=by have:=HZ.out.length_eq; rw [HT.out.2.2.2.2] at this; simpa using this
       refine (c6g ordC ((t : Int),y - 1,z) _ H4.out.h H4.out.below.size (by omega) (λ _ _=>trivial) trivial H4.out.heap).mono ?_
       rintro e w5 ⟨rfl,v',us,h1,h2,h3,h4,h5⟩
       have H5 : Hid (GvRel gq cq W0.heap.size W0 (a0R c (k + 1) qs) w.heap.size v' us w5 /\ us.Perm (candT c (a0R c (k + 1) qs) 256)):=by
        have e:=c6s c k qs
        rw [<- HT.out.1,<- HY.out] at e
        refine ⟨by rw [e]; exact H4.out.pushed H4.out.below.size h1 h3 h4 h5,?_⟩
        rw [e,HY.out]
        refine c6n HQL.out.1 ht1 HT.out.2.2.1 H.out.2 HZ.out ?_
        rw [<- HY.out,<- HZ2.out]
        exact h2
       clear h1 h2 h3 h4 h5
       go_wp2_with fail
       go_roundw
       case rel=>exact ⟨k + 1,v',us,by go_num,by omega,H5⟩
       case measure=>simp [intOf]; omega
     · have hkm : k = m:=by omega
       subst hkm
       go_wp2_with fail
       go_end0
       exact ⟨rfl,H.out.1.q,H.out.1.below⟩
theorem c6u (gq cq cc : Nat) (A : Option Addr) (W0 : World) (B : Nat) (hB : B = W0.heap.size) (qs c : List Int) (m : Nat) (w : World) (hq : (Kd.int .i64).R 3 w B (λ _=>True) (.slice (some ⟨gq,0,none⟩) 256 cq) qs)
    (hc : (Kd.int .i64).C W0 A 256 c) (hb : Below B W0 w) (hcl : c.length = 256) (hcr : ∀ s,0 <= c.getD s 0 /\ c.getD s 0 <= 1073741824) (hok : b0i c qs m) (hm2 : m <= 2000000) (hpos : 0 < m -> ∃ s,s < 256 /\ 0 < c.getD s 0) :
    Calls Tryz.prog 236 #[.slice (some ⟨gq,0,none⟩) 256 cq,.slice A 256 cc,.int .i64 m] w (b5R gq cq B (a0R c m qs) W0):=by
 subst hB; exact c6t gq cq cc A W0 qs c m w hq hc hb hcl hcr hok hm2 hpos
end Go.Proofs.YtflfjpkmjnnodaaGreat
namespace Go.Proofs.YtflfjpkmjnnodaaGreat
open Go.RowKit Go.IntWalk Go.Proofs.YtflfjpkmjnnodaaGreatW.PrintWords Go.Proofs.YtflfjpkmjnnodaaGreatW.PrintLast Go.Proofs.YtflfjpkmjnnodaaGreatW.PrintMore
set_option maxRecDepth 100000 in
set_option maxHeartbeats 400000 in
theorem a5M (A : Option Addr) (cp : Nat) (c : List Int) (w : World) (hr : (Kd.int .i64).C w A c.length c) (hR : a0P c = true) :
    Calls Tryz.prog 190 #[.slice A c.length cp] w λ e w'=>e = .returned (.int .i64 (manyC c)) /\ w = w':=by
 have hm:=hr.2.1
 have HR:=Lib.hid (And.intro hr hR)
 clear hr hR
 go_enter Tryz.func190,Tryz.ntmps190
 go_wp2_with fail
 go_loop [3,8] (λ mv kv=>∃ (k pc : Nat),mv = .int .i64 pc /\ kv = .int .i64 k /\ k <= c.length /\ pc <= k /\ Hid (pc = posC c k)) (λ _ kv=>c.length - (intOf kv).toNat)
 case atStart=>exact ⟨0,0,rfl,rfl,by omega,by omega,by show _ = _; simp [posC]⟩
 case round=>
  obtain ⟨k,pc,rfl,rfl,hk,hpc,H⟩:=hrel
  by_cases hlt : k < c.length
  · obtain ⟨ad,rfl,hcell⟩:=a0y HR.out.1 k hlt
    obtain ⟨x,hx⟩ : ∃ x,x = c.getD k 0:=⟨_,rfl⟩
    rw [<- hx] at hcell
    have HX:=Lib.hid hx
    clear hx
    by_cases h0 : 0 < x
    · have HP : Hid (pc + 1 = posC c (k + 1)):=by show _ = _; rw [a7i _ _ hlt,<- HX.out,if_pos h0,<- H.out]
      go_wp2_with fail
      refine (a8G _ _ _ _ HR.out.1).mono ?_
      rintro e w' ⟨rfl,rfl⟩
      rw [HR.out.2]
      go_wp2_with fail
      go_round
      case rel=>exact ⟨k + 1,pc + 1,by go_num,by go_num,by omega,by omega,HP⟩
      case measure=>simp [intOf]; omega
    · have HP : Hid (pc = posC c (k + 1)):=by show _ = _; rw [a7i _ _ hlt,<- HX.out,if_neg h0,<- H.out]; rfl
      go_wp2_with fail
      go_round
      case rel=>exact ⟨k + 1,pc,rfl,by go_num,by omega,by omega,HP⟩
      case measure=>simp [intOf]; omega
  · obtain rfl : k = c.length:=by omega
    have HE : Hid (pc = manyC c):=by
     show _ = _; rw [H.out]; unfold posC manyC; rw [if_pos HR.out.2,List.take_length]
    go_wp2_with fail
    go_ret
    exact ⟨a1G (by rw [HE.out]),rfl⟩
set_option maxRecDepth 100000 in
theorem c6v (n : Nat) (w : World) (h : n <= 1000000) : Calls Tryz.prog 194 #[.int .i64 n] w λ e w'=>e = .returned (.int .i64 (ceilI n)) /\ w = w':=by
 by_cases h2 : n < 2
 · have HE : Hid (ceilI n = 0):=by
     show _ = _
     have : n = 0 \/ n = 1:=by omega
     rcases this with rfl | rfl <;> rfl
   go_enter Tryz.func194,Tryz.ntmps194
   go_wp2_with fail
   go_ret
   exact ⟨a1G (by rw [HE.out]; rfl),rfl⟩
 · go_enter Tryz.func194,Tryz.ntmps194
   go_wp2_with fail
   refine (a5u _ _ (by omega)).mono ?_
   rintro e w' ⟨rfl,rfl⟩
   go_wp2_with fail
   go_ret
   exact ⟨rfl,rfl⟩
theorem b5S (a b : Int) : mx a b = max a b:=by unfold mx; split <;> omega
theorem c6w (a b : Int) : mn a b = min a b:=by unfold mn; split <;> omega
set_option maxRecDepth 100000 in
theorem c6x (first x y : Int) (A : Option Addr) (cp : Nat) (w : World) (hr : (Kd.int .i64).C w A 2 [x,y]) :
    Calls Tryz.prog 192 #[.int .i64 first,.slice A 2 cp] w λ e w'=>e = .returned (.int .i64 (mx (mx first x) y)) /\ w = w':=by
 obtain ⟨ad,rfl,hc⟩:=a5o hr (by decide)
 have h0:=hc 0 (by decide)
 have h1:=hc 1 (by decide)
 simp only [List.getD_cons_zero,List.getD_cons_succ] at h0 h1
 rw [show ad.add 0 = ad from rfl] at h0
 clear hc hr
 have h2 : w.cell? ⟨ad.block,ad.off + 1,none⟩ = some (.int .i64 y):=by rw [<- h1]; simp [Addr.add]
 clear h1
 go_enter Tryz.func192,Tryz.ntmps192
 go_wp2_with fail
 go_loop [0,9] (λ mv kv=>(mv = .int .i64 first /\ kv = .int .i64 0) \/ (mv = .int .i64 (max first x) /\ kv = .int .i64 1) \/ (mv = .int .i64 (max (max first x) y) /\ kv = .int .i64 2)) (λ _ kv=>2 - (intOf kv).toNat)
 case atStart=>exact .inl ⟨rfl,rfl⟩
 case round=>
  rcases hrel with ⟨rfl,rfl⟩ | ⟨rfl,rfl⟩ | ⟨rfl,rfl⟩
  · go_wp2_with fail
    go_round
    case rel=>exact .inr (.inl ⟨rfl,rfl⟩)
    case measure=>simp [intOf]
  · go_wp2_with fail
    go_round
    case rel=>exact .inr (.inr ⟨by rw [Int.max_assoc],rfl⟩)
    case measure=>simp [intOf]
  · go_wp2_with fail
    go_ret
    exact ⟨a1G (by rw [b5S,b5S,Int.max_assoc]),rfl⟩
theorem c6y {W : World} (x y : Int) {ok : Nat -> Prop} (hok : ok W.heap.size) (base : Nat) (hb : base <= W.heap.size) : (Kd.int .i64).R 3 (W.alloc (.cells #[.int .i64 x,.int .i64 y] 3)) base ok (.slice (some ⟨W.heap.size,0,none⟩) 2 2) [x,y]:=by
 refine ⟨λ k hk=>by cases hk; exact hok,[.int .i64 x,.int .i64 y],⟨rfl,.inr ⟨W.heap.size,2,#[.int .i64 x,.int .i64 y],by simp,hb,a0i W _,by simp,by unfold maxLen; omega,rfl,rfl⟩⟩,?_⟩
 refine Reps.snoc (ps:=[x]) (cs:=[.int .i64 x]) (p:=y) (c:=[.int .i64 y]) (Reps.snoc (ps:=[]) (cs:=[]) (p:=x) (c:=[.int .i64 x]) (Reps.none _ _) ?_ rfl) ?_ rfl
 · rfl
 · rfl
set_option maxRecDepth 100000 in
theorem b5T (n m : Nat) (most : Int) (w : World) (hn : n <= 1000000) (hm : m <= 1000000) :
    Calls Tryz.prog 143 #[.int .i64 n,.int .i64 m,.int .i64 most] w λ e w'=>e = .returned (.int .i64 (pickI n m most)) /\ Below w.heap.size w w':=by
 have hf:=b4G n (by omega)
 obtain ⟨f,hf1⟩ : ∃ f,f = a0n (n : Int):=⟨_,rfl⟩
 rw [<- hf1] at hf
 have H:=Lib.hid hf1
 clear hf1
 have HC : Hid (∀ W : World,(Kd.int .i64).C (W.alloc (.cells #[.int .i64 5,.int .i64 (ceilI m)] 3)) (some ⟨W.heap.size,0,none⟩) 2 [5,(ceilI m : Int)]):=λ W=>by
  have:=c6y (W:=W) 5 (ceilI m : Int) (ok:=λ _=>True) trivial W.heap.size (Nat.le_refl _)
  exact (Kd.R_reads' this).2.2
 go_enter Tryz.func143,Tryz.ntmps143
 go_wp2_with fail
 refine (a6J _ _ (by omega)).mono ?_
 rintro e w' ⟨rfl,rfl⟩
 rw [<- H.out]
 go_wp2_with fail
 refine (c6v _ _ hm).mono ?_
 rintro e w' ⟨rfl,rfl⟩
 go_wp2_with fail
 refine (c6x _ _ _ _ _ _ (HC.out _)).mono ?_
 rintro e w' ⟨rfl,rfl⟩
 go_wp2_with fail
 go_ret
 refine ⟨a1G ?_,(Below.refl _ _).alloc (Nat.le_refl _) _⟩
 unfold pickI
 rw [<- H.out,c6w]
end Go.Proofs.YtflfjpkmjnnodaaGreat
namespace Go.Proofs.YtflfjpkmjnnodaaGreat
open Go.RowKit Go.IntWalk Go.Proofs.YtflfjpkmjnnodaaGreatW.PrintWords HeapL
structure CnRel (N : Nat) (w0 : World) (c : List Int) (P n : Int) (k : Nat) (v : Value) (S : Int) (w : World) : Prop where
 q : (Kd.int .i64).R 3 w N (λ _=>True) (.slice (some ⟨N,0,none⟩) 256 256) (qTo c P n k)
 l : k3.R 253 w N (λ b=>b ≠ N) v (candN (restL c P n) (hadL c P n) k)
 below : Below N w0 w
 sum : S = (qTo c P n k).sum
 rng : 0 <= S /\ S <= 4096 * k
theorem c6z (c : List Int) (P n : Int) {k : Nat} (hk : k < 256) : (hadL c P n).getD k false = decide (c.getD k 0 * P / n = 0):=by
 unfold hadL; rw [List.getD_eq_getElem?_getD,List.getElem?_map,List.getElem?_range hk]; rfl
theorem b5U (c : List Int) (P n : Int) {k : Nat} (hk : k < 256) : qTo c P n (k + 1) = (qTo c P n k).set k (q0F c P n k):=(a7s (q0F c P n) hk).symm
theorem c6A (c : List Int) (P n : Int) {k : Nat} (hk : k < 256) : (qTo c P n k).getD k 0 = 0:=by unfold qTo; rw [a4j _ hk,if_neg (by omega)]
theorem c6B (c : List Int) (P n : Int) {k : Nat} (hk : k < 256) : (qTo c P n (k + 1)).sum = (qTo c P n k).sum + q0F c P n k:=by
 rw [b5U c P n hk,a7o _ _ _ (by unfold qTo; rw [a1E]; exact hk)]
 have : (qTo c P n k).getD k 0 = 0:=by unfold qTo; rw [a4j _ hk,if_neg (by omega)]
 omega
theorem CnRel.next {N : Nat} {w0 wr wr' : World} {c : List Int} {P n : Int} {k : Nat} {v v' : Value} {S y : Int} (H : CnRel N w0 c P n k v S wr) (hk : k < 256) (hq : (Kd.int .i64).R 3 wr' N (λ _=>True) (.slice (some ⟨N,0,none⟩) 256 256) ((qTo c P n k).set k y))
    (hl : k3.R 253 wr' N (λ b=>b ≠ N) v' (candN (restL c P n) (hadL c P n) (k + 1))) (hb : Below N w0 wr') (hy : y = q0F c P n k) (hy2 : 0 <= y /\ y <= 4096) : CnRel N w0 c P n (k + 1) v' (S + y) wr':=by
 have hs:=H.sum; have hr:=H.rng
 refine ⟨by rw [b5U c P n hk,<- hy]; exact hq,hl,hb,by rw [c6B c P n hk,<- hy,hs],by omega,by omega⟩
theorem CnRel.far {N : Nat} {w0 wr : World} {c : List Int} {P n : Int} {k : Nat} {v : Value} {S : Int} (H : CnRel N w0 c P n k v S wr) (j : Nat) (y : Int) :
    (Kd.int .i64).R 3 (wr.setCell ⟨N,j,none⟩ (.int .i64 y)) N (λ _=>True) (.slice (some ⟨N,0,none⟩) 256 256) ((qTo c P n k).set j y) /\ k3.R 253 (wr.setCell ⟨N,j,none⟩ (.int .i64 y)) N (λ b=>b ≠ N) v (candN (restL c P n) (hadL c P n) k) /\ Below N w0 (wr.setCell ⟨N,j,none⟩ (.int .i64 y)):=by
 have:=Kd.R_putn H.q (j : Int) y
 rw [Int.toNat_natCast] at this
 exact ⟨this,Kd.R_far (p:=⟨N,j,none⟩) H.l (λ k hk=>hk) _,H.below.setCell (Nat.le_refl _) _⟩
theorem b5V : ∀ {l : List Int},(∀ x ∈ l,x = 0) -> l.sum = 0
 | [],_=>rfl
 | a :: l,h=>by rw [List.sum_cons,h a (by simp),b5V (λ x hx=>h x (by simp [hx]))]; rfl
theorem c6C {c : List Int} {r : Nat} (h : Can c r) : ∃ s,s < 256 /\ 0 < c.getD s 0:=by
 refine Classical.byContradiction λ hn=>?_
 have : c.sum = 0:=b5V (λ x hx=>by
  obtain ⟨s,hs,rfl⟩:=List.getElem_of_mem hx
  have h1:=h.nonneg _ hx
  have h2 : ¬ 0 < c.getD s 0:=λ hp=>hn ⟨s,by have:=h.len; omega,hp⟩
  rw [List.getD_eq_getElem?_getD,List.getElem?_eq_getElem hs] at h2
  simp only [Option.getD_some] at h2
  omega)
 have:=h.pos
 omega
set_option maxRecDepth 100000 in
set_option maxHeartbeats 2000000 in
theorem b5W (A : Option Addr) (cp : Nat) (c : List Int) (r : Nat) (w : World) (hr : (Kd.int .i64).C w A 256 c) (h : Can c r) :
    Calls Tryz.prog 191 #[.slice A 256 cp,.int .i64 r] w (a9x c r w):=by
 have HR:=Lib.hid hr
 have HC:=Lib.hid h
 have hR : a0P c = true:=rightC_iff.2 ⟨h.len,h.nonneg,h.le⟩
 have hT : a1c c = c.sum:=by unfold a1c; rw [if_pos hR]
 have hM : manyC c <= 2 ^ r:=by unfold manyC; rw [if_pos hR]; exact h.many
 obtain ⟨n,hn⟩ : ∃ n : Nat,c.sum = n:=⟨c.sum.toNat,by have:=h.pos; omega⟩
 have hr' : (Kd.int .i64).C w A c.length c:=by rw [h.len]; exact hr
 have HTot:=Lib.hid (b2H A cp c w hr')
 rw [hT,hn,h.len] at HTot
 obtain ⟨P,hP⟩ : ∃ P : Nat,2 ^ r = P:=⟨_,rfl⟩
 have hPI : (2 : Int) ^ r = (P : Int):=by rw [<- hP]; simp
 have hPb : 1 <= P /\ P <= 4096:=by have:=a1H h.r12; rw [hPI] at this; omega
 have HM2 : Hid (∀ W,Below w.heap.size w W -> Calls Tryz.prog 190 #[.slice A 256 cp] W λ e w'=>e = .returned (.int .i64 (manyC c)) /\ W = w'):=λ W hb=>by
  have:=a5M A cp c W (Kd.C_below hr' hb) hR
  rw [h.len] at this; exact this
 have HN : Hid (c.sum = n /\ 2 ^ r = P /\ (2 : Int) ^ r = (P : Int) /\ manyC c <= P):=⟨hn,hP,hPI,by omega⟩
 have hn0 : ((n : Int) == 0) = false:=by have:=h.pos; simp; omega
 have hn1 : 1 <= n /\ n <= 1073741824:=by have:=h.pos; have:=h.le; omega
 have hr1 : decide ((r : Int) < 1) = false:=decide_eq_false (by have:=h.r1; omega)
 have hr2 : decide (12 < (r : Int)) = false:=decide_eq_false (by have:=h.r12; omega)
 have hr0 : (0 : Int) <= r:=by omega
 have hr12 : (r : Int) <= 12:=by have:=h.r12; omega
 have hw1 : IntKind.i64.wrap (2 ^ r) = (P : Int):=by rw [hPI]; exact i64_in _ (by omega)
 have hmp : decide (P < manyC c) = false:=decide_eq_false (by have:=HN.out.2.2.2; omega)
 clear hr hr' h hR hT hM hn hP hPI
 have hmi : ∀ w : World,(Instr.makeSlice 84 (.int .i64 256) (.int .i64 256)).run Tryz.prog w = .ok (.slice (some ⟨w.heap.size,0,none⟩) 256 256) (w.alloc (.cells (madeCells #[.int .i64 0] 256) 3)):=λ w=>a7q 256 (by omega) w
 go_enter Tryz.func191,Tryz.ntmps191
 go_wp2_with fail
 refine HTot.out.mono ?_
 rintro e w1 ⟨rfl,rfl⟩
 go_wp2_with fail
 go_quiet ((go_at_call 190; refine Calls.quiet_of_same ((HM2.out _ (a0b (Below.refl _ _) _)).mono λ e w' h=>⟨h.1,h.2.symm⟩)))
 have HB0 : Hid (Below w.heap.size w (w.drewN nq)):=a0b (Below.refl _ _) _
 obtain ⟨w1,hw1'⟩ : ∃ w1,w1 = w.drewN nq:=⟨_,rfl⟩
 rw [<- hw1'] at HB0 ⊢
 clear hw1'
 obtain ⟨N,hNs⟩ : ∃ N,N = w1.heap.size:=⟨_,rfl⟩
 have HNs:=Lib.hid hNs
 have HI : Hid (CnRel N w1 c P n 0 (.slice none 0 0) 0 (w1.alloc (.cells (madeCells #[.int .i64 0] 256) 3))):=by
  refine ⟨?_,?_,?_,?_,by omega⟩
  · rw [(a9v c P n).1,hNs]; exact a7K 256 3 w1 _ trivial _ (Nat.le_refl _) (by omega)
  · exact Kd.R_nil _ _ _ _ _
  · rw [hNs]; exact (Below.refl _ _).alloc (Nat.le_refl _) _
  · rw [(a9v c P n).1]; decide
 go_wp2_with fail
 rw [<- hNs]
 obtain ⟨W,hW⟩ : ∃ W,W = w1.alloc (.cells (madeCells #[.int .i64 0] 256) 3):=⟨_,rfl⟩
 rw [<- hW] at HI ⊢
 clear hW hNs hmi hmp
 go_loopw [8,9,34] (λ lv sv kv wr=>∃ (k : Nat) (S : Int),sv = .int .i64 S /\ kv = .int .i64 k /\ k <= 256 /\ 0 <= S /\ S <= 4096 * k /\ Hid (CnRel N w1 c P n k lv S wr)) (λ _ _ kv _=>256 - (intOf kv).toNat)
 case atStart=>exact ⟨0,0,rfl,rfl,by omega,by omega,by omega,HI⟩
 case round=>
  obtain ⟨k,S,rfl,rfl,hk,hS0,hS1,H⟩:=hrel
  by_cases hlt : k < 256
  · have hC:=Kd.C_below HR.out (HB0.out.trans (H.out.below.mono (by have:=HB0.out.size; have:=HNs.out; omega)))
    obtain ⟨ad,rfl,hcx⟩:=a0y hC k (by omega)
    have hcg:=HC.out.get k
    have hq0:=HC.out.q0 k
    rw [HN.out.2.2.1,HN.out.1] at hq0
    obtain ⟨x,hx⟩ : ∃ x : Nat,c.getD k 0 = x:=⟨(c.getD k 0).toNat,by omega⟩
    rw [hx] at hcx hcg
    obtain ⟨hq1,hq2⟩:=a1D H.out.q k hlt
    rw [c6A c P n hlt] at hq1
    obtain ⟨m,hm⟩ : ∃ m : Nat,m = x * P:=⟨_,rfl⟩
    have hxn : x <= n:=by have:=HN.out.1; omega
    have hm42 : m <= 4398046511104:=by
     rw [hm]
     calc x * P <= 1073741824 * 4096:=Nat.mul_le_mul (by omega) (by omega)
      _ = 4398046511104:=by decide
    have hmI : (x : Int) * (P : Int) = (m : Int):=by rw [hm]; simp
    have hmR : (x : Int) * 2 ^ r = (m : Int):=by rw [HN.out.2.2.1]; exact hmI
    have hdq : (m : Int) / (n : Int) = ((m / n : Nat) : Int):=by simp
    have hrm : (m : Int) % (n : Int) = ((m % n : Nat) : Int):=by simp
    obtain ⟨dq,hdqe⟩ : ∃ dq,dq = m / n:=⟨_,rfl⟩
    obtain ⟨rm,hrme⟩ : ∃ rm,rm = m % n:=⟨_,rfl⟩
    rw [<- hdqe] at hdq
    rw [<- hrme] at hrm
    have hdb : dq <= 4398046511104:=by rw [hdqe]; exact Nat.le_trans (Nat.div_le_self _ _) hm42
    have hn00 : ¬ (n : Int) = 0:=by omega
    have HX:=Lib.hid (And.intro hx (And.intro hm (And.intro hdqe (And.intro hrme hq0))))
    have hwm : IntKind.i64.wrap ((x : Int) * 2 ^ r) = (m : Int):=by rw [hmR]; exact i64_in _ (by omega)
    clear hx hm hdqe hrme hC hmR hq0
    obtain ⟨A1,c1,rfl⟩:=Kd.R_slice H.out.l
    have HL0:=Lib.hid (H.out.far k (dq : Int))
    have HQF : Hid (q0F c P n k = if dq = 0 then min (x : Int) 1 else dq):=by
     show _ = _
     unfold q0F
     rw [HX.out.1,hmI,hdq]
     by_cases e : dq = 0
     · rw [if_pos e,if_pos (by omega)]
     · rw [if_neg e,if_neg (by omega)]
    have HHD : Hid ((hadL c P n).getD k false = decide (dq = 0)):=by
     show _ = _
     rw [c6z c P n hlt,HX.out.1,hmI,hdq]
     by_cases e : dq = 0
     · rw [decide_eq_true (by omega),decide_eq_true e]
     · rw [decide_eq_false (by omega),decide_eq_false e]
    by_cases hz : 0 < dq
    · have hdq4 : dq <= 4096:=by
        have:=HX.out.2.2.2.2.2.1
        rw [HQF.out,if_neg (by omega)] at this; omega
      have HSz : Hid (N <= (wr.setCell ⟨N,k,none⟩ (.int .i64 (dq : Int))).heap.size):=by show _ <= _; have:=Kd.R_lt HL0.out.1 N rfl; omega
      have HLn : Hid (((candN (restL c P n) (hadL c P n) k).length + 1) * 24 <= 140737488355328):=by show _ <= _; have:=b0g (restL c P n) (hadL c P n) k; omega
      have HFr : Hid (∀ j,(wr.setCell ⟨N,k,none⟩ (.int .i64 (dq : Int))).heap.size <= j -> j ≠ N):=λ j hj e=>by have:=Kd.R_lt HL0.out.1 N rfl; omega
      have HNe : Hid ((Value.slice A1 (candN (restL c P n) (hadL c P n) k).length c1).ownBlock ≠ some N):=λ e=>HL0.out.2.1.1 N e rfl
      have hqg : ((qTo c P n k).set k (dq : Int)).getD k 0 = (dq : Int):=by rw [a3l _ _ _ _ (by unfold qTo; rw [a1E]; omega),if_pos rfl]
      obtain ⟨L,hL⟩ : ∃ L,L = candN (restL c P n) (hadL c P n) k:=⟨_,rfl⟩
      obtain ⟨Q,hQ⟩ : ∃ Q,Q = (qTo c P n k).set k (dq : Int):=⟨_,rfl⟩
      rw [<- hL] at HLn HNe
      have HL1 : Hid (k3.R 253 (wr.setCell ⟨N,k,none⟩ (.int .i64 (dq : Int))) N (λ b=>b ≠ N) (.slice A1 L.length c1) L):=by rw [hL]; exact HL0.out.2.1
      have HQ1 : Hid ((Kd.int .i64).R 3 (wr.setCell ⟨N,k,none⟩ (.int .i64 (dq : Int))) N (λ _=>True) (.slice (some ⟨N,0,none⟩) 256 256) Q):=by rw [hQ]; exact HL0.out.1
      rw [<- hQ] at hqg
      have HQG:=Lib.hid (And.intro hqg (And.intro hL hQ))
      have HB1:=Lib.hid HL0.out.2.2
      have HH:=Lib.hid H.out
      rw [<- hL]
      clear hqg hL hQ HL0 H
      go_wp2_with (at_builtin; refine Kd.R_append k3 (w0:=w1) (W:=wr.setCell ⟨N,k,none⟩ (.int .i64 (dq : Int))) N rfl (.tmp 53) (.tmp 61) 251 253 _ 24 rfl Tryz.underlying251 b0b rfl (by decide) (by decide) (.slice A1 L.length c1) L ((k : Int),(rm : Int),0) [.int .i64 k,.int .i64 rm,.int .i64 0] (λ b=>b ≠ N) (λ _=>False) rfl (by simp [go_sem]) (a5r _ _ _ _) (λ _ h=>h.elim) HFr.out HL1.out HB1.out HSz.out HLn.out ?_; intro v2 w2 hr2 hb2 hg2 hat2; have HQ2:=Lib.hid (Kd.R_grown1 HQ1.out rfl hg2 HNe.out); have hq5:=(a1D HQ2.out k hlt).1; rw [HQG.out.1] at hq5; have HR2:=Lib.hid hr2; have HB2:=Lib.hid hb2; clear hr2 hb2 hg2 hat2)
      go_roundw
      case rel=>
       refine ⟨k + 1,S + dq,rfl,by go_num,by omega,by omega,by omega,?_⟩
       have hq2:=HQ2.out
       rw [HQG.out.2.2] at hq2
       refine HH.out.next hlt hq2 ?_ HB2.out (by rw [HQF.out,if_neg (by omega)]) (by omega)
       rw [b0f,if_pos (by rw [HHD.out]; exact decide_eq_false (by omega))]
       have e : a1L (restL c P n) k = ((k : Int),(rm : Int),0):=by
        unfold a1L restL
        rw [a4j _ hlt,HX.out.1,hmI,hrm]
       rw [e,<- HQG.out.2.1]; exact HR2.out
      case measure=>simp [intOf]; omega
    · have hz0 : dq = 0:=by omega
      subst hz0
      by_cases hx0 : 0 < x
      · go_wp2_with fail
        go_roundw
        case rel=>
         refine ⟨k + 1,S + 1,by go_num,by go_num,by omega,by omega,by omega,?_⟩
         have hqq:=Kd.R_putn HL0.out.1 (k : Int) (1 : Int)
         rw [Int.toNat_natCast,b4Q] at hqq
         refine H.out.next hlt hqq ?_ (HL0.out.2.2.setCell (Nat.le_refl _) _) (by rw [HQF.out,if_pos rfl]; omega) (by omega)
         rw [b0f,if_neg (by rw [HHD.out]; simp)]
         exact Kd.R_far (p:=⟨N,k,none⟩) HL0.out.2.1 (λ k hk=>hk) _
        case measure=>simp [intOf]; omega
      · go_wp2_with fail
        go_roundw
        case rel=>
         refine ⟨k + 1,S + 0,by go_num,by go_num,by omega,by omega,by omega,?_⟩
         refine H.out.next hlt HL0.out.1 ?_ HL0.out.2.2 (by rw [HQF.out,if_pos rfl]; omega) (by omega)
         rw [b0f,if_neg (by rw [HHD.out]; simp)]
         exact HL0.out.2.1
        case measure=>simp [intOf]; omega
  · obtain rfl : k = 256:=by omega
    obtain ⟨A1,c1,rfl⟩:=Kd.R_slice H.out.l
    have HQ0 : Hid ((Kd.int .i64).R 3 wr N (λ _=>True) (.slice (some ⟨N,0,none⟩) 256 256) (q0L c P n)):=by rw [<- (a9w c P n).1]; exact H.out.q
    have HS : Hid (S = (q0L c P n).sum):=by rw [<- (a9w c P n).1]; exact H.out.sum
    have HPP : Hid ((P : Int) = 2 ^ r /\ (n : Int) = c.sum):=⟨HN.out.2.2.1.symm,HN.out.1.symm⟩
    have HB1:=Lib.hid H.out.below
    have HL1:=Lib.hid H.out.l
    obtain ⟨M,hM⟩ : ∃ M : Nat,M = giveM c (2 ^ r) c.sum:=⟨_,rfl⟩
    have hMv : max (0 : Int) ((P : Int) - S) = (M : Int):=by
     rw [hM]; unfold giveM; rw [<- HPP.out.1,<- HPP.out.2,<- HS.out]; omega
    have hM4 : M <= 4096:=by omega
    obtain ⟨T,hT⟩ : ∃ T : Nat,T = (S - P).toNat:=⟨_,rfl⟩
    have hTv : max (0 : Int) (S - (P : Int)) = (T : Int):=by rw [hT]; omega
    have HMT:=Lib.hid (And.intro hM hT)
    have hTb : T <= 2000000:=by omega
    obtain ⟨L,hL⟩ : ∃ L,L = candN (restL c P n) (hadL c P n) 256:=⟨_,rfl⟩
    rw [<- hL]
    have HLE:=Lib.hid hL
    clear hM hT hL H
    go_wp2_with fail
    have hgw0:=a4P HC.out 0 (Nat.zero_le _)
    have hen:=HC.out.enough
    rw [<- HPP.out.1,<- HPP.out.2] at hgw0 hen
    refine (c6r N 256 N (q0L c P n) (.slice A1 L.length c1) (restL c P n) (hadL c P n) M wr HQ0.out (by rw [HLE.out]; exact HL1.out) (by have:=Kd.R_lt HQ0.out N rfl; omega) (a1E _) (by simp [hadL])
     (λ s=>⟨(hgw0.2.2.1 s).1,by have:=(hgw0.2.2.1 s).2; simp only [a0V] at this; omega⟩) (by rw [<- HS.out] at hen; omega) hM4).mono ?_
    clear hgw0 hen
    rintro e w3 ⟨rfl,hq3,hb3⟩
    obtain ⟨G,hG⟩ : ∃ G,G = (a0V (restL c P n) M (q0L c P n,hadL c P n)).1:=⟨_,rfl⟩
    rw [<- hG] at hq3
    have H3:=Lib.hid (And.intro hq3 (And.intro hb3 hG))
    clear hq3 hb3 hG hMv
    go_wp2_with fail
    have hge:=a9t HC.out
    have hgw:=(a4P HC.out M (by rw [<- HMT.out.1]; exact Nat.le_refl _)).2.2.2.2.1
    rw [<- HMT.out.1,<- HPP.out.1,<- HPP.out.2,<- H3.out.2.2] at hge
    rw [<- HPP.out.1,<- HPP.out.2,<- H3.out.2.2,<- HS.out] at hgw
    have hTe : (G.sum - 2 ^ r).toNat = T:=by
     rw [<- HPP.out.1,hgw]
     have h1 : M = ((P : Int) - S).toNat:=by
      have:=HMT.out.1; unfold giveM at this; rw [<- HPP.out.1,<- HPP.out.2,<- HS.out] at this; exact this
     have h2:=HMT.out.2
     omega
    have HT2 : Hid (b0i c G T):=λ k hk=>by
     have:=(a7p HC.out hge.1 k (by rw [hTe]; exact hk)).1
     exact ⟨this.len,this.rng,this.iff⟩
    have HNL : Hid (a0R c T G = normL c r):=by
     show _ = _
     unfold normL
     simp only []
     rw [<- HMT.out.1,<- HPP.out.1,<- HPP.out.2,<- H3.out.2.2,HPP.out.1,hTe]
    have HB3 : Hid (Below N w1 w3):=HB1.out.trans H3.out.2.1
    have hcs:=HC.out.le
    clear hge hgw
    refine (c6u N 256 cp A w1 N HNs.out G c T w3 H3.out.1 (Kd.C_below HR.out HB0.out) HB3.out HC.out.len (λ s=>⟨(HC.out.get s).1,by have:=(HC.out.get s).2; omega⟩) HT2.out hTb (λ _=>c6C HC.out)).mono ?_
    rintro e w4 ⟨rfl,hq4,hb4⟩
    have H4:=Lib.hid (And.intro hq4 hb4)
    clear hq4 hb4 hTe
    go_wp2_with fail
    go_ret2
    have hNl : w.heap.size <= N:=by rw [HNs.out]; exact HB0.out.size
    refine ⟨_,rfl,?_,HB0.out.trans (H4.out.2.mono hNl)⟩
    rw [<- HNL.out]
    exact Kd.R_lower H4.out.1 hNl
end Go.Proofs.YtflfjpkmjnnodaaGreat
namespace Go.Proofs.YtflfjpkmjnnodaaGreat
open Go.RowKit Go.IntWalk Go.Proofs.YtflfjpkmjnnodaaGreatW.PrintWords
theorem a1f {w : World} {g : Nat} {a b c : Value} (hg : w.heap[g]? = some (.cells #[a,b,c] 26 (0,0))) : (loadVar 26 ⟨g,0,none⟩).run Tryz.prog w = .ok (.agg #[a,b,c]) w:=
 run_loadVar_row w g _ _ _ _ _ hg Tryz.underlying26 rfl a5F
theorem a2d {fn : Func} {p u : Tmp} {ty : TypeId} (h : fn.results = #[.cell p ty,.tmp u]) (tmps : Array Value) (w : World) (g : Nat) (cs : Array Value)
    (hp : tmps.getD p undef = .pointer (some ⟨g,0,none⟩)) (hl : (loadVar ty ⟨g,0,none⟩).run Tryz.prog w = .ok (.agg cs) w) :
    (results fn tmps).run Tryz.prog w = .ok (.tuple #[.agg cs,tmps.getD u undef]) w:=by
 have hp' : tmps[p]?.getD undef = .pointer (some ⟨g,0,none⟩):=by simpa using hp
 simp [results,h,hp',asAddr,hl]
theorem b5X {b : List Int} (hb : Bytes b) (hl : b.length <= 1000000) (h0 : 0 < b.length) : 0 < manyC (histL b):=by
 rw [b4U (a5C b hb hl)]
 have hx:=hb _ (List.getElem_mem h0)
 obtain ⟨s,hs⟩ : ∃ s : Nat,b[0] = (s : Int):=⟨(b[0]).toNat,by omega⟩
 have hs2 : s < 256:=by omega
 have hp:=(a9z b hs2).2 (by rw [<- hs]; exact List.getElem_mem h0)
 refine List.countP_pos_iff.2 ⟨(histL b).getD s 0,a1Y (by unfold histL; rw [a1E]; exact hs2),by simpa using hp⟩
theorem a1u {fn : Func} {p u v : Tmp} {ty : TypeId} (h : fn.results = #[.cell p ty,.tmp u,.tmp v]) (tmps : Array Value) (w : World) (g : Nat) (cs : Array Value)
    (hp : tmps.getD p undef = .pointer (some ⟨g,0,none⟩)) (hl : (loadVar ty ⟨g,0,none⟩).run Tryz.prog w = .ok (.agg cs) w) :
    (results fn tmps).run Tryz.prog w = .ok (.tuple #[.agg cs,tmps.getD u undef,tmps.getD v undef]) w:=by
 have hp' : tmps[p]?.getD undef = .pointer (some ⟨g,0,none⟩):=by simpa using hp
 simp [results,h,hp',asAddr,hl]
def Told (k : Int) (y : List Int) (w : World) (e : Ending) (w' : World) : Prop:=
 ∃ A c,e = .returned (.tuple #[.slice A y.length c,.int .i64 k]) /\ (Kd.int .u8).R 5 w' w.heap.size (λ _=>True) (.slice A y.length c) y /\ Below w.heap.size w w'
theorem ReadPost.told {k : Int} {y : List Int} {w : World} {e : Ending} {w' : World} (h : ReadPost (k,y) w e w') : Told k y w e w':=by
 obtain ⟨⟨v,rfl,hv⟩,hb⟩:=h
 obtain ⟨A,c,rfl⟩:=Kd.R_slice hv
 exact ⟨A,c,rfl,hv,hb⟩
open Go.Proofs.YtflfjpkmjnnodaaGreat.PRef Go.Proofs.YtflfjpkmjnnodaaGreatW.PrintLast Go.Proofs.YtflfjpkmjnnodaaGreatW.PrintMore
theorem c6O (a : List Int) (hl : a.length <= 1000000) : ∀ (d i : Nat),i + d = a.length -> Ev (λ k=>puncheonref01_Ints.l0 k a a (i : Int)) true:=by
 intro d
 induction d with
 | zero=>
  intro i hi
  refine Ev.step (λ k=>(show puncheonref01_Ints.l0 (k + 1) _ _ _ = _ by simp only [puncheonref01_Ints.l0]; rw [if_neg (by omega)])) ?_
  exact Ev.now _
 | succ d ih=>
  intro i hi
  have h1 : (i : Int) < (a.length : Int):=by omega
  have h2 : (0 : Int) <= i:=by omega
  refine Ev.step (λ k=>(show puncheonref01_Ints.l0 (k + 1) _ _ _ = _ by simp only [puncheonref01_Ints.l0]; rw [if_pos h1,if_pos h2,if_pos h1,if_pos trivial,wS i (by omega)])) ?_
  exact ih (i + 1) (by omega)
theorem c6P (a : List Int) (hl : a.length <= 1000000) : Ev (λ k=>puncheonref01_Ints.f k a a) true:=by
 refine Ev.congr (f:=λ k=>puncheonref01_Ints.l0 k a a (0 : Nat)) (λ k=>by unfold puncheonref01_Ints.f; rw [if_pos rfl]; rfl) ?_
 exact c6O a hl a.length 0 (by omega)
theorem c6Q (lg : Int) (one : Bool) (qs : List (List Int)) (hl : qs.length <= 1000000) (hq : ∀ q ∈ qs,q.length <= 1000000) : ∀ (d i : Nat),i + d = qs.length -> Ev (λ k=>puncheonref16_Same.l0 k (i : Int) lg one qs lg one qs) true:=by
 intro d
 induction d with
 | zero=>
  intro i hi
  refine Ev.step (λ k=>(show puncheonref16_Same.l0 (k + 1) _ _ _ _ _ _ _ = _ by simp only [puncheonref16_Same.l0]; rw [if_neg (by omega)])) ?_
  exact Ev.now _
 | succ d ih=>
  intro i hi
  have h1 : (i : Int) < (qs.length : Int):=by omega
  have h2 : (0 : Int) <= i:=by omega
  have hm : qs.getD i [] ∈ qs:=by rw [List.getD_eq_getElem?_getD,List.getElem?_eq_getElem (by omega),Option.getD_some]; exact List.getElem_mem (by omega)
  refine Ev.step (λ k=>(show puncheonref16_Same.l0 (k + 1) _ _ _ _ _ _ _ = _ by simp only [puncheonref16_Same.l0]; rw [if_pos h1,if_pos h2,if_pos h1,show rd_L3 qs (i : Int) = qs.getD i [] from rfl])) ?_
  refine Ev.bind (c6P _ (hq _ hm)) ?_
  refine Ev.congr (f:=λ k=>puncheonref16_Same.l0 k ((i + 1 : Nat) : Int) lg one qs lg one qs) (λ k=>by rw [if_pos rfl,wS i (by omega)]) ?_
  exact ih (i + 1) (by omega)
theorem c6R (lg : Int) (one : Bool) (qs : List (List Int)) (hl : qs.length <= 1000000) (hq : ∀ q ∈ qs,q.length <= 1000000) : Ev (λ k=>puncheonref16_Same.f k lg one qs lg one qs) true:=by
 have hj : Ev (λ k=>puncheonref16_Same.j0 k false lg one qs lg one qs) true:=by
  refine Ev.step (λ k=>(show puncheonref16_Same.j0 (k + 1) _ _ _ _ _ _ _ = _ by simp only [puncheonref16_Same.j0]; rw [if_neg (by decide)])) ?_
  exact c6Q lg one qs hl hq qs.length 0 (by omega)
 refine Ev.congr (f:=λ k=>puncheonref16_Same.j0 k false lg one qs lg one qs) (λ k=>?_) hj
 unfold puncheonref16_Same.f
 rw [if_pos rfl,if_neg (by cases one <;> decide)]
 have : ((qs.length : Int) != (qs.length : Int)) = false:=by simp
 rw [this]
theorem c6S (lg : Int) (one : Bool) (A B : Option Addr) (ca cb : Nat) (qs : List (List Int)) (w : World) (ha : kq.C w A qs.length qs) (hb : kq.C w B qs.length qs) (hca : qs.length <= ca) (hcb : qs.length <= cb) (hl : qs.length <= 1000000) (hq : ∀ q ∈ qs,q.length <= 1000000) :
    Calls Tryz.prog 25 #[.agg #[.int .i64 lg,.bool one,.slice A qs.length ca],.agg #[.int .i64 lg,.bool one,.slice B qs.length cb]] w (Ret (.bool true) w):=by
 obtain ⟨k,hk⟩:=(c6R lg one qs hl hq).rounds
 exact puncheonref16_Same.calls k lg one A ca qs lg one B cb qs true w ha hca hb hcb hk
end Go.Proofs.YtflfjpkmjnnodaaGreat
namespace Go.Proofs.YtflfjpkmjnnodaaGreat
open Go.RowKit Go.IntWalk Go.Proofs.YtflfjpkmjnnodaaGreatW.PrintWords
structure BSl (w : World) (A : Option Addr) (c : Nat) (p : List Int) : Prop where
 row : (Kd.int .u8).C w A p.length p
 cap : p.length <= c
 nil : A = none -> c = 0
 by' : Bytes p
theorem BSl.below {w w' : World} {A : Option Addr} {c : Nat} {p : List Int} (h : BSl w A c p) (hb : Below w.heap.size w w') : BSl w' A c p:=⟨Kd.C_below h.row hb,h.cap,h.nil,h.by'⟩
theorem BSl.of {w : World} {A : Option Addr} {c n base : Nat} {p : List Int} {ok : Nat -> Prop} (h : (Kd.int .u8).R 5 w base ok (.slice A n c) p) (hp : Bytes p) : BSl w A c p:=by
 obtain ⟨e,h2,h3⟩:=Kd.R_reads' h
 refine ⟨h3,by omega,λ ha=>?_,hp⟩
 obtain ⟨_,inner,⟨_,ho⟩,_⟩:=h
 rcases ho with ⟨h4,_⟩ | ⟨g,cap,cur,h4,_⟩
 · cases h4; rfl
 · rw [ha] at h4; cases h4
theorem Told.out {k : Int} {y : List Int} {w : World} {e : Ending} {w' : World} (h : Told k y w e w') (hy : Bytes y) : ∃ A c,e = .returned (.tuple #[.slice A y.length c,.int .i64 k]) /\ BSl w' A c y /\ Below w.heap.size w w':=by
 obtain ⟨A,c,he,hr,hb⟩:=h
 exact ⟨A,c,he,BSl.of hr hy,hb⟩
theorem a7P {w : World} (xs : List Int) (hx : Bytes xs) (hl : xs.length <= 1000000) : BSl (w.alloc (.cells (xs.map (Value.int .u8)).toArray 5)) (some ⟨w.heap.size,0,none⟩) xs.length xs:=
 BSl.of (a3n .u8 5 w w.heap.size (λ _=>True) trivial (Nat.le_refl _) xs hl) hx
theorem BSl.str {w : World} {A : Option Addr} {c : Nat} {p : List Int} (h : BSl w A c p) : (convert 22 9 (.slice A p.length c)).run Tryz.prog w = .ok (.string (strOfNums p)) w:=
 Kd.C_string Tryz.underlying22 Tryz.underlying5 Tryz.underlying9 h.row
theorem b6h {κ : IntKind} {w : World} {A : Option Addr} {xs : List Int} (h : (Kd.int κ).C w A xs.length xs) (k : Nat) (hk : k <= xs.length) : (Kd.int κ).C w A k (xs.take k):=by
 obtain ⟨h1,h2,h3⟩:=h
 refine ⟨by rw [List.length_take]; omega,by omega,λ h0=>?_⟩
 obtain ⟨ad,e,hc⟩:=h3 (by omega)
 refine ⟨ad,e,λ j p hj=>hc j p ?_⟩
 rw [List.getElem?_take] at hj
 split at hj
 · exact hj
 · cases hj
theorem b6i {lg : Int} {one : Bool} {qs : List (List Int)} {ps : List Int} {n : Int} (hps : ∀ x ∈ ps,0 <= x /\ x < 256) : Bytes (decM lg one qs ps n).2:=by
 by_cases h : (decM lg one qs ps n).1 = 0
 · exact (a7e (z:=(decM lg one qs ps n).2) hps (by rw [<- h])).2.1
 · rw [a9H h]; intro x hx; cases hx
theorem BSl.cut {w : World} {A : Option Addr} {c : Nat} {p : List Int} (h : BSl w A c p) {k : Nat} (hk : k <= p.length) : BSl w A c (p.take k):=
 ⟨by have:=b6h h.row k hk; rwa [List.length_take,Nat.min_eq_left hk],by rw [List.length_take]; have:=h.cap; omega,h.nil,λ x hx=>h.by' x (List.mem_of_mem_take hx)⟩
end Go.Proofs.YtflfjpkmjnnodaaGreat
namespace Go.Proofs.YtflfjpkmjnnodaaGreat
open Go.RowKit
theorem b6j (ps : List Int) (r : Nat) : ∀ (l : List Int) (qs : List (List Int)) (at_ : Nat),(hdrsT ps r l qs at_).2.1.length = qs.length
 | [],_,_=>rfl
 | c :: l,qs,at_=>by
  unfold hdrsT
  split
  · rfl
  · rw [b6j ps r l,List.length_set]
theorem b6k (ps : List Int) (r : Nat) : ∀ (l : List Int) (qs : List (List Int)) (at_ : Nat),at_ <= 8 * ps.length -> (hdrsT ps r l qs at_).1 = 0 -> (hdrsT ps r l qs at_).2.2 <= 8 * ps.length
 | [],_,_,h,_=>h
 | c :: l,qs,at_,h,h0=>by
  unfold hdrsT at h0 ⊢
  by_cases h1 : (hdrT ps (8 * ps.length) 257 zeros256 0 (2 ^ r) false at_).1 ≠ 0
  · rw [if_pos h1] at h0; exact absurd h0 h1
  · rw [if_neg h1] at h0 ⊢
    exact b6k ps r l _ _ (a4T _ _ _ _ _ _ h (Classical.not_not.1 h1)) h0
theorem b6l (ps : List Int) : (∃ k,k ≠ 0 /\ a0w ps = (k,0,[],[])) \/ ∃ r qs m,5 <= r /\ r <= 9 /\ (qs : List (List Int)).length = 256 /\ a0w ps = (0,r,qs,(ps.drop 33).drop m):=by
 unfold a0w
 by_cases h0 : ps.length = 0
 · rw [if_pos h0]; exact .inl ⟨3,by decide,rfl⟩
 · rw [if_neg h0]
   by_cases h1 : (ps.getD 0 0).toNat < 5 \/ 9 < (ps.getD 0 0).toNat
   · rw [if_pos h1]; exact .inl ⟨13,by decide,rfl⟩
   · rw [if_neg h1]
     by_cases hd : (dirT (ps.drop 1)).1 ≠ 0
     · rw [if_pos hd]; exact .inl ⟨_,hd,rfl⟩
     · rw [if_neg hd]
       have hl:=b6j (ps.drop 33) (ps.getD 0 0).toNat (dirT (ps.drop 1)).2 a2j 0
       obtain ⟨H,hH⟩ : ∃ H,H = hdrsT (ps.drop 33) (ps.getD 0 0).toNat (dirT (ps.drop 1)).2 a2j 0:=⟨_,rfl⟩
       rw [<- hH] at hl ⊢
       by_cases h2 : H.1 ≠ 0
       · rw [if_pos h2]; exact .inl ⟨_,h2,rfl⟩
       · rw [if_neg h2]
         by_cases h3 : H.2.2 % 8 ≠ 0 /\ ((ps.drop 33).getD (H.2.2 / 8) 0).toNat / 2 ^ (H.2.2 % 8) ≠ 0
         · rw [if_pos h3]; exact .inl ⟨4,by decide,rfl⟩
         · rw [if_neg h3]; exact .inr ⟨_,_,_,by omega,by omega,by rw [hl]; exact List.length_replicate,rfl⟩
theorem a5P {ps : List Int} (h : Bytes ps) : Bytes (a0w ps).2.2.2:=by
 rcases b6l ps with ⟨k,_,e⟩ | ⟨r,q,m,_,_,_,e⟩
 · rw [e]; intro x hx; cases hx
 · rw [e]; exact λ x hx=>h x (List.mem_of_mem_drop (List.mem_of_mem_drop hx))
theorem a5Q (ps : List Int) : (a0w ps).2.2.2.length <= ps.length /\ (a0w ps).2.2.1.length <= 256:=by
 rcases b6l ps with ⟨k,_,e⟩ | ⟨r,q,m,_,_,h,e⟩
 · rw [e]; simp
 · rw [e]; exact ⟨by simp,by rw [h]; exact Nat.le_refl _⟩
theorem b0n {ps : List Int} {n : Int} (hps : Bytes ps) : Bytes (dec1M ps n).2:=by
 unfold dec1M
 split
 · intro x hx; cases hx
 · exact b6i (a5P hps)
theorem b6m {b : List Int} (hb : Bytes b) (hl : b.length <= 40000) (h0 : 0 < b.length) : dec1M (a1w b) b.length = (0,b):=by
 have hc : canM (a0v b : Nat) false (a0G b) b = true:=a4m (one:=false) hb (by omega) h0
 unfold dec1M
 rw [c5v hb (by omega) h0,if_neg (λ h=>h rfl)]
 dsimp only
 exact b4p hc hb
theorem b0o {x : Int} {l : List Int} (hx : 0 <= x /\ x < 256) (hl : Bytes l) : Bytes (x :: l):=λ y hy=>by
 rcases List.mem_cons.1 hy with h | h
 · rw [h]; exact hx
 · exact hl y h
theorem a4X {a b : List Int} (ha : Bytes a) (hb : Bytes b) : Bytes (a ++ b):=λ y hy=>by
 rcases List.mem_append.1 hy with h | h
 · exact ha y h
 · exact hb y h
theorem b6n (b : List Int) : Bytes (a1w b):=by
 unfold a1w
 have hr:=a2Q b
 exact a4X (a4X (a4X (b0o (by omega) (λ x hx=>by cases hx)) (a4J _)) (a4J _)) (a4J _)
open Go.IntWalk Go.Proofs.YtflfjpkmjnnodaaGreatW.PrintWords
theorem b6p (r : Nat) (qs : List (List Int)) (c : Int) : ∀ l : List Int,hdrsB r qs (l ++ [c]) = hdrsB r qs l ++ hdrB (qs.getD c.toNat []) 257 0 (2 ^ r)
 | []=>by simp [hdrsB]
 | x :: l=>by
  show hdrB _ 257 0 (2 ^ r) ++ hdrsB r qs (l ++ [c]) = (hdrB _ 257 0 (2 ^ r) ++ hdrsB r qs l) ++ _
  rw [b6p r qs c l,List.append_assoc]
theorem a7Q {r : Nat} {qs : List (List Int)} (hr9 : r <= 9) : ∀ l : List Int,(∀ c ∈ l,Nrm (qs.getD c.toNat []) r) -> (hdrsB r qs l).length <= l.length * 3072
 | [],_=>by simp [hdrsB]
 | x :: l,h=>by
  have hn:=h x (by simp)
  have ih:=a7Q hr9 l (λ c hc=>h c (by simp [hc]))
  have e2 : (2 : Int) ^ r = ((2 ^ r : Nat) : Int):=by simp
  have h1:=a3I hn.r12 hn.len hn.nn 257 0 (2 ^ r) (by omega) (by rw [List.drop_zero,hn.sum,e2]) (by rw [Nat.pow_succ]; have:=Nat.two_pow_pos r; omega)
  have h2 : (256 - 0) * (r + 3) <= 256 * 12:=Nat.mul_le_mul (by omega) (by omega)
  show (hdrB _ 257 0 (2 ^ r) ++ hdrsB r qs l).length <= _
  rw [List.length_append,List.length_cons]; omega
def a3K (r : Nat) (qs : List (List Int)) (l : List Int) : List Int:=[(r : Int)] ++ dirL l ++ packB (hdrsB r qs l)
def c6V (r : Nat) (qs : List (List Int)) (l : List Int) (w : World) (e : Ending) (w' : World) : Prop:=∃ v,e = .returned v /\ (Kd.int .u8).R 5 w' w.heap.size (λ _=>True) v (a3K r qs l) /\ Below w.heap.size w w'
set_option maxRecDepth 100000 in
set_option maxHeartbeats 4000000 in
theorem c6W (r c cl : Nat) (A Al : Option Addr) (qs : List (List Int)) (l : List Int) (w : World) (hr : kq.C w A qs.length qs) (hq : qs.length = 256) (hl : (Kd.int .i64).C w Al l.length l) (hA : Asc l) (hll : l.length <= 256) (hr9 : r <= 9) (hN : ∀ c ∈ l,Nrm (qs.getD c.toNat []) r) :
    Calls Tryz.prog 103 #[.agg #[.int .i64 r,.bool false,.slice A 256 c],.slice Al l.length cl] w (c6V r qs l w):=by
 obtain ⟨W,hW⟩ : ∃ W,W = w.alloc (.cells #[.int .i64 r,.bool false,.slice A 256 c] 26):=⟨_,rfl⟩
 have hb1 : Below w.heap.size w W:=by rw [hW]; exact (Below.refl _ _).alloc (Nat.le_refl _) _
 have hk1 : W.heap[w.heap.size]? = some (.cells #[.int .i64 r,.bool false,.slice A 256 c] 26 (0,0)):=by rw [hW]; exact a0i _ _
 obtain ⟨mb,hmb⟩ : ∃ mb,mb = w.heap.size:=⟨_,rfl⟩
 rw [<- hmb] at hk1
 have HMb:=Lib.hid hmb
 have HR:=Lib.hid (And.intro hr (And.intro hl (And.intro hA (And.intro hll (And.intro hN hq)))))
 have H1:=Lib.hid (And.intro hb1 hk1)
 have hll2 : l.length <= 256:=hll
 clear hr hq hl hA hll hN hb1 hk1
 go_enter Tryz.func103,Tryz.ntmps103
 go_wp2_with fail
 rw [<- hW,<- hmb]
 clear hW hmb
 refine (c5F Al cl l W (Kd.C_below HR.out.2.1 H1.out.1) HR.out.2.2.1 HR.out.2.2.2.1).mono ?_
 rintro e w2 ⟨vd,rfl,hvd,hb2⟩
 obtain ⟨Ad,cd,rfl⟩:=Kd.R_slice hvd
 rw [a4n] at hvd ⊢
 have HD:=Lib.hid (Kd.R_reads' hvd).2.2
 have HB2:=Lib.hid (a0g H1.out.1 hb2)
 have HK2:=Lib.hid (a0h H1.out.2 hb2)
 clear hvd hb2
 go_wp2_with fail
 refine (a6N _).mono ?_
 rintro e w3 ⟨rfl,hw3⟩
 have hw0 : WrVal w3 w2.heap.size w2.heap.size (.slice none 0 0) []:=by rw [hw3]; exact a9T w2
 have hb3 : Below w2.heap.size w2 w3:=by rw [hw3]; exact (Below.refl _ _).alloc (Nat.le_refl _) _
 obtain ⟨P,hP⟩ : ∃ P,P = w2.heap.size:=⟨_,rfl⟩
 rw [<- hP] at hw0 ⊢
 have HW0:=Lib.hid (And.intro hw0 (And.intro hb3 hP))
 have HB3:=Lib.hid (a0g HB2.out hb3)
 clear hw3 hw0 hb3 hP
 go_wp2_with fail
 go_loopw [18] (λ kv wr=>∃ i : Nat,i <= l.length /\ kv = .int .i64 i /\ Hid (PutRel P P (.slice none 0 0) (hdrsB r qs (l.take i)) w3 wr)) (λ kv _=>l.length - (intOf kv).toNat)
 case atStart=>exact ⟨0,by omega,rfl,Lib.hid ⟨_,HW0.out.1,.inl rfl,Only.refl _ _⟩⟩
 case round=>
  obtain ⟨i,hi,rfl,H⟩:=hrel
  have hBw2 : Below w2.heap.size w2 wr:=PutRel.bel H.out HW0.out.2.1 (by have:=HW0.out.2.2; omega) (λ k hk=>by simp [Value.ownBlock] at hk)
  have hBw : Below w.heap.size w wr:=HB2.out.trans (hBw2.mono HB2.out.size)
  obtain ⟨⟨ka,kb,kc⟩,-⟩:=cell3 (a0h HK2.out hBw2)
  by_cases hlt : i < l.length
  · obtain ⟨cx,hc,hc256⟩:=HR.out.2.2.1.get hlt
    obtain ⟨ad,hA2,hcx⟩:=a0y (Kd.C_below HR.out.2.1 hBw) i hlt
    subst hA2
    rw [hc] at hcx
    have hm:=a1F hlt
    rw [hc] at hm
    have hn:=HR.out.2.2.2.2.1 _ hm
    rw [Int.toNat_natCast] at hn
    obtain ⟨aq,B,cq,hA3,hcq',-,hCq⟩:=kq_at HR.out.1 cx (by rw [HR.out.2.2.2.2.2]; exact hc256)
    subst hA3
    rw [hn.len] at hcq' hCq
    have hcq:=a0s hBw hcq'
    have HCq:=Lib.hid hCq
    have HBw:=Lib.hid (And.intro hBw hBw2)
    clear hcq'
    have ht : l.take (i + 1) = l.take i ++ [(cx : Int)]:=by rw [List.take_succ_eq_append_getElem hlt,<- hc,List.getD_eq_getElem?_getD,List.getElem?_eq_getElem hlt,Option.getD_some]
    have hs : hdrsB r qs (l.take (i + 1)) = hdrsB r qs (l.take i) ++ hdrB (qs.getD cx []) 257 0 (2 ^ r):=by rw [ht,b6p,Int.toNat_natCast]
    have hlb:=a7Q (r:=r) (qs:=qs) hr9 (l.take i) (λ x hx=>HR.out.2.2.2.2.1 x (List.mem_of_mem_take hx))
    have hlb2 : (hdrsB r qs (l.take i)).length <= 800000:=by rw [List.length_take] at hlb; omega
    have HS:=Lib.hid hs
    have HN:=Lib.hid (And.intro hn hlb2)
    have hc2 : (cx : Int) < 256:=by omega
    obtain ⟨v1,k1,k2,k3⟩:=H.out
    have HK:=Lib.hid (And.intro k1 (And.intro k2 k3))
    have HBs : Hid (P <= wr.heap.size):=Lib.hid (Nat.le_trans (by have:=HW0.out.2.2; have:=HW0.out.2.1.size; omega) k3.size)
    clear hc hm hn hCq ht hs hlb hlb2 k1 k2 k3 hBw2 hBw
    go_wp2_with fail
    refine (b5m P P cq r B v1 (hdrsB r qs (l.take i)) (qs.getD cx []) w wr HK.out.1 HBs.out HN.out.2 HCq.out HBw.out.1 (by have:=HW0.out.2.2; have:=HB2.out.size; omega) (by have:=HW0.out.2.2; have:=HB2.out.size; omega) HN.out.1).mono ?_
    rintro e w5 ⟨rfl,hp⟩
    have HP5:=Lib.hid (PutRel.trans HK.out hp)
    clear hp
    go_wp2_with fail
    go_roundw
    case rel=>exact ⟨i + 1,by omega,by go_num,Lib.hid (by rw [HS.out]; exact HP5.out)⟩
    case measure=>first | (simp [intOf]; done) | (simp [intOf]; omega)
  · obtain rfl : i = l.length:=by omega
    rw [List.take_length] at H
    obtain ⟨v1,k1,k2,k3⟩:=H.out
    have hlb:=a7Q (r:=r) (qs:=qs) hr9 l HR.out.2.2.2.2.1
    have HX:=Lib.hid (And.intro k1 (by omega : (hdrsB r qs l).length <= 800000))
    obtain ⟨X,hX⟩ : ∃ X,X = packB (hdrsB r qs l):=⟨_,rfl⟩
    have HXX:=Lib.hid hX
    have HXl : Hid (X.length <= 100001):=Lib.hid (by rw [hX,a0D]; omega)
    have HBw:=Lib.hid hBw
    have HD2:=Lib.hid (Kd.C_below HD.out hBw2)
    have hDl:=a4n l
    obtain ⟨D,hD⟩ : ∃ D,D = dirL l:=⟨_,rfl⟩
    rw [<- hD] at HD2 hDl
    have HDD:=Lib.hid (And.intro hD hDl)
    clear k1 k2 k3 hlb hBw hBw2 hX hD hDl H
    have hrw : IntKind.u8.wrap (r : Int) = (r : Int):=by rw [IntKind.wrap_u8]; omega
    have hWl : Below w.heap.size w (wr.alloc (.cells #[.int .u8 (r : Int)] 5)):=HBw.out.alloc HBw.out.size _
    have HWl:=Lib.hid (And.intro hWl hWl.size)
    have HO1 : Hid ((Kd.int .u8).R 5 (wr.alloc (.cells #[.int .u8 (r : Int)] 5)) w.heap.size (λ _=>True) (.slice (some ⟨wr.heap.size,0,none⟩) 1 1) [(r : Int)]):=Lib.hid (a3n .u8 5 wr w.heap.size (λ _=>True) trivial HBw.out.size [(r : Int)] (by simp))
    have HD3 : Hid ((Kd.int .u8).C (wr.alloc (.cells #[.int .u8 (r : Int)] 5)) Ad 32 D):=Lib.hid (by have:=Kd.C_alloc HD2.out (.cells #[.int .u8 (r : Int)] 5); rw [HDD.out.2] at this; exact this)
    have HL1 : Hid ((([(r : Int)] : List Int).length + 32) * 1 <= 140737488355328):=Lib.hid (by simp)
    have HWr : Hid (WrVal wr P P v1 (hdrsB r qs l)):=HX.out.1
    have HWr2 : Hid (WrVal (wr.alloc (.cells #[.int .u8 (r : Int)] 5)) P P v1 (hdrsB r qs l)):=Lib.hid ⟨a0o HX.out.1.blk _,Kd.R_alloc HX.out.1.row _⟩
    have HZ33 : Hid (([(r : Int)] ++ D).length = 33):=Lib.hid (by rw [List.length_append,HDD.out.2]; rfl)
    clear hWl
    go_wp2_with (at_builtin; refine Kd.R_append_rows (Kd.int .u8) (Rr:=(Kd.int .u8).K (wr.alloc (.cells #[.int .u8 (r : Int)] 5))) (w0:=w) (W:=wr.alloc (.cells #[.int .u8 (r : Int)] 5)) w.heap.size rfl (.tmp 33) (.tmp 34) 22 5 (.int .u8 0) 1 rfl Tryz.underlying22 a0H rfl (by decide) (by decide) (.slice (some ⟨wr.heap.size,0,none⟩) 1 1) [(r : Int)] D Ad 32 cd (λ _=>True) (λ _=>False) rfl rfl HO1.out HD3.out (λ _ _ h=>h) (λ _ h=>h.elim) (λ _ _=>trivial) HWl.out.1 HWl.out.2 HL1.out ?_; intro vi w5 hr5 hb5 hg5 hat5; have HG5:=Lib.hid (And.intro hg5 hat5); obtain ⟨A5,c5,rfl⟩:=Kd.R_slice hr5; rw [HZ33.out] at hr5 ⊢; have HR5:=Lib.hid (And.intro hr5 hb5); clear hr5 hb5 hg5 hat5)
    have HW5 : Hid (WrVal w5 P P v1 (hdrsB r qs l)):=Lib.hid ⟨a1e HWr2.out.blk HG5.out.1 (λ e=>by have:=a0f HWr.out.blk; simp [Value.ownBlock] at e; omega),Kd.R_mono (Kd.R_grown (Kd.R_alloc (Kd.R_bound HWr.out.row) _) HG5.out.1 (λ k hk e=>by have:=hk.2.2.1; simp [Value.ownBlock] at e; omega)) (λ k hk=>hk.1)⟩
    have HX8 : Hid ((hdrsB r qs l).length <= 900000):=Lib.hid (by have:=HX.out.2; omega)
    obtain ⟨Z,hZ⟩ : ∃ Z,Z = [(r : Int)] ++ D:=⟨_,rfl⟩
    rw [<- hZ] at HR5
    have HZ:=Lib.hid (And.intro hZ (by rw [hZ]; exact HZ33.out : Z.length = 33))
    clear hZ
    refine (a7D P P v1 _ w5 HW5.out HX8.out).mono ?_
    rintro e w6 ⟨v6,rfl,hv6,hb6⟩
    rw [<- HXX.out] at hv6
    obtain ⟨A6,c6,rfl⟩:=Kd.R_slice hv6
    have HO6:=Lib.hid (Kd.R_below HR5.out.1 hb6)
    have HX6:=Lib.hid (Kd.R_reads' hv6).2.2
    have HB6:=Lib.hid (And.intro (a0g HR5.out.2 hb6) (a0g HR5.out.2 hb6).size)
    have HL6 : Hid ((Z.length + X.length) * 1 <= 140737488355328):=Lib.hid (by have:=HZ.out.2; have:=HXl.out; omega)
    clear hv6 hb6
    go_wp2_with (at_builtin; refine Kd.R_append_rows (Kd.int .u8) (Rr:=(Kd.int .u8).K w6) (w0:=w) (W:=w6) w.heap.size rfl (.tmp 35) (.tmp 37) 22 5 (.int .u8 0) 1 rfl Tryz.underlying22 a0H rfl (by decide) (by decide) (.slice A5 33 c5) Z X A6 X.length c6 (λ _=>True) (λ _=>False) rfl rfl HO6.out HX6.out (λ _ _ h=>h) (λ _ h=>h.elim) (λ _ _=>trivial) HB6.out.1 HB6.out.2 HL6.out ?_; intro v7 w7 hr7 hb7 hg7 hat7; have HR7:=Lib.hid (And.intro hr7 hb7); clear hr7 hb7 hg7 hat7)
    go_ret
    refine ⟨v7,rfl,?_,HR7.out.2⟩
    unfold a3K
    rw [<- HXX.out,<- HDD.out.1,<- HZ.out.1]
    exact HR7.out.1
set_option maxRecDepth 100000 in
theorem c6X (A : Option Addr) (c pb pc : Nat) (b : List Int) (i : Nat) (k : Int) (w : World) (hpb : w.cell? ⟨pb,0,none⟩ = some (.slice A b.length c)) (hpc : w.cell? ⟨pc,0,none⟩ = some (.int .i64 k)) (hr : (Kd.int .u8).C w A b.length b) (hi : i < b.length) (hl : b.length <= 1000000) (hb : Bytes b) :
    Calls Tryz.prog 197 #[.int .i64 i,.pointer (some ⟨pb,0,none⟩),.pointer (some ⟨pc,0,none⟩)] w λ e w'=>e = .returned (.bool (decide (ctxI b i = k))) /\ ∃ n,w' = w.drewN n:=by
 have HN:=Lib.hid (λ W (h : Below w.heap.size w W)=>a6O A c b i W (Kd.C_below hr h) hi hl hb)
 obtain ⟨z,hz⟩ : ∃ z,z = ctxI b i:=⟨_,rfl⟩
 rw [<- hz] at HN ⊢
 clear hr hi hl hb hz
 go_enter Tryz.func197,Tryz.ntmps197
 go_wp2_with fail
 go_quiet ((go_at_call 155; refine Calls.quiet_of_same ((HN.out _ (a0b (Below.refl _ _) _)).mono λ e w' h=>⟨h.1,h.2.symm⟩)))
 all_goals
  go_wp2_with fail
  go_ret
  exact ⟨by first | rfl | exact a0U rfl,_,rfl⟩
def c6Y (b : List Int) (k : Int) (w : World) (e : Ending) (w' : World) : Prop:=∃ v,e = .returned v /\ (Kd.int .u8).R 5 w' w.heap.size (λ _=>True) v (a0r b k) /\ Below w.heap.size w w'
set_option maxRecDepth 100000 in
set_option maxHeartbeats 1000000 in
theorem c6Z (A : Option Addr) (c cc pb pc : Nat) (b : List Int) (k : Int) (w : World) (hpb : w.cell? ⟨pb,0,none⟩ = some (.slice A b.length cc)) (hpbl : pb < w.heap.size) (hpc : w.cell? ⟨pc,0,none⟩ = some (.int .i64 k)) (hpcl : pc < w.heap.size) (hr : (Kd.int .u8).C w A b.length b) (hl : b.length <= 1000000) (hb : Bytes b) :
    Calls Tryz.prog 196 #[.slice A b.length c,.func (Fn.func 197) #[] #[.pointer (some ⟨pb,0,none⟩),.pointer (some ⟨pc,0,none⟩)]] w (c6Y b k w):=by
 have HR:=Lib.hid (And.intro hr (And.intro hl (And.intro hb (And.intro hpbl hpcl))))
 have HCe:=Lib.hid (And.intro hpb hpc)
 clear hr hl hb hpb hpc hpbl hpcl
 go_enter Tryz.func196,Tryz.ntmps196
 go_wp2_with fail
 go_loopw [5,10] (λ v kv wr=>∃ i : Nat,i <= b.length /\ kv = .int .i64 i /\ Hid ((Kd.int .u8).R 5 wr w.heap.size (λ _=>True) v (pkL b k i) /\ Below w.heap.size w wr)) (λ _ kv _=>b.length - (intOf kv).toNat)
 case atStart=>exact ⟨0,by omega,rfl,Lib.hid ⟨by have : pkL b k 0 = []:=rfl; rw [this]; exact Kd.R_nil _ _ _ _ _,Below.refl _ _⟩⟩
 case round=>
  obtain ⟨i,hi,rfl,H⟩:=hrel
  by_cases hlt : i < b.length
  · obtain ⟨Av,cv,rfl⟩:=Kd.R_slice H.out.1
    have hbi:=HR.out.2.2.1 _ (a1F hlt)
    obtain ⟨y,hy⟩ : ∃ y : Nat,b.getD i 0 = y:=⟨(b.getD i 0).toNat,by omega⟩
    obtain ⟨ad,hA,hcx⟩:=a0y (Kd.C_below HR.out.1 H.out.2) i hlt
    rw [hy] at hcx
    subst hA
    have hcl:=a4k b k i
    have HLn : Hid (((pkL b k i).length + 1) * 1 <= 140737488355328):=by show _ <= _; have:=HR.out.2.1; omega
    have hl6 : b.length <= 1000000:=HR.out.2.1
    obtain ⟨L,hL⟩ : ∃ L,L = pkL b k i:=⟨_,rfl⟩
    have HL:=Lib.hid hL
    have HY:=Lib.hid (And.intro hy hbi)
    have hF:=c6X (some ad) cc pb pc b i k wr (by rw [H.out.2.cell (p:=⟨pb,0,none⟩) HR.out.2.2.2.1]; exact HCe.out.1) (by rw [H.out.2.cell (p:=⟨pc,0,none⟩) HR.out.2.2.2.2]; exact HCe.out.2) (Kd.C_below HR.out.1 H.out.2) hlt HR.out.2.1 HR.out.2.2.1
    have HF:=Lib.hid hF
    rw [<- hL] at H hcl HLn ⊢
    clear hF hy hbi hL
    by_cases hcond : ctxI b i = k
    · have HN : Hid (pkL b k (i + 1) = L ++ [(y : Int)]):=by show _ = _; rw [a7l hcond,<- HL.out,HY.out.1]
      have hd:=decide_eq_true hcond
      rw [hd] at HF
      clear hcond hd
      go_wp2_with fail
      refine HF.out.mono ?_
      rintro e w1 ⟨rfl,nq,rfl⟩
      obtain ⟨w2,hw2⟩ : ∃ w2,w2 = wr.drewN nq:=⟨_,rfl⟩
      have HB2 : Hid (Below w.heap.size w w2 /\ w.heap.size <= w2.heap.size):=by
       have h1 : Below w.heap.size w w2:=by rw [hw2]; exact a0b H.out.2 nq
       exact Lib.hid ⟨h1,h1.size⟩
      have HR2 : Hid ((Kd.int .u8).R 5 w2 w.heap.size (λ _=>True) (.slice Av L.length cv) L):=Lib.hid (by rw [hw2]; exact Kd.R_drewN H.out.1 nq)
      rw [<- hw2]
      clear hw2 hcx
      go_wp2_with (at_builtin; refine Kd.R_append (Kd.int .u8) (w0:=w) (W:=w2) w.heap.size rfl (.tmp 18) (.tmp 20) 22 5 (.int .u8 0) 1 rfl Tryz.underlying22 a0H rfl (by decide) (by decide) _ _ (y : Int) [.int .u8 y] (λ _=>True) (λ _=>False) rfl rfl rfl (λ _ h=>h.elim) (λ _ _=>trivial) HR2.out HB2.out.1 HB2.out.2 HLn.out ?_; intro v1 w3 hr3 hb3 hg3 hat3; have HA:=Lib.hid (And.intro hr3 hb3); clear hr3 hb3 hg3 hat3)
      go_roundw
      case rel=>exact ⟨i + 1,by omega,by go_num,Lib.hid ⟨by rw [HN.out]; exact HA.out.1,HA.out.2⟩⟩
      case measure=>simp [intOf]; omega
    · have HN : Hid (pkL b k (i + 1) = L):=by show _ = _; rw [a7m hcond,<- HL.out]
      have hd:=decide_eq_false hcond
      rw [hd] at HF
      clear hcond hd
      go_wp2_with fail
      refine HF.out.mono ?_
      rintro e w1 ⟨rfl,nq,rfl⟩
      go_wp2_with fail
      go_roundw
      case rel=>exact ⟨i + 1,by omega,by go_num,Lib.hid ⟨by rw [HN.out]; exact Kd.R_drewN H.out.1 nq,a0b H.out.2 nq⟩⟩
      case measure=>simp [intOf]; omega
  · obtain rfl : i = b.length:=by omega
    go_wp2_with fail
    go_ret
    exact ⟨_,rfl,H.out.1,H.out.2⟩
def b6q (b : List Int) (k : Int) (w : World) (e : Ending) (w' : World) : Prop:=∃ v,e = .returned v /\ (Kd.int .i64).R 3 w' w.heap.size (λ _=>True) v (histL (a0r b k)) /\ Below w.heap.size w w'
theorem a7R {b : List Int} (hb : Bytes b) (k : Int) : Bytes (a0r b k):=b4C hb k _
set_option maxRecDepth 100000 in
theorem b6r (A : Option Addr) (c : Nat) (b : List Int) (k : Int) (w : World) (hr : (Kd.int .u8).C w A b.length b) (hl : b.length <= 1000000) (hb : Bytes b) :
    Calls Tryz.prog 146 #[.slice A b.length c,.int .i64 k] w (b6q b k w):=by
 obtain ⟨W,hW⟩ : ∃ W,W = (w.alloc (.cells #[.slice A b.length c] 22)).alloc (.cells #[.int .i64 k] 3):=⟨_,rfl⟩
 have hb1 : Below w.heap.size w W:=by rw [hW]; exact ((Below.refl _ _).alloc (Nat.le_refl _) _).alloc (by simp) _
 have hs : W.heap.size = w.heap.size + 2:=by rw [hW]; simp
 have hk1 : W.heap[w.heap.size]? = some (.cells #[.slice A b.length c] 22 (0,0)):=by rw [hW]; exact a0o (a0i _ _) _
 have hk2 : W.heap[w.heap.size + 1]? = some (.cells #[.int .i64 k] 3 (0,0)):=by rw [hW]; exact a2i _ _ _
 have HP:=Lib.hid (c6Z A c c w.heap.size (w.heap.size + 1) b k W ((a0a hk1 0).trans rfl) (by omega) ((a0a hk2 0).trans rfl) (by omega) (Kd.C_below hr hb1) hl hb)
 have HX:=Lib.hid (And.intro hb1 (And.intro hl hb))
 have hc1 : W.cell? ⟨w.heap.size,0,none⟩ = some (.slice A b.length c):=(a0a hk1 0).trans rfl
 clear hr hl hb hb1 hs hk1 hk2
 go_enter Tryz.func146,Tryz.ntmps146
 go_wp2_with fail
 rw [<- hW]
 clear hW
 refine HP.out.mono ?_
 rintro e w1 ⟨v,rfl,hv,hb1⟩
 obtain ⟨A1,c1,rfl⟩:=Kd.R_slice hv
 have H1:=Lib.hid (And.intro (Kd.R_reads' hv).2.2 (a0g HX.out.1 hb1))
 have HLp : Hid ((a0r b k).length <= 1000000):=by show _ <= _; have:=a4k b k b.length; have:=HX.out.2.1; unfold a0r; omega
 clear hv hb1
 go_wp2_with fail
 refine (b5t A1 c1 (a0r b k) w1 H1.out.1 HLp.out (a7R HX.out.2.2 k)).mono ?_
 rintro e w2 ⟨v2,rfl,hv2,hb2⟩
 have H2:=Lib.hid (And.intro hv2 hb2)
 clear hv2 hb2
 go_wp2_with fail
 go_ret
 exact ⟨v2,rfl,Kd.R_lower H2.out.1 H1.out.2.size,a0g H1.out.2 H2.out.2⟩
end Go.Proofs.YtflfjpkmjnnodaaGreat
