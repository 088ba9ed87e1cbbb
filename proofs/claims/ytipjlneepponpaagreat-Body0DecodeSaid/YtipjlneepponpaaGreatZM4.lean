/- Plain: what the printed references of counts answer (right, total, log). -/
import Derived.Test.YtipjlneepponpaaGreatZS1
import Derived.Test.YtipjlneepponpaaGreatZM1
import Derived.Test.YtipjlneepponpaaGreatZR1
import Derived.Test.YtipjlneepponpaaGreatZM2
import Derived.Test.YtipjlneepponpaaGreatZM0
import Derived.Deep.LoopGhost
import Derived.Laws.Rows
import Derived.Deep.DeepCutAuto
import Derived.Deep.RegionHeld3
import Derived.Defers
import Derived.Recover
import Derived.BigQuiet
import Derived.RangeFuncRecord
import Derived.RangeFuncSeq
import Derived.WalkKit
import Derived.OwnWalkIn
import Derived.TacticsInMore
import Derived.BigFrameIn
import Derived.LoopNIn
import Derived.LoopIn
import Derived.Maps.OwnIn
import Derived.Maps.AppendAt
import Derived.RangeFuncBox
import Derived.OwnWalk
import Derived.Laws.EntriesVeiled
namespace Go.Proofs.YtipjlneepponpaaGreat
open Go.RowKit Go.Proofs.YtipjlneepponpaaGreat.PRef Go.Proofs.YtipjlneepponpaaGreatW.PrintWords Go.Proofs.YtipjlneepponpaaGreatW.PrintLast Go.Proofs.YtipjlneepponpaaGreatW.PrintMore
theorem a0A (xs : List Int) (i : Nat) : rd xs (i : Int) = xs.getD i 0:=rfl
theorem wS (i : Nat) (h : i <= 1000000000) : wrap64 ((i : Int) + 1) = ((i + 1 : Nat) : Int):=by rw [w64 (by omega)]; simp
theorem b8E {c : List Int} {i : Nat} (h : i < c.length) {P : Int -> Prop} (h1 : ∀ x ∈ c.take i,P x) (h2 : P (c.getD i 0)) : ∀ x ∈ c.take (i + 1),P x:=by
 intro x hx
 rw [List.take_succ_eq_append_getElem h] at hx
 rcases List.mem_append.1 hx with hx | hx
 · exact h1 x hx
 · rw [List.mem_singleton.1 hx]
   rw [List.getD_eq_getElem?_getD,List.getElem?_eq_getElem h] at h2; exact h2
theorem a1S {c : List Int} {i : Nat} (h : i < c.length) : c.getD i 0 ∈ c:=by
 rw [List.getD_eq_getElem?_getD,List.getElem?_eq_getElem h]; exact List.getElem_mem h
theorem b8F (c : List Int) (hl : c.length = 256) : ∀ (d i : Nat) (s : Int),i + d = 256 -> i <= 256 -> s = (c.take i).sum -> (∀ x ∈ c.take i,0 <= x /\ x <= 1073741824) -> 0 <= s -> s <= i * 1073741824 ->
    Ev (λ k=>puncheonref05_Right.l0 k c s (i : Int)) (a0N c):=by
 intro d
 induction d with
 | zero=>
  intro i s hd hi hs ha h0 h1
  refine Ev.step (λ k=>(show puncheonref05_Right.l0 (k + 1) c s (i : Int) = _ by simp only [puncheonref05_Right.l0]; rw [if_neg (by omega)])) ?_
  rw [List.take_of_length_le (by omega)] at hs ha
  have e : a0N c = decide (s <= 1073741824):=by
   unfold a0N; rw [hs]; exact decide_eq_decide.2 ⟨λ h=>h.2.2,λ h=>⟨hl,λ x hx=>(ha x hx).1,h⟩⟩
  rw [e]; exact Ev.now _
 | succ d ih=>
  intro i s hd hi hs ha h0 h1
  have hlt : i < c.length:=by omega
  have hts:=a3K hlt
  by_cases hn : c.getD i 0 < 0
  · refine Ev.step (λ k=>(show puncheonref05_Right.l0 (k + 1) c s (i : Int) = _ by simp only [puncheonref05_Right.l0]; rw [if_pos (by omega),if_pos (by omega),if_pos (by omega),a0A,if_pos hn])) ?_
    have e : a0N c = false:=by
     rw [<- Bool.not_eq_true,rightC_iff]; intro h
     have:=h.2.1 _ (a1S hlt); omega
    rw [e]; exact Ev.now _
  · by_cases hb : c.getD i 0 > 1073741824
    · refine Ev.step (λ k=>(show puncheonref05_Right.l0 (k + 1) c s (i : Int) = _ by simp only [puncheonref05_Right.l0]; rw [if_pos (by omega),if_pos (by omega),if_pos (by omega),a0A,if_neg hn,if_pos hb])) ?_
      have e : a0N c = false:=by
       rw [<- Bool.not_eq_true,rightC_iff]; intro h
       have:=a5T h.2.1 (a1S hlt); omega
      rw [e]; exact Ev.now _
    · refine Ev.step (λ k=>(show puncheonref05_Right.l0 (k + 1) c s (i : Int) = _ by simp only [puncheonref05_Right.l0]; rw [if_pos (by omega),if_pos (by omega),if_pos (by omega),a0A,if_neg hn,if_neg hb,wS i (by omega),w64 (n:=s + c.getD i 0) (by omega)])) ?_
      exact ih (i + 1) _ (by omega) (by omega) (by rw [hts,hs]) (b8E hlt ha (by omega)) (by omega) (by omega)
theorem b1L (c : List Int) : Ev (λ k=>puncheonref05_Right.f k c) (a0N c):=by
 by_cases hl : c.length = 256
 · refine Ev.congr (λ k=>(show puncheonref05_Right.f k c = _ by unfold puncheonref05_Right.f; rw [if_pos (by omega)])) ?_
   exact b8F c hl 256 0 0 (by omega) (by omega) (by simp) (by simp) (by omega) (by omega)
 · refine Ev.congr (λ k=>(show puncheonref05_Right.f k c = _ by unfold puncheonref05_Right.f; rw [if_neg (by omega)])) ?_
   have e : a0N c = false:=by rw [<- Bool.not_eq_true,rightC_iff]; exact λ h=>hl h.1
   rw [e]; exact Ev.now _
theorem b1M (c : List Int) (hr : a0N c = true) : ∀ (d i : Nat) (s : Int),c.length - i = d -> i <= c.length -> s = (c.take i).sum -> Ev (λ k=>puncheonref05_Total.l0 k c s true (i : Int)) c.sum
 | 0,i,s,hd,hi,hs=>by
  refine Ev.step (λ k=>(show puncheonref05_Total.l0 (k + 1) c s true (i : Int) = _ by simp only [puncheonref05_Total.l0]; rw [if_neg (by omega)])) ?_
  rw [List.take_of_length_le (by omega)] at hs
  rw [<- hs]; exact Ev.now _
 | d + 1,i,s,hd,hi,hs=>by
  have hlt : i < c.length:=by omega
  have hts:=a3K hlt
  have hR:=rightC_iff.1 hr
  have h1:=a7X hR.2.1 (i + 1)
  have h2 : 0 <= (c.take (i + 1)).sum:=a2F (λ x hx=>hR.2.1 x (List.mem_of_mem_take hx))
  refine Ev.step (λ k=>(show puncheonref05_Total.l0 (k + 1) c s true (i : Int) = _ by simp only [puncheonref05_Total.l0]; rw [if_pos (by omega),if_pos trivial,if_pos (by omega),a0A,wS i (by omega),w64 (n:=s + c.getD i 0) (by omega)])) ?_
  exact b1M c hr d (i + 1) _ (by omega) (by omega) (by rw [hts,hs])
theorem b1N (c : List Int) : Ev (λ k=>puncheonref05_Total.f k c) (a1a c):=by
 unfold puncheonref05_Total.f
 refine Ev.bind (b1L c) ?_
 unfold a1a
 cases hr : a0N c with
 | true=>rw [if_pos rfl]; exact b1M c hr _ 0 0 rfl (by omega) (by simp)
 | false=>
  rw [if_neg (by decide)]
  refine Ev.step (λ k=>(show puncheonref05_Total.l0 (k + 1) c 0 false 0 = some 0 by simp only [puncheonref05_Total.l0]; split <;> simp)) (Ev.now _)
theorem b1O (r : Nat) (hr : r <= 30) : ∀ (d i : Nat),r - i = d -> i <= r -> Ev (λ k=>puncheonref08_power.l0 k (r : Int) ((2 ^ i : Nat) : Int) (i : Int)) ((2 ^ r : Nat) : Int)
 | 0,i,hd,hi=>by
  obtain rfl : i = r:=by omega
  exact Ev.step (λ k=>(show puncheonref08_power.l0 (k + 1) (i : Int) _ (i : Int) = _ by simp only [puncheonref08_power.l0]; rw [if_neg (by omega)])) (Ev.now _)
 | d + 1,i,hd,hi=>by
  have hp : 2 ^ (i + 1) <= 2 ^ 30:=Nat.pow_le_pow_right (by omega) (by omega)
  have e : (2 : Int) * ((2 ^ i : Nat) : Int) = ((2 ^ (i + 1) : Nat) : Int):=by rw [Nat.pow_succ]; omega
  have e2 : wrap64 ((2 ^ (i + 1) : Nat) : Int) = ((2 ^ (i + 1) : Nat) : Int):=by
   generalize 2 ^ (i + 1) = P at hp ⊢
   exact w64 (by omega)
  refine Ev.step (λ k=>(show puncheonref08_power.l0 (k + 1) (r : Int) _ (i : Int) = _ by simp only [puncheonref08_power.l0]; rw [if_pos (by omega),wS i (by omega),e,e2])) ?_
  exact b1O r hr d (i + 1) (by omega) (by omega)
theorem b1P (r : Nat) (hr : r <= 30) : Ev (λ k=>puncheonref08_power.f k (r : Int)) ((2 ^ r : Nat) : Int):=by
 unfold puncheonref08_power.f; exact b1O r hr r 0 (by omega) (by omega)
theorem b1Q (t : Int) : ∀ (d i : Nat),i + d = 13 -> 1 <= i -> i <= 13 -> (∀ r,1 <= r -> r < i -> t ≠ 2 ^ r) -> Ev (λ k=>puncheonref08_Log.l0 k t (i : Int)) ((logT t : Nat) : Int)
 | 0,i,hd,h1,hi,hn=>by
  obtain rfl : i = 13:=by omega
  rw [b1J (λ r a b=>hn r a (by omega))]
  exact Ev.step (λ k=>(show puncheonref08_Log.l0 (k + 1) t ((13 : Nat) : Int) = _ by simp only [puncheonref08_Log.l0]; rw [if_neg (by decide)]; rfl)) (Ev.now _)
 | d + 1,i,hd,h1,hi,hn=>by
  refine Ev.step (λ k=>(show puncheonref08_Log.l0 (k + 1) t (i : Int) = _ by simp only [puncheonref08_Log.l0]; rw [if_pos (by omega)])) ?_
  refine Ev.bind (b1P i (by omega)) ?_
  have e : ((2 ^ i : Nat) : Int) = 2 ^ i:=by simp
  by_cases ht : t = 2 ^ i
  · refine Ev.congr (λ k=>if_pos (by rw [e]; exact ht)) ?_
    rw [a5U h1 (by omega) ht]; exact Ev.now _
  · refine Ev.congr (λ k=>(if_neg (by rw [e]; exact ht)).trans (by rw [wS i (by omega)])) ?_
    refine b1Q t d (i + 1) (by omega) (by omega) (by omega) (λ r a b=>?_)
    by_cases hri : r = i
    · rw [hri]; exact ht
    · exact hn r a (by omega)
theorem a4U (c : List Int) : Ev (λ k=>puncheonref08_Log.f k c) ((logC c : Nat) : Int):=by
 unfold puncheonref08_Log.f
 exact Ev.bind (b1N c) (b1Q _ 12 1 (by omega) (by omega) (by omega) (λ r a b=>by omega))
def packT (l : List Bool) (i : Nat) : List Int:=(List.range ((l.length + 7) / 8)).map (λ j=>(byteL (((l.take i).drop (8 * j)).take 8) : Int))
theorem a3P (l : List Bool) (i : Nat) : (packT l i).length = (l.length + 7) / 8:=by simp [packT]
theorem a3Q (l : List Bool) (i j : Nat) (h : j < (packT l i).length) : (packT l i)[j] = (byteL (((l.take i).drop (8 * j)).take 8) : Int):=by simp [packT]
theorem c1w (l : List Bool) : packT l 0 = List.replicate ((l.length + 7) / 8) 0:=by
 refine List.ext_getElem (by rw [a3P,List.length_replicate]) λ j h1 h2=>?_
 rw [a3Q,List.getElem_replicate]; simp [byteL]
theorem c1x (l : List Bool) : packT l l.length = packB l:=by
 unfold packT packB; rw [List.take_length]
theorem a6D {l : List Bool} {i : Nat} (hi : i < l.length) : (((l.take (i + 1)).drop (8 * (i / 8))).take 8) = (((l.take i).drop (8 * (i / 8))).take 8) ++ [l[i]] /\ (((l.take i).drop (8 * (i / 8))).take 8).length = i % 8:=by
 have hl : (l.take i).length = i:=by rw [List.length_take]; omega
 rw [List.take_succ_eq_append_getElem hi,List.drop_append_of_le_length (by omega)]
 have h2 : ((l.take i).drop (8 * (i / 8))).length = i % 8:=by rw [List.length_drop,hl]; omega
 rw [List.take_of_length_le (by rw [List.length_append,h2,List.length_singleton]; omega),List.take_of_length_le (i:=8) (l:=(l.take i).drop (8 * (i / 8))) (by omega)]
 exact ⟨rfl,h2⟩
theorem b3s {l : List Bool} {i j : Nat} (hi : i < l.length) (hj : j ≠ i / 8) : (((l.take (i + 1)).drop (8 * j)).take 8) = (((l.take i).drop (8 * j)).take 8):=by
 have hl : (l.take i).length = i:=by rw [List.length_take]; omega
 rw [List.take_succ_eq_append_getElem hi]
 by_cases h : 8 * j + 8 <= i
 · exact a8n _ _ _ (by omega)
 · rw [List.drop_of_length_le (by rw [List.length_append,hl,List.length_singleton]; omega),List.drop_of_length_le (by omega)]
theorem c1y {l : List Bool} {i : Nat} (hi : i < l.length) (h : l[i] = false) : packT l (i + 1) = packT l i:=by
 refine List.ext_getElem (by rw [a3P,a3P]) λ j h1 h2=>?_
 rw [a3Q,a3Q]
 by_cases hj : j = i / 8
 · subst hj
   rw [(a6D hi).1,h,a2W]; simp
 · rw [b3s hi hj]
theorem c1z {l : List Bool} {i : Nat} (hi : i < l.length) (h : l[i] = true) : packT l (i + 1) = (packT l i).set (i / 8) ((packT l i).getD (i / 8) 0 + 2 ^ (i % 8)):=by
 have hlen : i / 8 < (packT l i).length:=by rw [a3P]; omega
 refine List.ext_getElem (by rw [a3P,List.length_set,a3P]) λ j h1 h2=>?_
 rw [List.getElem_set,a3Q]
 by_cases hj : i / 8 = j
 · subst hj
   rw [if_pos rfl,List.getD_eq_getElem?_getD,List.getElem?_eq_getElem hlen,Option.getD_some,a3Q,(a6D hi).1,h,a2W,(a6D hi).2]; simp
 · rw [if_neg hj,a3Q,b3s hi (λ e=>hj e.symm)]
theorem c1A (l : List Bool) (i j : Nat) (hj : j < (packT l i).length) : 0 <= (packT l i).getD j 0 /\ (packT l i).getD j 0 < 2 ^ ((((l.take i).drop (8 * j)).take 8).length):=by
 rw [List.getD_eq_getElem?_getD,List.getElem?_eq_getElem hj,Option.getD_some,a3Q]
 have:=a3q (((l.take i).drop (8 * j)).take 8)
 have e : (2 : Int) ^ ((((l.take i).drop (8 * j)).take 8).length) = ((2 ^ ((((l.take i).drop (8 * j)).take 8).length) : Nat) : Int):=by simp
 rw [e]; omega
theorem c1B (k : Nat) (h : k < 8) : shl .u8 1 (k : Int) = 2 ^ k:=by
 have : k = 0 \/ k = 1 \/ k = 2 \/ k = 3 \/ k = 4 \/ k = 5 \/ k = 6 \/ k = 7:=by omega
 rcases this with rfl | rfl | rfl | rfl | rfl | rfl | rfl | rfl <;> decide
theorem c1C (l : List Bool) (hl : l.length <= 1000000) : ∀ (d i : Nat),i + d = l.length -> Ev (λ k=>puncheonref01_Bytes.l0 k l (packT l i) i) (packB l):=by
 intro d
 induction d with
 | zero=>
  intro i hi
  refine Ev.step (λ k=>(show puncheonref01_Bytes.l0 (k + 1) _ _ _ = _ by simp only [puncheonref01_Bytes.l0]; rw [if_neg (by omega)])) ?_
  rw [show i = l.length by omega,c1x]; exact Ev.now _
 | succ d ih=>
  intro i hi
  have hlt : i < l.length:=by omega
  have c1 : (i : Int) < (l.length : Int):=by omega
  have c2 : (0 : Int) <= i:=by omega
  have ih':=ih (i + 1) (by omega)
  have hr : rdOf false l (i : Int) = l[i]:=by
   unfold rdOf; rw [Int.toNat_natCast,List.getD_eq_getElem?_getD,List.getElem?_eq_getElem hlt]; rfl
  cases hb : l[i] with
  | false=>
   rw [c1y hlt hb] at ih'
   refine Ev.step (λ k=>(show puncheonref01_Bytes.l0 (k + 1) _ _ _ = _ by simp only [puncheonref01_Bytes.l0]; rw [if_pos c1,if_pos c2,hr,hb,if_neg (by simp),wS i (by omega)])) ?_
   exact ih'
  | true=>
   rw [c1z hlt hb] at ih'
   have hlen : i / 8 < (packT l i).length:=by rw [a3P]; omega
   have e1 : wrap64 (Int.tdiv (i : Int) 8) = ((i / 8 : Nat) : Int):=by
    rw [Int.tdiv_eq_ediv_of_nonneg (by omega),w64 (by omega)]; simp
   have e2 : Int.tmod (i : Int) 8 = ((i % 8 : Nat) : Int):=by rw [Int.tmod_eq_emod_of_nonneg (by omega)]; simp
   have hrg:=c1A l i (i / 8) hlen
   rw [(a6D hlt).2] at hrg
   have e3 : ((packT l i).getD (i / 8) 0 + 2 ^ (i % 8)) % 256 = (packT l i).getD (i / 8) 0 + 2 ^ (i % 8):=by
    have h1 : (2 : Nat) ^ (i % 8) <= 2 ^ 7:=Nat.pow_le_pow_right (by omega) (by omega)
    have e : (2 : Int) ^ (i % 8) = ((2 ^ (i % 8) : Nat) : Int):=by simp
    rw [e] at hrg ⊢
    omega
   have c3 : (0 : Int) <= ((i / 8 : Nat) : Int):=by omega
   have c4 : ((i / 8 : Nat) : Int) < ((packT l i).length : Int):=by omega
   have c5 : (0 : Int) <= ((i % 8 : Nat) : Int):=by omega
   refine Ev.step (λ k=>(show puncheonref01_Bytes.l0 (k + 1) _ _ _ = _ by simp only [puncheonref01_Bytes.l0]; rw [if_pos c1,if_pos c2,hr,hb,if_pos rfl,e1,e2,if_pos c3,if_pos c4,if_pos c5,a0A,c1B _ (by omega),e3,Int.toNat_natCast,wS i (by omega)])) ?_
   exact ih'
theorem b3t (l : List Bool) (hl : l.length <= 1000000) : Ev (λ k=>puncheonref01_Bytes.f k l) (packB l):=by
 have h:=c1C l hl l.length 0 (by omega)
 rw [c1w] at h
 have e : wrap64 (Int.tdiv (wrap64 ((l.length : Int) + 7)) 8) = (((l.length + 7) / 8 : Nat) : Int):=by
  rw [w64 (n:=(l.length : Int) + 7) (by omega),Int.tdiv_eq_ediv_of_nonneg (by omega),w64 (by omega)]; simp
 have c1 : (0 : Int) <= (((l.length + 7) / 8 : Nat) : Int):=by omega
 have c2 : (((l.length + 7) / 8 : Nat) : Int).toNat <= 281474976710656:=by omega
 refine Ev.congr (λ k=>(show puncheonref01_Bytes.f k l = puncheonref01_Bytes.l0 k l (List.replicate ((l.length + 7) / 8) 0) 0 by unfold puncheonref01_Bytes.f; rw [e,if_pos c1,if_pos c2,Int.toNat_natCast])) ?_
 exact h
theorem a8E (qs : List (List Int)) (i : Nat) : rd_L3 qs (i : Int) = qs.getD i []:=rfl
def okQ (lg : Int) (one : Bool) (q : List Int) : Bool:=(decide (q.length = 0) && !one) || decide ((logC q : Int) = lg)
theorem c1E (lg : Int) (one : Bool) (qs : List (List Int)) (hl : qs.length <= 1000000) : ∀ (d i : Nat),i + d = qs.length -> Ev (λ k=>puncheonref16_Right.l0 k (i : Int) lg one qs) ((qs.drop i).all (okQ lg one)):=by
 intro d
 induction d with
 | zero=>
  intro i hi
  refine Ev.step (λ k=>(show puncheonref16_Right.l0 (k + 1) _ _ _ _ = _ by simp only [puncheonref16_Right.l0]; rw [if_neg (by omega)])) ?_
  rw [List.drop_of_length_le (by omega)]; exact Ev.now _
 | succ d ih=>
  intro i hi
  have hlt : i < qs.length:=by omega
  have c1 : (i : Int) < (qs.length : Int):=by omega
  have c2 : (0 : Int) <= i:=by omega
  have hd : qs.drop i = qs.getD i [] :: qs.drop (i + 1):=by rw [List.drop_eq_getElem_cons hlt,List.getD_eq_getElem?_getD,List.getElem?_eq_getElem hlt,Option.getD_some]
  rw [hd,List.all_cons]
  have ih':=ih (i + 1) (by omega)
  have hj : ∀ b : Bool,b = (decide ((qs.getD i []).length = 0) && !one) -> Ev (λ k=>puncheonref16_Right.j2 k (i : Int) b lg one qs) (okQ lg one (qs.getD i []) && (qs.drop (i + 1)).all (okQ lg one)):=by
   intro b hb
   unfold okQ
   rw [<- hb]
   cases b with
   | true=>
    refine Ev.step (λ k=>(show puncheonref16_Right.j2 (k + 1) _ _ _ _ _ = _ by simp only [puncheonref16_Right.j2]; rw [if_pos trivial,wS i (by omega)])) ?_
    rw [Bool.true_or,Bool.true_and]; exact ih'
   | false=>
    refine Ev.step (λ k=>(show puncheonref16_Right.j2 (k + 1) _ _ _ _ _ = _ by simp only [puncheonref16_Right.j2]; rw [if_neg (by decide),if_pos c2,if_pos c1,a8E])) ?_
    refine Ev.bind (a4U _) ?_
    by_cases h : (logC (qs.getD i []) : Int) = lg
    · refine Ev.congr (f:=λ k=>puncheonref16_Right.l0 k ((i + 1 : Nat) : Int) lg one qs) (λ k=>by rw [if_pos h,wS i (by omega)]) ?_
      rw [Bool.false_or,decide_eq_true h,Bool.true_and]; exact ih'
    · refine Ev.congr (f:=λ k=>some false) (λ k=>by rw [if_neg h]) ?_
      rw [Bool.false_or,decide_eq_false h,Bool.false_and]; exact Ev.now _
  by_cases h0 : (qs.getD i []).length = 0
  · refine Ev.step (λ k=>(show puncheonref16_Right.l0 (k + 1) _ _ _ _ = _ by simp only [puncheonref16_Right.l0]; rw [if_pos c1,if_pos c2,a8E,if_pos (by omega)])) ?_
    exact hj (!one) (by rw [decide_eq_true h0,Bool.true_and])
  · refine Ev.step (λ k=>(show puncheonref16_Right.l0 (k + 1) _ _ _ _ = _ by simp only [puncheonref16_Right.l0]; rw [if_pos c1,if_pos c2,a8E,if_neg (by omega)])) ?_
    exact hj false (by rw [decide_eq_false h0,Bool.false_and])
theorem c1F {lg : Int} (h1 : 1 <= lg) (q : List Int) : okQ lg false q = !badQ lg q:=by
 unfold okQ badQ
 by_cases h0 : q.length = 0
 · have h2 : ¬ (0 < q.length /\ ¬ (logC q ≠ 0 /\ (logC q : Int) = lg)):=by omega
   rw [decide_eq_true h0,decide_eq_false h2]; simp
 · rw [decide_eq_false h0,Bool.false_and,Bool.false_or]
   by_cases h : (logC q : Int) = lg
   · have h2 : ¬ (0 < q.length /\ ¬ (logC q ≠ 0 /\ (logC q : Int) = lg)):=by omega
     rw [decide_eq_true h,decide_eq_false h2]; rfl
   · have h2 : (0 < q.length /\ ¬ (logC q ≠ 0 /\ (logC q : Int) = lg)):=by omega
     rw [decide_eq_false h,decide_eq_true h2]; rfl
theorem b3u {lg : Int} {one : Bool} {qs : List (List Int)} (h : 1 <= lg /\ lg <= 12) (hl : qs.length = (if one then 1 else 256)) : qs.all (okQ lg one) = a0w lg one qs:=by
 unfold a0w
 rw [if_neg (by omega)]
 have e : ∀ l : List (List Int),l.all (okQ lg false) = !l.any (badQ lg):=λ l=>by
  induction l with
  | nil=>rfl
  | cons a l ih=>rw [List.all_cons,List.any_cons,ih,c1F h.1,Bool.not_or]
 cases one with
 | false=>
  rw [e]
  cases hb : qs.any (badQ lg) with
  | true=>rfl
  | false=>
   simp only [Bool.false_eq_true,if_false] at hl ⊢
   rw [decide_eq_true hl]; rfl
 | true=>
  simp only [if_true] at hl
  obtain ⟨q,rfl⟩:=List.length_eq_one_iff.1 hl
  simp only [List.all_cons,List.all_nil,List.any_cons,List.any_nil,Bool.and_true,Bool.or_false,List.length_singleton,List.getD_cons_zero,true_and,if_true]
  unfold okQ badQ
  by_cases h0 : q.length = 0
  · have h3:=b2T h0
    have h2 : ¬ (0 < q.length /\ ¬ (logC q ≠ 0 /\ (logC q : Int) = lg)):=by omega
    have h4 : ¬ ((logC q : Int) = lg):=by omega
    have h5 : ¬ (0 < q.length):=by omega
    rw [decide_eq_true h0,Bool.not_true,Bool.and_false,Bool.false_or,decide_eq_false h4,decide_eq_false h2,decide_eq_false h5]; rfl
  · rw [decide_eq_false h0,Bool.false_and,Bool.false_or]
    have h5 : 0 < q.length:=by omega
    by_cases h : (logC q : Int) = lg
    · have h2 : ¬ (0 < q.length /\ ¬ (logC q ≠ 0 /\ (logC q : Int) = lg)):=by omega
      rw [decide_eq_true h,decide_eq_false h2,decide_eq_true h5]; rfl
    · have h2 : (0 < q.length /\ ¬ (logC q ≠ 0 /\ (logC q : Int) = lg)):=by omega
      rw [decide_eq_false h,decide_eq_true h2]; rfl
theorem c1G (lg : Int) (one : Bool) (qs : List (List Int)) (hl : qs.length <= 1000000) : Ev (λ k=>puncheonref16_Right.f k lg one qs) (a0w lg one qs):=by
 have hj : ∀ b : Bool,(b = true -> a0w lg one qs = false) -> (b = false -> qs.all (okQ lg one) = a0w lg one qs) -> Ev (λ k=>puncheonref16_Right.j0 k b lg one qs) (a0w lg one qs):=by
  intro b h1 h2
  cases b with
  | true=>
   refine Ev.step (λ k=>(show puncheonref16_Right.j0 (k + 1) _ _ _ _ = _ by simp only [puncheonref16_Right.j0]; rw [if_pos trivial])) ?_
   rw [h1 rfl]; exact Ev.now _
  | false=>
   refine Ev.step (λ k=>(show puncheonref16_Right.j0 (k + 1) _ _ _ _ = _ by simp only [puncheonref16_Right.j0]; rw [if_neg (by decide)])) ?_
   have:=c1E lg one qs hl qs.length 0 (by omega)
   rw [List.drop_zero,h2 rfl] at this
   exact this
 by_cases h1 : lg < 1
 · refine Ev.congr (λ k=>(show puncheonref16_Right.f k lg one qs = _ by unfold puncheonref16_Right.f; rw [if_pos h1])) ?_
   exact hj true (λ _=>by unfold a0w; rw [if_pos (.inl h1)]) (λ h=>by cases h)
 · by_cases h2 : lg > 12
   · refine Ev.congr (λ k=>(show puncheonref16_Right.f k lg one qs = _ by unfold puncheonref16_Right.f; rw [if_neg h1,if_pos h2])) ?_
     exact hj true (λ _=>by unfold a0w; rw [if_pos (.inr h2)]) (λ h=>by cases h)
   · have no : qs.length ≠ (if one then 1 else 256) -> a0w lg one qs = false:=λ hne=>by
       cases hr : a0w lg one qs with
       | false=>rfl
       | true=>exact absurd (a1K hr).2.2.1 hne
     cases one with
     | true=>
      by_cases h3 : (qs.length : Int) = 1
      · refine Ev.congr (λ k=>(show puncheonref16_Right.f k lg true qs = _ by unfold puncheonref16_Right.f; rw [if_neg h1,if_neg h2,if_pos rfl,if_pos h3])) ?_
        exact hj false (λ h=>by cases h) (λ _=>b3u (by omega) (by simp only [if_true]; omega))
      · refine Ev.congr (λ k=>(show puncheonref16_Right.f k lg true qs = _ by unfold puncheonref16_Right.f; rw [if_neg h1,if_neg h2,if_pos rfl,if_neg h3])) ?_
        exact hj true (λ _=>no (by simp only [if_true]; omega)) (λ h=>by cases h)
     | false=>
      refine Ev.congr (λ k=>(show puncheonref16_Right.f k lg false qs = _ by unfold puncheonref16_Right.f; rw [if_neg h1,if_neg h2,if_neg (by decide)])) ?_
      by_cases h3 : (qs.length : Int) = 256
      · have e : ((qs.length : Int) != 256) = false:=by simp; omega
        rw [e]
        exact hj false (λ h=>by cases h) (λ _=>b3u (by omega) (by simp only [Bool.false_eq_true,if_false]; omega))
      · have e : ((qs.length : Int) != 256) = true:=by simp; omega
        rw [e]
        exact hj true (λ _=>no (by simp only [Bool.false_eq_true,if_false]; omega)) (λ h=>by cases h)
section
variable (A : Option Addr) (c : Nat) (w : World)
theorem b3v (lg : Int) (one : Bool) (qs : List (List Int)) (hr : kq.C w A qs.length qs) (hc : qs.length <= c) (hl : qs.length <= 1000000) : Calls Tryz.prog 91 #[.agg #[.int .i64 lg,.bool one,.slice A qs.length c]] w (Ret (.bool (a0w lg one qs)) w):=by
 obtain ⟨k,hk⟩:=(c1G lg one qs hl).rounds
 exact puncheonref16_Right.calls k lg one A c qs _ w hr hc hk
end
def mapR (f : Nat -> Int) : List Int:=(List.range 256).map f
theorem a1v (f : Nat -> Int) : (mapR f).length = 256:=by simp [mapR]
theorem a3R (f : Nat -> Int) {v : Nat} (h : v < 256) : (mapR f).getD v 0 = f v:=by
 unfold mapR; rw [List.getD_eq_getElem?_getD,List.getElem?_map,List.getElem?_range h]; rfl
theorem a2Z {f g : Nat -> Int} (h : ∀ v,v < 256 -> f v = g v) : mapR f = mapR g:=by
 unfold mapR; exact List.map_congr_left (λ v hv=>h v (List.mem_range.1 hv))
theorem a6E (f : Nat -> Int) {v : Nat} (_ : v < 256) (y : Int) : (mapR f).set v y = mapR (λ u=>if u = v then y else f u):=by
 apply List.ext_getElem
 · simp [mapR]
 · intro i h1 h2
   rw [List.getElem_set]
   simp only [mapR,List.getElem_map,List.getElem_range]
   by_cases e : v = i
   · rw [if_pos e,if_pos e.symm]
   · rw [if_neg e,if_neg (λ x=>e x.symm)]
theorem a6F {f : Nat -> Int} {x : Int} (h : x ∈ mapR f) : ∃ v,v < 256 /\ x = f v:=by
 unfold mapR at h
 obtain ⟨v,hv,rfl⟩:=List.mem_map.1 h
 exact ⟨v,List.mem_range.1 hv,rfl⟩
def histL (b : List Int) : List Int:=mapR (λ v=>(b.count (v : Int) : Int))
def posC (c : List Int) (k : Nat) : Nat:=(c.take k).countP (λ x=>decide (0 < x))
def manyC (c : List Int) : Nat:=if a0N c then c.countP (λ x=>decide (0 < x)) else 0
theorem a6G (c : List Int) (i : Nat) (h : i < c.length) : posC c (i + 1) = posC c i + (if 0 < c.getD i 0 then 1 else 0):=by
 unfold posC
 rw [List.take_succ_eq_append_getElem h,List.countP_append,List.getD_eq_getElem?_getD,List.getElem?_eq_getElem h,Option.getD_some]
 congr 1
 by_cases e : 0 < c[i] <;> simp [e]
end Go.Proofs.YtipjlneepponpaaGreat
namespace Go.Proofs.YtipjlneepponpaaGreat
def symP (s : Int) (x : K3) : Bool:=decide (x.2.2 = s)
theorem b3y (l : List Int) (s : Int) : ∀ k,k <= l.length -> (posN l s k).length = (l.take k).countP (λ x=>decide (x = s)):=by
 intro k
 induction k with
 | zero=>intro _; simp [a8i]
 | succ k ih=>
  intro h
  have e : l.getD k (-1) = l[k]:=by rw [List.getD_eq_getElem?_getD,List.getElem?_eq_getElem (by omega),Option.getD_some]
  rw [List.take_succ_eq_append_getElem (by omega),List.countP_append]
  by_cases h1 : l.getD k (-1) = s
  · rw [a2x h1,List.length_append,ih (by omega)]; rw [e] at h1; simp [h1]
  · rw [a3o h1,ih (by omega)]; rw [e] at h1; simp [h1]
theorem b3z (l : List Int) (s : Int) : ∀ (k d : Nat),d < (posN l s k).length -> ∃ P : Nat,(posN l s k).getD d 0 = P /\ P < k /\ l.getD P (-1) = s /\ (posN l s P).length = d:=by
 intro k
 induction k with
 | zero=>intro d h; simp [a8i] at h
 | succ k ih=>
  intro d h
  by_cases h1 : l.getD k (-1) = s
  · rw [a2x h1] at h ⊢
    by_cases h2 : d < (posN l s k).length
    · obtain ⟨P,e1,e2,e3,e4⟩:=ih d h2
      refine ⟨P,?_,by omega,e3,e4⟩
      rw [<- e1,List.getD_eq_getElem?_getD,List.getElem?_append_left h2,<- List.getD_eq_getElem?_getD]
    · rw [List.length_append,List.length_singleton] at h
      have hd : d = (posN l s k).length:=by omega
      refine ⟨k,?_,by omega,h1,hd.symm⟩
      rw [List.getD_eq_getElem?_getD,hd,List.getElem?_append_right (Nat.le_refl _)]; simp
  · rw [a3o h1] at h ⊢
    obtain ⟨P,e1,e2,e3,e4⟩:=ih d h
    exact ⟨P,e1,by omega,e3,e4⟩
open Go.RowKit
theorem b3B (q : List Int) : (a0y q).Nodup:=by
 have h : ∀ k,k <= q.length -> (a0y (q.take k)).Nodup /\ ∀ x ∈ a0y (q.take k),x.2.2 < (k : Int):=by
  intro k
  induction k with
  | zero=>intro _; simp [a0y]
  | succ k ih=>
   intro hk
   obtain ⟨h1,h2⟩:=ih (by omega)
   rw [a2S (by omega)]
   have h3 : ∀ x ∈ a0X (q.getD k 0) k,x.2.2 = (k : Int):=λ x hx=>by
    unfold a0X at hx
    rw [List.mem_map] at hx
    obtain ⟨d,_,rfl⟩:=hx; rfl
   refine ⟨List.nodup_append.2 ⟨h1,?_,?_⟩,?_⟩
   · unfold a0X
     unfold List.Nodup
     rw [List.pairwise_map]
     have h4 : (List.range (q.getD k 0).toNat).Pairwise (· ≠ ·):=List.nodup_range
     refine h4.imp ?_
     intro a b hne e
     have:=congrArg Prod.fst e
     simp only at this
     omega
   · intro a ha b hb e
     have:=h2 a ha
     have:=h3 b hb
     rw [e] at *
     omega
   · intro x hx
     rcases List.mem_append.1 hx with h | h
     · have:=h2 x h; omega
     · have:=h3 x h; omega
 have:=(h q.length (Nat.le_refl _)).1
 rw [List.take_length] at this; exact this
theorem c1V {q : List Int} (hq : Good q) {P : Nat} (hP : P < (a0q q).length) : (a0y q).countP (λ x=>lessK x (a0q q)[P]) = P:=by
 have hperm:=a2T hq
 have hsort:=a6d hq
 have hnd : (a0q q).Nodup:=hperm.nodup_iff.2 (b3B q)
 have hgood : ∀ x ∈ a0q q,GK x:=λ x hx=>a3l hq x (hperm.mem_iff.1 hx)
 rw [<- hperm.countP_eq,show (a0q q).countP (λ x=>lessK x (a0q q)[P]) = ((a0q q).take P ++ (a0q q).drop P).countP (λ x=>lessK x (a0q q)[P]) by rw [List.take_append_drop],List.countP_append]
 have h1 : ((a0q q).take P).countP (λ x=>lessK x (a0q q)[P]) = ((a0q q).take P).length:=by
  rw [List.countP_eq_length]
  intro x hx
  rw [List.mem_take_iff_getElem] at hx
  obtain ⟨i,hi,rfl⟩:=hx
  have hle : leK (a0q q)[i] (a0q q)[P]:=List.pairwise_iff_getElem.1 hsort i P (by omega) hP (by omega)
  cases h : lessK (a0q q)[i] (a0q q)[P] with
  | true=>rfl
  | false=>
   have he:=b2m hq (hperm.mem_iff.1 (List.getElem_mem (by omega : i < (a0q q).length))) (hperm.mem_iff.1 (List.getElem_mem hP)) hle h
   have:=(List.getElem_inj (i:=i) (j:=P) (h₀:=by omega) (h₁:=hP) hnd).1 he
   omega
 have h2 : ((a0q q).drop P).countP (λ x=>lessK x (a0q q)[P]) = 0:=by
  rw [List.countP_eq_zero]
  intro x hx
  rw [List.mem_drop_iff_getElem] at hx
  obtain ⟨i,hi,rfl⟩:=hx
  by_cases h0 : i = 0
  · subst h0
    have:=a6a (hgood _ (List.getElem_mem hP))
    unfold leK at this
    simp only [Nat.add_zero]
    rw [this]; simp
  · have : leK (a0q q)[P] (a0q q)[P + i]:=List.pairwise_iff_getElem.1 hsort P (P + i) hP (by omega) (by omega)
    unfold leK at this
    rw [this]; simp
 rw [h1,h2,List.length_take]; omega
def lowS (c : Int) (s e : Nat) (x : K3) : Bool:=decide (x.2.2 = (s : Int) /\ x.1 < c + e)
theorem c1W (e N : Nat) (h : e <= N) : (List.range N).countP (λ j=>decide (j < e)) = e:=by
 induction N with
 | zero=>simp; omega
 | succ N ih=>
  rw [List.range_succ,List.countP_append]
  by_cases h2 : e <= N
  · rw [ih h2]; simp; omega
  · have : e = N + 1:=by omega
    subst this
    have h3 : (List.range N).countP (λ j=>decide (j < N + 1)) = (List.range N).length:=by
     rw [List.countP_eq_length]; intro x hx; rw [List.mem_range] at hx; simp; omega
    rw [h3]; simp
theorem c1X {q : List Int} {s e : Nat} (hs : s < q.length) (he : (e : Int) <= q.getD s 0) : (a0y q).countP (lowS (q.getD s 0) s e) = e:=by
 have h : ∀ k,k <= q.length -> (a0y (q.take k)).countP (lowS (q.getD s 0) s e) = if s < k then e else 0:=by
  intro k
  induction k with
  | zero=>intro _; simp [a0y]
  | succ k ih=>
   intro hk
   rw [a2S (by omega),List.countP_append,ih (by omega)]
   by_cases hsk : s = k
   · subst hsk
     rw [if_neg (by omega),if_pos (by omega)]
     unfold a0X
     rw [List.countP_map]
     have : (lowS (q.getD s 0) s e ∘ λ (d : Nat)=>((q.getD s 0 + (d : Int),q.getD s 0,(s : Int)) : K3)) = λ j=>decide (j < e):=by
      funext j; unfold lowS; simp [Function.comp]
     rw [this,c1W _ _ (by omega)]; omega
   · have h0 : (a0X (q.getD k 0) k).countP (lowS (q.getD s 0) s e) = 0:=by
       rw [List.countP_eq_zero]
       intro x hx
       unfold a0X at hx
       rw [List.mem_map] at hx
       obtain ⟨d,_,rfl⟩:=hx
       unfold lowS
       simp; omega
     rw [h0]
     by_cases h1 : s < k
     · rw [if_pos h1,if_pos (by omega),Nat.add_zero]
     · rw [if_neg h1,if_neg (by omega)]
 have:=h q.length (Nat.le_refl _)
 rw [List.take_length,if_pos hs] at this; exact this
theorem c1Y {q : List Int} (hq : Good q) {s d : Nat} (hs : s < 256) (hd : (d : Int) < q.getD s 0) : ∃ P : Nat,(a1d q s).getD d 0 = P /\ ∃ h : P < (a0q q).length,(a0q q)[P] = (q.getD s 0 + d,q.getD s 0,(s : Int)):=by
 have hc:=a1J hq s
 have hlen : (posN (symsL q) s (symsL q).length).length = cntC q s:=rfl
 obtain ⟨P,e1,e2,e3,e4⟩:=b3z (symsL q) s (symsL q).length d (by omega)
 have hsl : s < q.length:=by rw [hq.len]; exact hs
 have hP : P < (a0q q).length:=by unfold symsL at e2; rw [List.length_map] at e2; exact e2
 have hperm:=a2T hq
 have hsort:=a6d hq
 have hnd : (a0q q).Nodup:=hperm.nodup_iff.2 (b3B q)
 obtain ⟨t,e,ht,he,hx⟩:=mem_allKeys.1 (hperm.mem_iff.1 (List.getElem_mem hP))
 have hsy : (symsL q).getD P (-1) = (a0q q)[P].2.2:=by
  unfold symsL; rw [List.getD_eq_getElem?_getD,List.getElem?_map,List.getElem?_eq_getElem hP]; rfl
 rw [hsy,hx] at e3
 have hts : t = s:=Int.ofNat.inj e3
 subst hts
 refine ⟨P,e1,hP,?_⟩
 rw [hx]
 have hgood : ∀ x ∈ a0q q,GK x:=λ x hx=>a3l hq x (hperm.mem_iff.1 hx)
 have hdc : d = ((a0q q).take P).countP (symP t):=by
  rw [<- e4,b3y _ _ _ (by omega)]
  unfold symsL
  rw [<- List.map_take,List.countP_map]; rfl
 have h1:=c1X hsl (e:=e) (by omega)
 rw [<- hperm.countP_eq,<- List.take_append_drop P (a0q q),List.countP_append] at h1
 have hkey:=hgood _ (List.getElem_mem hP)
 have h2 : ((a0q q).drop P).countP (lowS (q.getD t 0) t e) = 0:=by
  rw [List.countP_eq_zero]
  intro x hx'
  rw [List.mem_drop_iff_getElem] at hx'
  obtain ⟨i,hi,rfl⟩:=hx'
  have h3 : leK (a0q q)[P] (a0q q)[P + i]:=by
   by_cases h0 : i = 0
   · subst h0; exact a6a hkey
   · exact List.pairwise_iff_getElem.1 hsort P (P + i) hP (by omega) (by omega)
  have h4:=(a2g (hgood _ (List.getElem_mem _)) hkey).1 h3
  obtain ⟨t',f,_,hf,hxe⟩:=mem_allKeys.1 (hperm.mem_iff.1 (List.getElem_mem (by omega : P + i < (a0q q).length)))
  unfold lowS
  simp only [decide_eq_true_eq]
  rintro ⟨h5,h6⟩
  rw [hxe] at h5 h6 h4
  rw [hx] at h4
  have ht' : t' = t:=Int.ofNat.inj h5
  subst ht'
  simp only at h4 h6
  have h7 : (q.getD t' 0 + e) * q.getD t' 0 <= (q.getD t' 0 + f) * q.getD t' 0:=by omega
  have:=Int.le_of_mul_le_mul_right h7 (by omega)
  omega
 have h3 : ((a0q q).take P).countP (lowS (q.getD t 0) t e) = ((a0q q).take P).countP (symP t):=by
  refine List.countP_congr (λ x hx'=>?_)
  rw [List.mem_take_iff_getElem] at hx'
  obtain ⟨i,hi,rfl⟩:=hx'
  have hle : leK (a0q q)[i] (a0q q)[P]:=List.pairwise_iff_getElem.1 hsort i P (by omega) hP (by omega)
  have h4:=(a2g hkey (hgood _ (List.getElem_mem (by omega : i < (a0q q).length)))).1 hle
  obtain ⟨t',f,_,hf,hxe⟩:=mem_allKeys.1 (hperm.mem_iff.1 (List.getElem_mem (by omega : i < (a0q q).length)))
  have hne : (a0q q)[i] ≠ (a0q q)[P]:=λ he=>by
   have:=(List.getElem_inj (i:=i) (j:=P) (h₀:=by omega) (h₁:=hP) hnd).1 he
   omega
  unfold lowS symP
  simp only [decide_eq_true_eq]
  constructor
  · exact λ h=>h.1
  · intro h5
    refine ⟨h5,?_⟩
    rw [hxe] at h5 h4 hne ⊢
    rw [hx] at h4 hne
    have ht' : t' = t:=Int.ofNat.inj h5
    subst ht'
    simp only at h4 ⊢
    have h7 : (q.getD t' 0 + f) * q.getD t' 0 <= (q.getD t' 0 + e) * q.getD t' 0:=by omega
    have:=Int.le_of_mul_le_mul_right h7 (by omega)
    have hfe : f ≠ e:=λ h=>hne (by rw [h])
    omega
 have hde : d = e:=by omega
 rw [hde]
open Go.Proofs.YtipjlneepponpaaGreat.PRef Go.Proofs.YtipjlneepponpaaGreatW.PrintWords Go.Proofs.YtipjlneepponpaaGreatW.PrintLast Go.Proofs.YtipjlneepponpaaGreatW.PrintMore
def lessN (n : Int) (t : Nat) (x : K3) (d : Nat) : Nat:=(List.range d).countP (λ (j : Nat)=>lessK (n + j,n,(t : Int)) x)
theorem c1Z (n : Int) (t : Nat) (x : K3) (d : Nat) : lessN n t x (d + 1) = lessN n t x d + (if lessK (n + d,n,(t : Int)) x = true then 1 else 0):=by
 unfold lessN; rw [List.range_succ,List.countP_append]; simp [List.countP_singleton]
theorem c2a (n : Int) (t : Nat) (x : K3) (d : Nat) : lessN n t x d <= d:=by
 unfold lessN
 have:=List.countP_le_length (p:=λ (j : Nat)=>lessK (n + j,n,(t : Int)) x) (l:=List.range d)
 rw [List.length_range] at this; exact this
theorem c2b {q : List Int} (hq : Good q) {t s : Nat} (ht : t < 256) (hs : s < 256) {i : Int} (hc : 0 < q.getD s 0) (hi : q.getD s 0 <= i /\ i < 2 * q.getD s 0) : ∀ (r d : Nat),(d + r : Int) = q.getD t 0 -> Ev (λ k=>puncheonref10_less.l0 k q t s i (lessN (q.getD t 0) t (i,q.getD s 0,(s : Int)) d : Nat) (q.getD t 0 + d)) (lessN (q.getD t 0) t (i,q.getD s 0,(s : Int)) (q.getD t 0).toNat : Nat):=by
 have hl:=hq.len
 have g1:=hq.get t
 have g2:=hq.get s
 have c1 : (0 : Int) <= t:=by omega
 have c2 : (t : Int) < (q.length : Int):=by omega
 have c3 : (0 : Int) <= s:=by omega
 have c4 : (s : Int) < (q.length : Int):=by omega
 obtain ⟨n,hn⟩ : ∃ n,n = q.getD t 0:=⟨_,rfl⟩
 obtain ⟨c,hcc⟩ : ∃ c,c = q.getD s 0:=⟨_,rfl⟩
 rw [<- hn] at g1 ⊢
 rw [<- hcc] at g2 hc hi ⊢
 intro r
 induction r with
 | zero=>
  intro d hd
  refine Ev.step (λ k=>(show puncheonref10_less.l0 (k + 1) q t s i _ _ = _ by simp only [puncheonref10_less.l0]; rw [if_pos c1,if_pos c2,a0A,<- hn,w64 (n:=2 * n) (by omega),if_neg (by omega)])) ?_
  rw [show n.toNat = d by omega]; exact Ev.now _
 | succ r ih=>
  intro d hd
  have hk : GK (n + d,n,(t : Int)):=rightB_iff.2 (by simp only []; omega)
  have hx : GK (i,c,(s : Int)):=rightB_iff.2 (by simp only []; omega)
  have m1:=a8e (x:=n + d) (y:=c) (by omega) (by omega) (by omega) (by omega)
  have m2:=a8e (x:=i) (y:=n) (by omega) (by omega) (by omega) (by omega)
  have hlt : n + (d : Int) < 2 * n:=by omega
  have w1 : wrap64 ((n + (d : Int)) * c) = (n + d) * c:=w64 (by omega)
  have w2 : wrap64 (i * n) = i * n:=w64 (by omega)
  have w3 : wrap64 (n + (d : Int) + 1) = n + ((d + 1 : Nat) : Int):=by rw [w64 (by omega)]; omega
  have hle:=c2a n t (i,c,(s : Int)) d
  have w4 : wrap64 (((lessN n t (i,c,(s : Int)) d : Nat) : Int) + 1) = ((lessN n t (i,c,(s : Int)) d + 1 : Nat) : Int):=wS _ (by omega)
  have hiff:=a8f hk hx
  simp only at hiff
  have ih':=ih (d + 1) (by omega)
  rw [c1Z] at ih'
  by_cases e1 : (n + (d : Int)) * c < i * n
  · refine Ev.step (λ k=>(show puncheonref10_less.l0 (k + 1) q t s i _ _ = _ by simp only [puncheonref10_less.l0]; rw [if_pos c1,if_pos c2,a0A,<- hn,w64 (n:=2 * n) (by omega),if_pos hlt,if_pos c3,if_pos c4,a0A,<- hcc,w1,w2,if_pos e1,w3,w4])) ?_
    rw [if_pos (hiff.2 (.inl e1))] at ih'; exact ih'
  · by_cases e2 : (n + (d : Int)) * c = i * n
    · by_cases e3 : (t : Int) < s
      · refine Ev.step (λ k=>(show puncheonref10_less.l0 (k + 1) q t s i _ _ = _ by simp only [puncheonref10_less.l0]; rw [if_pos c1,if_pos c2,a0A,<- hn,w64 (n:=2 * n) (by omega),if_pos hlt,if_pos c3,if_pos c4,a0A,<- hcc,w1,w2,if_neg e1,if_pos e2,if_pos e3,w3,w4])) ?_
        rw [if_pos (hiff.2 (.inr ⟨e2,e3⟩))] at ih'; exact ih'
      · refine Ev.step (λ k=>(show puncheonref10_less.l0 (k + 1) q t s i _ _ = _ by simp only [puncheonref10_less.l0]; rw [if_pos c1,if_pos c2,a0A,<- hn,w64 (n:=2 * n) (by omega),if_pos hlt,if_pos c3,if_pos c4,a0A,<- hcc,w1,w2,if_neg e1,if_pos e2,if_neg e3,w3])) ?_
        rw [if_neg (λ h=>by rcases hiff.1 h with h | h; exact e1 h; exact e3 h.2)] at ih'; exact ih'
    · refine Ev.step (λ k=>(show puncheonref10_less.l0 (k + 1) q t s i _ _ = _ by simp only [puncheonref10_less.l0]; rw [if_pos c1,if_pos c2,a0A,<- hn,w64 (n:=2 * n) (by omega),if_pos hlt,if_pos c3,if_pos c4,a0A,<- hcc,w1,w2,if_neg e1,if_neg e2,w3])) ?_
      rw [if_neg (λ h=>by rcases hiff.1 h with h | h; exact e1 h; exact e2 h.1)] at ih'; exact ih'
theorem c2c {q : List Int} (hq : Good q) {t s : Nat} (ht : t < 256) (hs : s < 256) {i : Int} (hc : 0 < q.getD s 0) (hi : q.getD s 0 <= i /\ i < 2 * q.getD s 0) : Ev (λ k=>puncheonref10_less.f k q t s i) (lessN (q.getD t 0) t (i,q.getD s 0,(s : Int)) (q.getD t 0).toNat : Nat):=by
 have hl:=hq.len
 have h:=c2b hq ht hs hc hi (q.getD t 0).toNat 0 (by have:=hq.get t; omega)
 refine Ev.congr (λ k=>(show puncheonref10_less.f k q t s i = _ by unfold puncheonref10_less.f; rw [if_pos (by omega),if_pos (by omega),a0A])) ?_
 have e : lessN (q.getD t 0) t (i,q.getD s 0,(s : Int)) 0 = 0:=rfl
 rw [e] at h
 simpa using h
theorem b3C (n : Int) (t : Nat) (x : K3) : lessN n t x n.toNat = (a0X n t).countP (λ y=>lessK y x):=by
 unfold lessN a0X; rw [List.countP_map]; rfl
theorem c2d {q : List Int} (hq : Good q) {s : Nat} (hs : s < 256) {i : Int} (hc : 0 < q.getD s 0) (hi : q.getD s 0 <= i /\ i < 2 * q.getD s 0) : ∀ (d t : Nat),t + d = q.length -> Ev (λ k=>puncheonref10_Place.l0 k q s i ((a0y (q.take t)).countP (λ y=>lessK y (i,q.getD s 0,(s : Int))) : Nat) (t : Int)) ((a0y q).countP (λ y=>lessK y (i,q.getD s 0,(s : Int))) : Nat):=by
 have hl:=hq.len
 intro d
 induction d with
 | zero=>
  intro t ht
  refine Ev.step (λ k=>(show puncheonref10_Place.l0 (k + 1) q s i _ _ = _ by simp only [puncheonref10_Place.l0]; rw [if_neg (by omega)])) ?_
  rw [show t = q.length by omega,List.take_length]; exact Ev.now _
 | succ d ih=>
  intro t ht
  have hlt : (t : Int) < (q.length : Int):=by omega
  refine Ev.step (λ k=>(show puncheonref10_Place.l0 (k + 1) q s i _ _ = _ by simp only [puncheonref10_Place.l0]; rw [if_pos hlt])) ?_
  refine Ev.bind (c2c hq (by omega) hs hc hi) ?_
  have ih':=ih (t + 1) (by omega)
  rw [a2S (by omega),List.countP_append,<- b3C] at ih'
  have hb : (a0y (q.take t)).countP (λ y=>lessK y (i,q.getD s 0,(s : Int))) + lessN (q.getD t 0) t (i,q.getD s 0,(s : Int)) (q.getD t 0).toNat <= 4096:=by
   rw [b3C,<- List.countP_append,<- a2S (by omega)]
   refine Nat.le_trans List.countP_le_length ?_
   have h1:=a6b hq.nonneg
   have h2:=hq.sum
   have h3 : (a0y (q.take (t + 1))).length <= (a0y q).length:=by
    have h5 : ∀ a b : List Int,a0y (a ++ b) = a0y a ++ (b.zipIdx a.length).flatMap (λ p=>a0X p.1 p.2):=λ a b=>by simp [a0y,List.zipIdx_append]
    have h4:=h5 (q.take (t + 1)) (q.drop (t + 1))
    rw [List.take_append_drop] at h4
    rw [h4,List.length_append]; omega
   omega
  rw [w64 (n:=_ + _) (by omega),wS t (by omega)]
  rw [Int.natCast_add] at ih'
  exact ih'
theorem b3D {q : List Int} (hl : logC q ≠ 0) {s : Nat} (hs : s < 256) {i : Nat} (h1 : cntC q s <= i) (h2 : i < 2 * cntC q s) : Ev (λ k=>puncheonref10_Place.f k q s i) ((a1d q s).getD (i - cntC q s) 0):=by
 have hq:=a1o hl
 have hc:=a1J hq s
 have hg:=hq.get s
 have:=c2d hq hs (i:=i) (by omega) (by omega) q.length 0 (by omega)
 have e0 : (a0y (q.take 0)).countP (λ y=>lessK y ((i : Int),q.getD s 0,(s : Int))) = 0:=by simp [a0y]
 rw [e0] at this
 obtain ⟨P,e1,hP,e2⟩:=c1Y hq hs (d:=i - cntC q s) (by omega)
 have e3:=c1V hq hP
 rw [e2,show q.getD s 0 + ((i - cntC q s : Nat) : Int) = i by omega] at e3
 rw [e3] at this
 rw [e1]
 exact this
theorem a8H (r : Nat) (h : r <= 30) : shl .i64 1 (r : Int) = ((2 ^ r : Nat) : Int):=by
 unfold shl
 have e : min (r : Int).toNat IntKind.i64.bits = r:=by
  have : IntKind.i64.bits = 64:=rfl
  rw [this,Int.toNat_natCast]; omega
 rw [e,Int.one_mul]
 have h2 : (2 : Nat) ^ r <= 2 ^ 30:=Nat.pow_le_pow_right (by omega) h
 have e2 : (2 : Int) ^ r = ((2 ^ r : Nat) : Int):=by simp
 rw [e2]
 obtain ⟨P,hP⟩ : ∃ P : Nat,P = 2 ^ r:=⟨_,rfl⟩
 rw [<- hP] at h2 ⊢
 exact Go.IntWalk.i64_in _ (by omega)
def pkL (b : List Int) (c : Int) (k : Nat) : List Int:=((List.range k).filter (λ j=>decide (ctxI b (j : Nat) = c))).map (λ j=>b.getD j 0)
def a0r (b : List Int) (c : Int) : List Int:=pkL b c b.length
theorem a3S (b : List Int) (c : Int) (k : Nat) : (pkL b c k).length <= k:=by
 unfold pkL; rw [List.length_map]; exact Nat.le_trans (List.length_filter_le _ _) (by simp)
theorem b3E {b : List Int} (hb : Bytes b) (c : Int) (k : Nat) : Bytes (pkL b c k):=by
 intro x hx
 unfold pkL at hx
 obtain ⟨j,_,rfl⟩:=List.mem_map.1 hx
 exact hb.get j
theorem b3F (l : List Int) {y : Nat} (hy : y < 256) : histL (l ++ [(y : Int)]) = (histL l).set y ((l.count (y : Int) : Int) + 1):=by
 unfold histL
 rw [a6E _ hy]
 refine a2Z (λ u _=>?_)
 rw [List.count_append,List.count_singleton]
 by_cases e : u = y
 · subst e; rw [if_pos rfl]; simp
 · rw [if_neg e]
   have : ¬ (y : Int) = (u : Int):=by omega
   simp [this]
theorem a5f (l : List Int) {y : Nat} (hy : y < 256) : (histL l).getD y 0 = (l.count (y : Int) : Int):=by unfold histL; rw [a3R _ hy]
def widN (b : List Int) : Nat -> Nat
 | 0=>0
 | k + 1=>max (widN b k) (manyC (histL (a0r b (k : Nat))))
theorem a4s (c : List Int) : manyC c <= 256:=by
 unfold manyC
 split
 · rename_i h
   have:=List.countP_le_length (p:=λ x=>decide (0 < x)) (l:=c); have:=(rightC_iff.1 h).1; omega
 · omega
theorem a6L (b : List Int) : ∀ k,widN b k <= 256
 | 0=>by simp [widN]
 | k + 1=>by
  have:=a6L b k; have:=a4s (histL (a0r b (k : Nat)))
  simp only [widN]; omega
theorem c2p (n : Nat) (hn : n < 2 ^ 40) : ∀ (d j : Nat),j + d = 41 -> (j = 0 \/ 2 ^ j <= n) -> Ev (λ k=>puncheonref07_Floor.l0 k (n : Int) (j : Int) ((2 ^ (j + 1) : Nat) : Int)) ((a0m n : Nat) : Int):=by
 intro d
 induction d with
 | zero=>
  intro j hj h
  have : 2 ^ 40 <= 2 ^ j:=Nat.pow_le_pow_right (by omega) (by omega)
  exfalso; omega
 | succ d ih=>
  intro j hj h
  have hp : 2 ^ (j + 2) <= 2 ^ 43:=Nat.pow_le_pow_right (by omega) (by omega)
  have e : wrap64 (2 * ((2 ^ (j + 1) : Nat) : Int)) = ((2 ^ (j + 1 + 1) : Nat) : Int):=by
   have : 2 ^ (j + 2) = 2 * 2 ^ (j + 1):=Nat.pow_succ'
   rw [show j + 1 + 1 = j + 2 by omega,this]
   rw [this] at hp
   generalize 2 ^ (j + 1) = P at hp ⊢
   rw [w64 (by omega)]; omega
  by_cases hc : 2 ^ (j + 1) <= n
  · refine Ev.step (λ k=>(show puncheonref07_Floor.l0 (k + 1) (n : Int) (j : Int) _ = _ by simp only [puncheonref07_Floor.l0]; rw [if_pos (Int.ofNat_le.2 hc),if_pos (by omega),wS j (by omega),e])) ?_
    exact ih (j + 1) (by omega) (.inr hc)
  · refine Ev.step (λ k=>(show puncheonref07_Floor.l0 (k + 1) (n : Int) (j : Int) _ = _ by simp only [puncheonref07_Floor.l0]; rw [if_neg (λ h=>hc (Int.ofNat_le.1 h))])) ?_
    have ef : a0m (n : Int) = j:=by
     rcases Nat.eq_zero_or_pos n with h0 | h0
     · subst h0
       have : j = 0:=by
        rcases h with h | h
        · exact h
        · have:=Nat.two_pow_pos j; omega
       rw [this]; rfl
     · have h1 : 2 ^ j <= n:=by
         rcases h with h | h
         · rw [h,Nat.pow_zero]; exact h0
         · exact h
       unfold a0m a1T
       rw [Int.toNat_natCast,a8B h1 (by omega) (by omega)]; omega
    rw [ef]; exact Ev.now _
theorem b3H (n : Nat) (hn : n < 2 ^ 40) : Ev (λ k=>puncheonref07_Floor.f k (n : Int)) ((a0m n : Nat) : Int):=by
 unfold puncheonref07_Floor.f; exact c2p n hn 41 0 rfl (.inl rfl)
def ceilI (n : Int) : Nat:=a1T (n - 1)
def pickI (n m : Nat) (most : Int) : Int:=mx (mx (mn ((a0m n : Int) - 2) most) 5) (ceilI m)
theorem b3I (n : Nat) (h : n < 2 ^ 40) : a0m (n : Int) <= 40:=by
 rcases Nat.eq_zero_or_pos n with h0 | h0
 · subst h0; decide
 · have:=(a2V n h0 (by omega)).1
   have a : ¬ 41 <= a0m (n : Int):=λ e=>by
    have:=Nat.pow_le_pow_right (n:=2) (by omega) e; omega
   omega
def needN (rest : List Int) (had : List Bool) : Nat -> Int
 | 0=>-1
 | k + 1=>if had.getD k false = true then needN rest had k else if needN rest had k < 0 then (k : Int) else if rest.getD k 0 > rest.getD (needN rest had k).toNat 0 then (k : Int) else needN rest had k
theorem a4u (rest : List Int) (had : List Bool) : ∀ k,-1 <= needN rest had k /\ needN rest had k < k /\ (0 <= needN rest had k -> had.getD (needN rest had k).toNat false = false)
 | 0=>by simp [needN]
 | k + 1=>by
  obtain ⟨h1,h2,h3⟩:=a4u rest had k
  simp only [needN]
  cases hk : had.getD k false with
  | true=>rw [if_pos rfl]; exact ⟨h1,by omega,h3⟩
  | false=>
   rw [if_neg (by decide)]
   split
   · exact ⟨by omega,by omega,λ _=>by rw [Int.toNat_natCast]; exact hk⟩
   · split
     · exact ⟨by omega,by omega,λ _=>by rw [Int.toNat_natCast]; exact hk⟩
     · exact ⟨h1,by omega,h3⟩
theorem a8J (rest : List Int) (had : List Bool) {s : Nat} (hs : had.getD s false = false) : ∀ k,s < k -> 0 <= needN rest had k
 | 0,h=>by omega
 | k + 1,h=>by
  simp only [needN]
  by_cases e : s = k
  · subst e
    rw [hs,if_neg (by decide)]
    split
    · omega
    · split <;> omega
  · have ih:=a8J rest had hs k (by omega)
    split
    · exact ih
    · rw [if_neg (by omega)]
      split <;> omega
def richN (q c : List Int) : Nat -> Nat
 | 0=>0
 | k + 1=>if q.getD k 0 > q.getD (richN q c k) 0 \/ q.getD k 0 = q.getD (richN q c k) 0 /\ c.getD k 0 <= c.getD (richN q c k) 0 then k else richN q c k
theorem a4v (q c : List Int) : ∀ k,richN q c k <= k - 1
 | 0=>by simp [richN]
 | k + 1=>by
  have:=a4v q c k
  simp only [richN]; split <;> omega
theorem b3J (q c : List Int) : ∀ k,∀ s,s < k -> q.getD s 0 <= q.getD (richN q c k) 0
 | 0,s,h=>by omega
 | k + 1,s,h=>by
  have ih:=b3J q c k
  simp only [richN]
  split
  · rename_i hc
    by_cases e : s = k
    · subst e; exact Int.le_refl _
    · have:=ih s (by omega); omega
  · rename_i hc
    by_cases e : s = k
    · subst e; omega
    · exact ih s (by omega)
end Go.Proofs.YtipjlneepponpaaGreat
namespace Go.Proofs.YtipjlneepponpaaGreat
open Go.RowKit
theorem a6M (q : List Int) (s : Nat) (y : Int) (h : s < q.length) : (q.set s y).sum = q.sum - q.getD s 0 + y:=by
 induction q generalizing s with
 | nil=>simp at h
 | cons a q ih=>
  cases s with
  | zero=>simp; omega
  | succ s=>
   have:=ih s (by simpa using h)
   simp only [List.set_cons_succ,List.sum_cons,List.getD_cons_succ,this]; omega
theorem a3a (q : List Int) (s t : Nat) (y : Int) (h : s < q.length) : (q.set s y).getD t 0 = if t = s then y else q.getD t 0:=by
 rw [List.getD_eq_getElem?_getD,List.getElem?_set]
 by_cases e : s = t
 · subst e; rw [if_pos rfl,if_pos h,if_pos rfl]; rfl
 · rw [if_neg e,if_neg (λ x=>e x.symm),List.getD_eq_getElem?_getD]
def q0F (c : List Int) (P n : Int) (s : Nat) : Int:=if c.getD s 0 * P / n = 0 then min (c.getD s 0) 1 else c.getD s 0 * P / n
def q0L (c : List Int) (P n : Int) : List Int:=mapR (q0F c P n)
def restL (c : List Int) (P n : Int) : List Int:=mapR (λ s=>c.getD s 0 * P % n)
def hadL (c : List Int) (P n : Int) : List Bool:=(List.range 256).map (λ s=>decide (c.getD s 0 * P / n = 0))
def a0S (rest : List Int) : Nat -> List Int × List Bool -> List Int × List Bool
 | 0,st=>st
 | m + 1,st=>let r:=a0S rest m st; (r.1.set (needN rest r.2 256).toNat (r.1.getD (needN rest r.2 256).toNat 0 + 1),r.2.set (needN rest r.2 256).toNat true)
def a0P (c : List Int) : Nat -> List Int -> List Int
 | 0,q=>q
 | m + 1,q=>let r:=a0P c m q; r.set (richN r c 256) (r.getD (richN r c 256) 0 - 1)
def giveM (c : List Int) (P n : Int) : Nat:=(P - (q0L c P n).sum).toNat
def normL (c : List Int) (r : Nat) : List Int:=
 let P : Int:=2 ^ r
 let n:=c.sum
 let g:=(a0S (restL c P n) (giveM c P n) (q0L c P n,hadL c P n)).1
 a0P c (g.sum - P).toNat g
theorem c2B {f g : Nat -> Int} (h : ∀ s,s < 256 -> f s <= g s) : (mapR f).sum <= (mapR g).sum:=by
 unfold mapR
 have key : ∀ l : List Nat,(∀ s ∈ l,f s <= g s) -> (l.map f).sum <= (l.map g).sum:=by
  intro l
  induction l with
  | nil=>intro _; simp
  | cons a l ih=>
   intro hl
   have:=ih (λ s hs=>hl s (by simp [hs])); have:=hl a (by simp)
   simp only [List.map_cons,List.sum_cons]; omega
 exact key _ (λ s hs=>h s (List.mem_range.1 hs))
theorem b3K {c : List Int} (h : c.length = 256) : mapR (λ s=>c.getD s 0) = c:=by
 apply List.ext_getElem
 · rw [a1v,h]
 · intro i h1 h2; simp [mapR,List.getElem?_eq_getElem h2]
theorem b3L (f : Nat -> Int) (k : Int) : (mapR (λ s=>f s * k)).sum = (mapR f).sum * k:=by
 unfold mapR
 induction List.range 256 with
 | nil=>simp
 | cons a l ih=>simp only [List.map_cons,List.sum_cons,ih,Int.add_mul]
theorem c2C (f g : Nat -> Int) : (mapR (λ s=>f s + g s)).sum = (mapR f).sum + (mapR g).sum:=by
 unfold mapR
 induction List.range 256 with
 | nil=>simp
 | cons a l ih=>simp only [List.map_cons,List.sum_cons,ih]; omega
def freeN (had : List Bool) : Nat:=had.countP (λ b=>!b)
theorem c2D (c : List Int) (P n : Int) : ((freeN (hadL c P n) : Nat) : Int) = (mapR (λ s=>if c.getD s 0 * P / n = 0 then 0 else 1)).sum:=by
 unfold freeN hadL mapR
 induction List.range 256 with
 | nil=>simp
 | cons a l ih=>
  have e1 : ((if (!decide (c.getD a 0 * P / n = 0)) = true then 1 else 0 : Nat) : Int) = if c.getD a 0 * P / n = 0 then 0 else 1:=by
   by_cases e : c.getD a 0 * P / n = 0
   · rw [if_pos e,decide_eq_true e]; rfl
   · rw [if_neg e,decide_eq_false e]; rfl
  rw [List.map_cons,List.map_cons,List.countP_cons,List.sum_cons,Int.natCast_add,ih,e1]; omega
structure Can (c : List Int) (r : Nat) : Prop where
 len : c.length = 256
 nonneg : ∀ x ∈ c,0 <= x
 pos : 0 < c.sum
 le : c.sum <= 1073741824
 r1 : 1 <= r
 r12 : r <= 12
 many : c.countP (λ x=>decide (0 < x)) <= 2 ^ r
theorem Can.get {c : List Int} {r : Nat} (h : Can c r) (s : Nat) : 0 <= c.getD s 0 /\ c.getD s 0 <= c.sum:=by
 by_cases hs : s < c.length
 · exact ⟨h.nonneg _ (a1S hs),a5T h.nonneg (a1S hs)⟩
 · rw [List.getD_eq_getElem?_getD,List.getElem?_eq_none (by omega)]; have:=h.pos; simp; omega
theorem Can.q0 {c : List Int} {r : Nat} (h : Can c r) (s : Nat) : 0 <= q0F c (2 ^ r) c.sum s /\ q0F c (2 ^ r) c.sum s <= 4096 /\ (0 < q0F c (2 ^ r) c.sum s ↔ 0 < c.getD s 0) /\ c.getD s 0 * 2 ^ r <= (q0F c (2 ^ r) c.sum s + (if c.getD s 0 * 2 ^ r / c.sum = 0 then 0 else 1)) * c.sum:=by
 have hg:=h.get s
 have hp:=h.pos
 have h2:=a1y h.r12
 have hm0 : 0 <= c.getD s 0 * 2 ^ r:=Int.mul_nonneg hg.1 (by omega)
 have hd0 : 0 <= c.getD s 0 * 2 ^ r / c.sum:=Int.ediv_nonneg hm0 (by omega)
 have hdm:=Int.mul_ediv_add_emod (c.getD s 0 * 2 ^ r) c.sum
 have hml:=Int.emod_lt_of_pos (c.getD s 0 * 2 ^ r) hp
 have hmn:=Int.emod_nonneg (c.getD s 0 * 2 ^ r) (b:=c.sum) (by omega)
 have hle : c.getD s 0 * 2 ^ r / c.sum <= 2 ^ r:=by
  refine Int.ediv_le_of_le_mul hp ?_
  rw [Int.mul_comm]; exact Int.mul_le_mul_of_nonneg_left hg.2 (by omega)
 unfold q0F
 by_cases e : c.getD s 0 * 2 ^ r / c.sum = 0
 · rw [if_pos e,if_pos e]
   rw [e,Int.mul_zero,Int.zero_add] at hdm
   refine ⟨by omega,by omega,by omega,?_⟩
   by_cases e2 : c.getD s 0 = 0
   · rw [e2,show min (0 : Int) 1 = 0 by decide]; simp
   · rw [show min (c.getD s 0) 1 = 1 by omega]; omega
 · rw [if_neg e,if_neg e]
   refine ⟨hd0,by omega,⟨λ _=>?_,λ _=>by omega⟩,?_⟩
   · by_cases e2 : c.getD s 0 = 0
     · rw [e2] at e; simp at e
     · omega
   · rw [Int.add_mul,Int.one_mul,Int.mul_comm (c.getD s 0 * 2 ^ r / c.sum)]; omega
theorem Can.enough {c : List Int} {r : Nat} (h : Can c r) : (2 : Int) ^ r <= (q0L c (2 ^ r) c.sum).sum + freeN (hadL c (2 ^ r) c.sum):=by
 have h1 : (mapR (λ s=>c.getD s 0 * 2 ^ r)).sum <= (mapR (λ s=>(q0F c (2 ^ r) c.sum s + (if c.getD s 0 * 2 ^ r / c.sum = 0 then 0 else 1)) * c.sum)).sum:=c2B (λ s _=>(h.q0 s).2.2.2)
 rw [b3L,b3L,c2C,b3K h.len,<- c2D,Int.mul_comm c.sum] at h1
 exact Int.le_of_mul_le_mul_right h1 h.pos
theorem a8K {had : List Bool} (hl : had.length = 256) (h : 0 < freeN had) : ∃ s,s < 256 /\ had.getD s false = false:=by
 unfold freeN at h
 obtain ⟨b,hb,hbf⟩:=List.countP_pos_iff.1 h
 obtain ⟨s,hs,rfl⟩:=List.getElem_of_mem hb
 refine ⟨s,by omega,?_⟩
 rw [List.getD_eq_getElem?_getD,List.getElem?_eq_getElem hs]; simpa using hbf
theorem b3M {had : List Bool} {s : Nat} (hs : s < had.length) (h : had.getD s false = false) : freeN (had.set s true) + 1 = freeN had:=by
 unfold freeN
 induction had generalizing s with
 | nil=>simp at hs
 | cons a l ih=>
  cases s with
  | zero=>simp at h; subst h; simp
  | succ s=>
   have:=ih (s:=s) (by simpa using hs) (by simpa using h)
   simp only [List.set_cons_succ,List.countP_cons]; omega
structure Way (c q : List Int) : Prop where
 len : q.length = 256
 rng : ∀ s,0 <= q.getD s 0 /\ q.getD s 0 <= 100000
 iff : ∀ s,0 < q.getD s 0 ↔ 0 < c.getD s 0
theorem a4w {c : List Int} {r : Nat} (h : Can c r) : ∀ m,m <= giveM c (2 ^ r) c.sum ->
    let st:=a0S (restL c (2 ^ r) c.sum) m (q0L c (2 ^ r) c.sum,hadL c (2 ^ r) c.sum)
    st.1.length = 256 /\ st.2.length = 256 /\ (∀ s,0 <= st.1.getD s 0 /\ st.1.getD s 0 <= 4096 + m) /\ (∀ s,0 < st.1.getD s 0 ↔ 0 < c.getD s 0) /\ st.1.sum = (q0L c (2 ^ r) c.sum).sum + m /\ freeN st.2 + m = freeN (hadL c (2 ^ r) c.sum) /\
     (∀ s,s < 256 -> st.2.getD s false = false -> 0 < c.getD s 0)
 | 0,_=>by
  have hlen : (q0L c (2 ^ r) c.sum).length = 256:=a1v _
  refine ⟨hlen,by simp [a0S,hadL],λ s=>?_,λ s=>?_,by simp [a0S],rfl,λ s hs hf=>?_⟩
  · show 0 <= (q0L c (2 ^ r) c.sum).getD s 0 /\ (q0L c (2 ^ r) c.sum).getD s 0 <= 4096 + ((0 : Nat) : Int)
    by_cases hs : s < 256
    · unfold q0L; rw [a3R _ hs]; have:=h.q0 s; exact ⟨this.1,by have:=this.2.1; omega⟩
    · rw [List.getD_eq_getElem?_getD,List.getElem?_eq_none (by omega)]; simp
  · show 0 < (q0L c (2 ^ r) c.sum).getD s 0 ↔ _
    by_cases hs : s < 256
    · unfold q0L; rw [a3R _ hs]; exact (h.q0 s).2.2.1
    · rw [List.getD_eq_getElem?_getD,List.getElem?_eq_none (by omega),List.getD_eq_getElem?_getD,List.getElem?_eq_none (by have:=h.len; omega)]
  · have hf2 : (hadL c (2 ^ r) c.sum).getD s false = false:=hf
    unfold hadL at hf2
    rw [List.getD_eq_getElem?_getD,List.getElem?_map,List.getElem?_range hs] at hf2
    simp only [Option.map_some,Option.getD_some,decide_eq_false_iff_not] at hf2
    have:=(h.get s).1
    by_cases e2 : c.getD s 0 = 0
    · rw [e2] at hf2; simp at hf2
    · omega
 | m + 1,hm=>by
  obtain ⟨h1,h2,h3,h4,h5,h6,h7⟩:=a4w h m (by omega)
  have hen:=h.enough
  obtain ⟨st,hst⟩ : ∃ st,st = a0S (restL c (2 ^ r) c.sum) m (q0L c (2 ^ r) c.sum,hadL c (2 ^ r) c.sum):=⟨_,rfl⟩
  simp only [a0S]
  rw [<- hst] at h1 h2 h3 h4 h5 h6 h7 ⊢
  have hM : (m : Int) + 1 <= 2 ^ r - (q0L c (2 ^ r) c.sum).sum:=by unfold giveM at hm; omega
  obtain ⟨s0,hs0,hf0⟩:=a8K h2 (by omega)
  have hn0:=a8J (restL c (2 ^ r) c.sum) st.2 hf0 256 hs0
  have hnl:=a4u (restL c (2 ^ r) c.sum) st.2 256
  obtain ⟨t,ht⟩ : ∃ t : Nat,needN (restL c (2 ^ r) c.sum) st.2 256 = t:=⟨_,(Int.toNat_of_nonneg hn0).symm⟩
  rw [ht] at hnl ⊢
  have htf:=hnl.2.2 (by omega)
  rw [Int.toNat_natCast] at htf ⊢
  have ht256 : t < 256:=by omega
  have hct:=h7 t ht256 htf
  have hg:=h3 t
  refine ⟨by rw [List.length_set]; exact h1,by rw [List.length_set]; exact h2,λ s=>?_,λ s=>?_,?_,?_,λ s hs hf=>?_⟩
  · rw [a3a _ _ _ _ (by omega)]
    have:=h3 s
    split <;> omega
  · rw [a3a _ _ _ _ (by omega)]
    by_cases e : s = t
    · subst e; rw [if_pos rfl]; exact ⟨λ _=>hct,λ _=>by omega⟩
    · rw [if_neg e]; exact h4 s
  · rw [a6M _ _ _ (by omega),h5]; omega
  · have:=b3M (had:=st.2) (s:=t) (by omega) htf; omega
  · refine h7 s hs ?_
    by_cases e : s = t
    · subst e; exact htf
    · rw [List.getD_eq_getElem?_getD,List.getElem?_set_ne (λ x=>e x.symm),<- List.getD_eq_getElem?_getD] at hf; exact hf
theorem c2E {q : List Int} (h : ∀ x ∈ q,0 <= x /\ x <= 1) : q.sum <= (q.countP (λ x=>decide (0 < x)) : Nat):=by
 induction q with
 | nil=>simp
 | cons a l ih=>
  have:=ih (λ x hx=>h x (by simp [hx]))
  have ha:=h a (by simp)
  rw [List.sum_cons,List.countP_cons]
  by_cases e : 0 < a
  · simp [e]; omega
  · simp [e]; omega
theorem c2F {c q : List Int} (hc : c.length = 256) (hq : q.length = 256) (h : ∀ s,0 < q.getD s 0 ↔ 0 < c.getD s 0) : q.countP (λ x=>decide (0 < x)) = c.countP (λ x=>decide (0 < x)):=by
 have e : ∀ l : List Int,l.length = 256 -> l.countP (λ x=>decide (0 < x)) = (List.range 256).countP (λ s=>decide (0 < l.getD s 0)):=by
  intro l hl
  have:=b3K hl
  conv=>lhs; rw [<- this]
  unfold mapR
  rw [List.countP_map]; rfl
 rw [e q hq,e c hc]
 exact List.countP_congr (λ s _=>by simp only [decide_eq_true_eq]; exact h s)
theorem a6N {c : List Int} {r : Nat} (h : Can c r) {q : List Int} (hq : Way c q) : ∀ m,m <= (q.sum - 2 ^ r).toNat ->
    Way c (a0P c m q) /\ (a0P c m q).sum = q.sum - m
 | 0,_=>⟨hq,by simp [a0P]⟩
 | m + 1,hm=>by
  obtain ⟨h1,h2⟩:=a6N h hq m (by omega)
  simp only [a0P]
  obtain ⟨t,ht⟩ : ∃ t,t = a0P c m q:=⟨_,rfl⟩
  rw [<- ht] at h1 h2 ⊢
  obtain ⟨b,hb⟩ : ∃ b,b = richN t c 256:=⟨_,rfl⟩
  have hbl:=a4v t c 256
  have hmax:=b3J t c 256
  rw [<- hb] at hbl hmax ⊢
  have hlen:=h1.len
  have hbig : 2 <= t.getD b 0:=by
   by_cases e : 2 <= t.getD b 0
   · exact e
   · exfalso
     have hle : t.sum <= (t.countP (λ x=>decide (0 < x)) : Nat):=c2E (λ x hx=>by
      obtain ⟨s,hs,rfl⟩:=List.getElem_of_mem hx
      have a:=hmax s (by omega); have a2:=h1.rng s
      rw [List.getD_eq_getElem?_getD,List.getElem?_eq_getElem hs,Option.getD_some] at a a2
      omega)
     rw [c2F h.len hlen h1.iff] at hle
     have hmny:=h.many
     have e2 : (2 : Int) ^ r = ((2 ^ r : Nat) : Int):=by simp
     have hmI : (m : Int) + 1 <= q.sum - 2 ^ r:=by omega
     rw [e2] at hmI; omega
  have hrb:=h1.rng b
  have hib:=h1.iff b
  refine ⟨⟨by rw [List.length_set]; exact hlen,λ s=>?_,λ s=>?_⟩,?_⟩
  · rw [a3a _ _ _ _ (by omega)]
    have:=h1.rng s
    split <;> omega
  · rw [a3a _ _ _ _ (by omega)]
    by_cases e : s = b
    · subst e; rw [if_pos rfl]; exact ⟨λ _=>hib.1 (by omega),λ _=>by omega⟩
    · rw [if_neg e]; exact h1.iff s
  · rw [a6M _ _ _ (by omega),h2]; omega
theorem a8L {c : List Int} {r : Nat} (h : Can c r) : Way c (a0S (restL c (2 ^ r) c.sum) (giveM c (2 ^ r) c.sum) (q0L c (2 ^ r) c.sum,hadL c (2 ^ r) c.sum)).1 /\ 2 ^ r <= (a0S (restL c (2 ^ r) c.sum) (giveM c (2 ^ r) c.sum) (q0L c (2 ^ r) c.sum,hadL c (2 ^ r) c.sum)).1.sum:=by
 obtain ⟨h1,h2,h3,h4,h5,h6,h7⟩:=a4w h _ (Nat.le_refl _)
 have h0 : 0 <= (q0L c (2 ^ r) c.sum).sum:=a2F (λ x hx=>by
  obtain ⟨v,hv,rfl⟩:=a6F hx; exact (h.q0 v).1)
 have hp:=a1y h.r12
 have hM : giveM c (2 ^ r) c.sum <= 4096:=by unfold giveM; omega
 refine ⟨⟨h1,λ s=>⟨(h3 s).1,by have:=(h3 s).2; omega⟩,h4⟩,?_⟩
 rw [h5]; unfold giveM; omega
theorem a4x {c : List Int} {r : Nat} (h : Can c r) : Good (normL c r) /\ (normL c r).sum = 2 ^ r /\ ∀ s,0 < (normL c r).getD s 0 ↔ 0 < c.getD s 0:=by
 obtain ⟨hw,hs⟩:=a8L h
 obtain ⟨h1,h2⟩:=a6N h hw _ (Nat.le_refl _)
 have hp:=a1y h.r12
 have e : normL c r = a0P c ((a0S (restL c (2 ^ r) c.sum) (giveM c (2 ^ r) c.sum) (q0L c (2 ^ r) c.sum,hadL c (2 ^ r) c.sum)).1.sum - 2 ^ r).toNat (a0S (restL c (2 ^ r) c.sum) (giveM c (2 ^ r) c.sum) (q0L c (2 ^ r) c.sum,hadL c (2 ^ r) c.sum)).1:=rfl
 rw [<- e] at h1 h2
 have hsum : (normL c r).sum = 2 ^ r:=by rw [h2]; omega
 refine ⟨⟨h1.len,λ x hx=>?_,by omega⟩,hsum,h1.iff⟩
 obtain ⟨s,hs,rfl⟩:=List.getElem_of_mem hx
 have:=h1.rng s
 rw [List.getD_eq_getElem?_getD,List.getElem?_eq_getElem hs] at this; exact this.1
theorem b3N {c : List Int} {r : Nat} (h : Can c r) : logC (normL c r) = r:=by
 obtain ⟨h1,h2,_⟩:=a4x h
 have hp:=a1y h.r12
 have hr : a0N (normL c r) = true:=rightC_iff.2 ⟨h1.len,h1.nonneg,by omega⟩
 unfold logC a1a
 rw [if_pos hr,h2]
 exact a5U h.r1 h.r12 rfl
open Go.IntWalk Go.Proofs.YtipjlneepponpaaGreat.PRef Go.Proofs.YtipjlneepponpaaGreatW.PrintWords Go.Proofs.YtipjlneepponpaaGreatW.PrintLast Go.Proofs.YtipjlneepponpaaGreatW.PrintMore
section
variable (A : Option Addr) (cp : Nat) (c : List Int) (w : World)
theorem c2L (hr : (Kd.int .i64).C w A c.length c) (hc : c.length <= cp) : Calls Tryz.prog 72 #[.slice A c.length cp] w (Ret (.int .i64 (logC c)) w):=by
 obtain ⟨k,hk⟩:=(a4U c).rounds
 exact (puncheonref08_Log.calls k A cp c _ w hr hc hk).mono λ e w' h=>⟨h.1,h.2.below⟩
end
theorem a6O (n : Nat) (hn : n <= 1000000) (w : World) : (Instr.makeSlice 47 (.int .i64 n) (.int .i64 n)).run Tryz.prog w = .ok (.slice (some ⟨w.heap.size,0,none⟩) n n) (w.alloc (.cells (madeCells #[.int .i64 0] n) 3)):=by
 obtain ⟨i0,hi,hzz⟩:=Option.map_eq_some_iff.1 a4i
 simp only [Prod.mk.injEq] at hzz
 obtain ⟨hz0,hz1,hz2⟩:=hzz
 have hr:=run_make (P:=Tryz.prog) w 47 3 i0 (.int .i64 0) Tryz.underlying47 hi hz0 .i64 .i64 (n : Int) (n : Int) (by omega) (by omega) (by rw [hz2]; omega) (by omega)
 rw [hz1] at hr
 simpa [Value.cells] using hr
end Go.Proofs.YtipjlneepponpaaGreat
namespace Go.Proofs.YtipjlneepponpaaGreat
open Go.RowKit Go.IntWalk Go.Proofs.YtipjlneepponpaaGreatW.PrintWords
def qTo (c : List Int) (P n : Int) (k : Nat) : List Int:=mapR (λ s=>if s < k then q0F c P n s else 0)
def rTo (c : List Int) (P n : Int) (k : Nat) : List Int:=mapR (λ s=>if s < k then c.getD s 0 * P % n else 0)
def hTo (c : List Int) (P n : Int) (k : Nat) : List Bool:=(List.range 256).map (λ s=>if s < k then decide (c.getD s 0 * P / n = 0) else false)
theorem a8N (c : List Int) (P n : Int) : qTo c P n 0 = List.replicate 256 0 /\ rTo c P n 0 = List.replicate 256 0 /\ hTo c P n 0 = List.replicate 256 false:=by
 have e : ∀ {α : Type} (z : α) (f : Nat -> α),(∀ s,f s = z) -> (List.range 256).map f = List.replicate 256 z:=λ z f h=>by
  rw [show f = λ _=>z from funext h,List.map_const',List.length_range]
 exact ⟨e 0 (λ s=>if s < 0 then q0F c P n s else 0) (λ s=>by rw [if_neg (by omega)]),e 0 (λ s=>if s < 0 then c.getD s 0 * P % n else 0) (λ s=>by rw [if_neg (by omega)]),e false (λ s=>if s < 0 then decide (c.getD s 0 * P / n = 0) else false) (λ s=>by rw [if_neg (by omega)])⟩
theorem a8O (c : List Int) (P n : Int) : qTo c P n 256 = q0L c P n /\ rTo c P n 256 = restL c P n /\ hTo c P n 256 = hadL c P n:=
 ⟨a2Z (λ s h=>by rw [if_pos h]),a2Z (λ s h=>by rw [if_pos h]),List.map_congr_left (λ s h=>by rw [if_pos (List.mem_range.1 h)])⟩
theorem a6Q (f : Nat -> Int) {k : Nat} (hk : k < 256) : (mapR (λ s=>if s < k then f s else 0)).set k (f k) = mapR (λ s=>if s < k + 1 then f s else 0):=by
 rw [a6E _ hk]
 refine a2Z (λ s _=>?_)
 by_cases e : s = k
 · subst e; rw [if_pos rfl,if_pos (by omega)]
 · rw [if_neg e]
   by_cases e2 : s < k
   · rw [if_pos e2,if_pos (by omega)]
   · rw [if_neg e2,if_neg (by omega)]
theorem b3S (q : List Int) (k : Nat) (x y : Int) : (q.set k x).set k y = q.set k y:=by simp
def a8P (c : List Int) (r : Nat) (w : World) (e : Ending) (w' : World) : Prop:=∃ v,e = .returned (.tuple #[v,.int .i64 0]) /\ (Kd.int .i64).R 3 w' w.heap.size (λ _=>True) v (normL c r) /\ Below w.heap.size w w'
end Go.Proofs.YtipjlneepponpaaGreat
namespace Go.Proofs.YtipjlneepponpaaGreat
open Go.RowKit Go.Proofs.YtipjlneepponpaaGreatW.PrintWords Go.Proofs.YtipjlneepponpaaGreatW.PrintLast Go.Proofs.YtipjlneepponpaaGreatW.PrintMore
theorem a8Q (b : List Int) (hb : Bytes b) : (histL b).sum = b.length:=by
 induction b with
 | nil=>
  unfold histL mapR
  have : ∀ l : List Nat,(l.map (λ (v : Nat)=>(((([] : List Int).count (v : Int)) : Nat) : Int))).sum = 0:=by
   intro l; induction l with
   | nil=>rfl
   | cons a l ih=>rw [List.map_cons,List.sum_cons,ih]; simp
  exact this _
 | cons x l ih=>
  have hx:=hb x (by simp)
  have ih2:=ih (λ y hy=>hb y (by simp [hy]))
  obtain ⟨v,rfl⟩ : ∃ v : Nat,x = v:=⟨x.toNat,by omega⟩
  have e : histL ((v : Int) :: l) = (histL l).set v ((l.count (v : Int) : Int) + 1):=by
   unfold histL
   rw [a6E _ (by omega)]
   refine a2Z (λ u _=>?_)
   rw [List.count_cons]
   by_cases e : u = v
   · subst e; rw [if_pos rfl]; simp
   · rw [if_neg e]
     have : ¬ (v : Int) = (u : Int):=by omega
     simp [this]
  rw [e,a6M _ _ _ (by unfold histL; rw [a1v]; omega),a5f _ (by omega),ih2,List.length_cons]
  omega
theorem a8R (b : List Int) {s : Nat} (hs : s < 256) : 0 < (histL b).getD s 0 ↔ (s : Int) ∈ b:=by
 rw [a5f _ hs,<- List.count_pos_iff]; omega
theorem c2Y (m : Nat) (h : m <= 256) : ceilI m <= 8 /\ m <= 2 ^ ceilI m:=by
 unfold ceilI a1T
 rcases Nat.lt_or_ge m 2 with h2 | h2
 · rw [show ((m : Int) - 1).toNat = 0 by omega]
   exact ⟨by decide,by have : Lib.bitLen 0 = 0:=by decide
                       rw [this]; omega⟩
 · obtain ⟨y,hy⟩ : ∃ y,y = m - 1:=⟨_,rfl⟩
   rw [show ((m : Int) - 1).toNat = y by omega]
   obtain ⟨a,b,c⟩:=a2U y (by omega) (by omega)
   have:=Lib.bitLen_le8' (y : Int) (by omega) (by omega)
   rw [Int.toNat_natCast] at this
   exact ⟨this,by omega⟩
theorem b3V (n m : Nat) (most : Nat) (h : m <= 256) (h8 : 8 <= most) (h12 : most <= 12) : ∃ r : Nat,pickI n m most = r /\ 5 <= r /\ r <= most /\ m <= 2 ^ r:=by
 obtain ⟨c1,c2⟩:=c2Y m h
 have hr : 5 <= pickI n m most /\ pickI n m most <= most /\ (ceilI m : Int) <= pickI n m most:=by
  unfold pickI mx mn
  split <;> (split <;> (split <;> omega))
 refine ⟨(pickI n m most).toNat,by omega,by omega,by omega,?_⟩
 have : 2 ^ ceilI m <= 2 ^ (pickI n m most).toNat:=Nat.pow_le_pow_right (by omega) (by omega)
 omega
theorem b3W {c : List Int} (h : a0N c = true) : manyC c = c.countP (λ x=>decide (0 < x)):=by unfold manyC; rw [if_pos h]
theorem a5g (b : List Int) (hb : Bytes b) (hl : b.length <= 1000000) : a0N (histL b) = true:=
 rightC_iff.2 ⟨a1v _,λ x hx=>by obtain ⟨v,_,rfl⟩:=a6F hx; omega,by rw [a8Q b hb]; omega⟩
theorem b3X {b : List Int} {r : Nat} (hb : Bytes b) (hl : b.length <= 1000000) (h0 : 0 < b.length) (h1 : 1 <= r) (h12 : r <= 12) (hm : manyC (histL b) <= 2 ^ r) : Can (histL b) r:=
 ⟨a1v _,λ x hx=>by obtain ⟨v,_,rfl⟩:=a6F hx; omega,by rw [a8Q b hb]; omega,by rw [a8Q b hb]; omega,h1,h12,by rw [<- b3W (a5g b hb hl)]; exact hm⟩
def zeroR (b : List Int) : Nat:=(pickI b.length (manyC (histL b)) 11).toNat
def zeroQ (b : List Int) : List Int:=normL (histL b) (zeroR b)
theorem a3T (b : List Int) : pickI b.length (manyC (histL b)) 11 = (zeroR b : Int) /\ 5 <= zeroR b /\ zeroR b <= 11 /\ manyC (histL b) <= 2 ^ zeroR b:=by
 obtain ⟨r,h1,h2,h3,h4⟩:=b3V b.length (manyC (histL b)) 11 (a4s _) (by omega) (by omega)
 have e : zeroR b = r:=by unfold zeroR; rw [show ((11 : Nat) : Int) = 11 from rfl] at h1; rw [h1]; simp
 rw [e]; exact ⟨h1,h2,h3,h4⟩
theorem b3Y {lg : Int} {q : List Int} (h : logC q ≠ 0) (h2 : (logC q : Int) = lg) : badQ lg q = false:=by
 unfold badQ; exact decide_eq_false (λ x=>x.2 ⟨h,h2⟩)
theorem c2Z (lg : Int) : badQ lg [] = false:=by unfold badQ; exact decide_eq_false (λ x=>by simp at x)
theorem a5h {b : List Int} (hb : Bytes b) (hl : b.length <= 1000000) (h0 : 0 < b.length) : Can (histL b) (zeroR b):=by
 have:=a3T b
 exact b3X hb hl h0 (by omega) (by omega) this.2.2.2
theorem c3a {b : List Int} (hb : Bytes b) (hl : b.length <= 1000000) (h0 : 0 < b.length) : a0w (zeroR b) true [zeroQ b] = true:=by
 have hc:=a5h hb hl h0
 have hz:=a3T b
 have hlog:=b3N hc
 have hlen:=(a4x hc).1.len
 unfold a0w
 rw [if_neg (by omega),if_neg (by
  simp only [List.any_cons,List.any_nil,Bool.or_false]
  rw [b3Y (q:=zeroQ b) (by unfold zeroQ; omega) (by unfold zeroQ; rw [hlog])]; decide)]
 rw [if_pos rfl,decide_eq_true_eq]
 have h0 : 0 < (normL (histL b) (zeroR b)).length:=by omega
 refine ⟨List.length_singleton,?_⟩
 rw [List.getD_cons_zero]; unfold zeroQ; exact h0
theorem c3b {b : List Int} (hb : Bytes b) (hl : b.length <= 1000000) (h0 : 0 < b.length) : fitsM (zeroR b) true [zeroQ b] b = true:=by
 have hc:=a5h hb hl h0
 have hn:=a4x hc
 unfold fitsM
 rw [c3a hb hl h0,Bool.true_and,List.all_eq_true]
 intro i hi
 have hi':=List.mem_range.1 hi
 have hg:=hb.get i
 obtain ⟨x,hx⟩ : ∃ x : Nat,b.getD i 0 = x:=⟨(b.getD i 0).toNat,by omega⟩
 unfold fitAt
 rw [decide_eq_true_eq]
 have e0 : ([zeroQ b].getD (listI true (ctxI b i)) []) = normL (histL b) (zeroR b):=by unfold listI; rw [if_pos rfl,List.getD_cons_zero]; rfl
 rw [e0]
 refine ⟨by have:=hn.1.len; omega,?_⟩
 rw [hx,Int.toNat_natCast]
 have h1:=(hn.2.2 x).2 ((a8R b (by omega)).2 (by rw [<- hx]; exact a1S hi'))
 omega
def a0v (b : List Int) : Nat:=(pickI b.length (widN b 256) 9).toNat
def a1l (b : List Int) (c : Nat) : List Int:=if 0 < (a0r b (c : Int)).length then normL (histL (a0r b (c : Int))) (a0v b) else []
def a0E (b : List Int) : List (List Int):=(List.range 256).map (a1l b)
theorem a2H (b : List Int) : pickI b.length (widN b 256) 9 = (a0v b : Int) /\ 5 <= a0v b /\ a0v b <= 9 /\ widN b 256 <= 2 ^ a0v b:=by
 obtain ⟨r,h1,h2,h3,h4⟩:=b3V b.length (widN b 256) 9 (a6L b _) (by omega) (by omega)
 have e : a0v b = r:=by unfold a0v; rw [show ((9 : Nat) : Int) = 9 from rfl] at h1; rw [h1]; simp
 rw [e]; exact ⟨h1,h2,h3,h4⟩
theorem b3Z (b : List Int) : ∀ k c,c < k -> manyC (histL (a0r b (c : Nat))) <= widN b k
 | 0,c,h=>by omega
 | k + 1,c,h=>by
  simp only [widN]
  by_cases e : c = k
  · subst e; omega
  · have:=b3Z b k c (by omega); omega
theorem c3c (b : List Int) (c : Int) : (a0r b c).length <= b.length:=a3S b c b.length
theorem a5i {b : List Int} (hb : Bytes b) (hl : b.length <= 1000000) {c : Nat} (hc : c < 256) (h0 : 0 < (a0r b (c : Int)).length) : Can (histL (a0r b (c : Int))) (a0v b):=by
 have h1:=a2H b
 have h2:=b3Z b 256 c hc
 have h3:=c3c b (c : Int)
 exact b3X (b3E hb _ _) (by omega) h0 (by omega) (by omega) (by omega)
theorem a8S (b : List Int) : (a0E b).length = 256:=by simp [a0E]
theorem a6S (b : List Int) {c : Nat} (h : c < 256) : (a0E b).getD c [] = a1l b c:=by
 unfold a0E; rw [List.getD_eq_getElem?_getD,List.getElem?_map,List.getElem?_range h]; rfl
theorem c3d {b : List Int} (hb : Bytes b) (hl : b.length <= 1000000) : a0w (a0v b) false (a0E b) = true:=by
 have hz:=a2H b
 unfold a0w
 rw [if_neg (by omega),if_neg]
 · rw [if_neg (by decide),decide_eq_true_eq]; exact a8S b
 · rw [Bool.not_eq_true,List.any_eq_false]
   intro q hq
   unfold a0E at hq
   obtain ⟨c,hc,rfl⟩:=List.mem_map.1 hq
   unfold a1l
   split
   · rename_i h0
     have hlog:=b3N (a5i hb hl (List.mem_range.1 hc) h0)
     rw [b3Y (by omega) (by rw [hlog])]; decide
   · rw [c2Z]; decide
theorem c3e {b : List Int} (hb : Bytes b) (hl : b.length <= 1000000) : fitsM (a0v b) false (a0E b) b = true:=by
 unfold fitsM
 rw [c3d hb hl,Bool.true_and,List.all_eq_true]
 intro i hi
 have hi':=List.mem_range.1 hi
 have hg:=hb.get i
 have hcr:=a3M hb i hi'
 obtain ⟨x,hx⟩ : ∃ x : Nat,b.getD i 0 = x:=⟨(b.getD i 0).toNat,by omega⟩
 obtain ⟨c,hc⟩ : ∃ c : Nat,ctxI b i = c:=⟨(ctxI b i).toNat,by omega⟩
 have hmem : b.getD i 0 ∈ a0r b (c : Int):=by
  unfold a0r pkL
  exact List.mem_map.2 ⟨i,List.mem_filter.2 ⟨hi,by rw [decide_eq_true_eq]; exact hc⟩,rfl⟩
 have hpos : 0 < (a0r b (c : Int)).length:=List.length_pos_of_mem hmem
 have hcan:=a5i hb hl (c:=c) (by omega) hpos
 have hn:=a4x hcan
 have e : (a0E b).getD (listI false (ctxI b i)) [] = normL (histL (a0r b (c : Int))) (a0v b):=by
  rw [hc]
  show (a0E b).getD ((c : Int)).toNat [] = _
  rw [Int.toNat_natCast,a6S b (by omega)]
  unfold a1l; rw [if_pos hpos]
 unfold fitAt
 rw [decide_eq_true_eq,e]
 refine ⟨by have:=hn.1.len; omega,?_⟩
 rw [hx,Int.toNat_natCast]
 have h1:=(hn.2.2 x).2 ((a8R _ (by omega)).2 (by rw [<- hx]; exact hmem))
 omega
end Go.Proofs.YtipjlneepponpaaGreat
namespace Go.Proofs.YtipjlneepponpaaGreat
open Go.RowKit Go.IntWalk Go.Proofs.YtipjlneepponpaaGreatW.PrintWords
def MadeM (lg : Int) (one : Bool) (qs : List (List Int)) (w : World) (e : Ending) (w' : World) : Prop:=∃ v,e = .returned (.agg #[.int .i64 lg,.bool one,v]) /\ kq.R 47 w' w.heap.size (λ _=>True) v qs /\ Below w.heap.size w w'
theorem cell3 {w : World} {mb : Nat} {a b c : Value} {t : Nat} (h : w.heap[mb]? = some (.cells #[a,b,c] t (0,0))) : (w.cell? ⟨mb,0,none⟩ = some a /\ w.cell? ⟨mb,1,none⟩ = some b /\ w.cell? ⟨mb,2,none⟩ = some c) /\ (w.frozen? ⟨mb,0,none⟩ = false /\ w.frozen? ⟨mb,1,none⟩ = false /\ w.frozen? ⟨mb,2,none⟩ = false):=
 ⟨⟨(a0a h 0).trans rfl,(a0a h 1).trans rfl,(a0a h 2).trans rfl⟩,a0e h 0,a0e h 1,a0e h 2⟩
theorem a5j : (Tryz.prog.info? 31).map (·.size) = some 3:=by kernel_rfl
theorem a6T {w : World} {base : Nat} {v : Value} {q : List Int} (h : (Kd.int .i64).R 3 w base (λ _=>True) v q) (hb : base <= w.heap.size) : kq.R 47 (w.alloc (.cells #[v] 47)) base (λ k=>base <= k) (.slice (some ⟨w.heap.size,0,none⟩) 1 1) [q]:=by
 have hne : ∀ k,v.ownBlock = some k -> base <= k /\ k < w.heap.size:=λ k hk=>((Kd.R_bound h).1 k hk).2.imp id (λ x=>x.1)
 refine ⟨λ k hk=>by cases hk; exact hb,[v],⟨rfl,.inr ⟨w.heap.size,1,#[v],rfl,hb,a0n w _,Nat.le_refl _,by unfold maxLen; omega,rfl,rfl⟩⟩,rfl,λ j p hj=>?_⟩
 have hj0 : j = 0:=by
  rcases Nat.eq_zero_or_pos j with e | e
  · exact e
  · rw [List.getElem?_eq_none (by simp; omega)] at hj; cases hj
 subst hj0
 cases hj
 refine ⟨v,rfl,Kd.R_alloc (Kd.R_mono (Kd.R_tight rfl h) (λ k hk=>⟨(hne k hk.symm).1,λ e=>?_⟩)) _⟩
 have:=(hne k hk.symm).2
 have h2 : k = w.heap.size:=Option.some.inj e
 omega
theorem a6U : (Tryz.prog.info? 47).map (λ i=>(i.zero,i.size,i.bytes)) = some (some (.slice none 0 0),1,24):=by kernel_rfl
theorem a3r {w w' : World} (h : Below w.heap.size w w') (o : Obj) : Below w.heap.size w (w'.alloc o):=h.alloc h.size o
theorem a4y {w w' : World} (h : Below w.heap.size w w') : Below w.heap.size w w'.drew:=h.drew
theorem a0g {w w1 w2 : World} (h : Below w.heap.size w w1) (k : Below w1.heap.size w1 w2) : Below w.heap.size w w2:=h.trans (k.mono h.size)
theorem b4c {w w' : World} (h : Below w.heap.size w w') {k o : Nat} (hk : w.heap.size <= k) (a : Value) : Below w.heap.size w (w'.setCell ⟨k,o,none⟩ a):=h.setCell hk a
theorem a2y (W : World) (a o : Obj) : ((W.alloc a).alloc o).heap[W.heap.size + 1]? = some o:=by
 have:=a0n (W.alloc a) o
 rw [show (W.alloc a).heap.size = W.heap.size + 1 by simp] at this; exact this
theorem a1w {w : World} {mb : Nat} {t : Nat} {a b c : Value} (h : w.heap[mb]? = some (.cells #[a,b,c] t (0,0))) (x y z : Value) : (((w.setCell ⟨mb,0,none⟩ x).setCell ⟨mb,1,none⟩ y).setCell ⟨mb,2,none⟩ z).heap[mb]? = some (.cells #[x,y,z] t (0,0)):=by
 rw [a0x (a0x (a0x h 0 _) 1 _) 2]; rfl
theorem a2j {α : Type} {d : Kd α} {e : Nat} {w : World} {base mb : Nat} {v : Value} {xs : List α} (h : d.R e w base (λ k=>k ≠ mb) v xs) (x y z : Value) : d.R e (((w.setCell ⟨mb,0,none⟩ x).setCell ⟨mb,1,none⟩ y).setCell ⟨mb,2,none⟩ z) base (λ k=>k ≠ mb) v xs:=
 Kd.R_far (p:=⟨mb,2,none⟩) (Kd.R_far (p:=⟨mb,1,none⟩) (Kd.R_far (p:=⟨mb,0,none⟩) h (λ _ hk=>hk) x) (λ _ hk=>hk) y) (λ _ hk=>hk) z
theorem a8T {w : World} {g : Nat} {o : Obj} (h : w.heap[g]? = some o) : w.drew.heap[g]? = some o:=h
def ofR (b : List Int) (one : Bool) : Nat:=if one then zeroR b else a0v b
def ofQ (b : List Int) (one : Bool) : List (List Int):=if one then [zeroQ b] else a0E b
theorem c3l {w W1 wr : World} {lg : Int} {one : Bool} {qs : List (List Int)} {v : Value} (hb : Below w.heap.size w W1) (hlt : w.heap.size < W1.heap.size) (hk : W1.heap[w.heap.size]? = some (.cells #[.int .i64 0,.bool false,.slice none 0 0] 31 (0,0))) (hv : kq.R 47 wr W1.heap.size (λ _=>True) v qs) (hw : Below W1.heap.size W1 wr) :
    (((wr.setCell ⟨w.heap.size,0,none⟩ (.int .i64 lg)).setCell ⟨w.heap.size,1,none⟩ (.bool one)).setCell ⟨w.heap.size,2,none⟩ v).heap[w.heap.size]? = some (.cells #[.int .i64 lg,.bool one,v] 31 (0,0)) /\
    MadeM lg one qs w (.returned (.agg #[.int .i64 lg,.bool one,v])) (((wr.setCell ⟨w.heap.size,0,none⟩ (.int .i64 lg)).setCell ⟨w.heap.size,1,none⟩ (.bool one)).setCell ⟨w.heap.size,2,none⟩ v):=by
 refine ⟨a1w (a0j hk hw) _ _ _,_,rfl,?_,?_⟩
 · have h1 : kq.R 47 wr w.heap.size (λ k=>k ≠ w.heap.size) v qs:=
     Kd.R_mono (Kd.R_lower (Kd.R_bound hv) (Nat.le_of_lt hlt)) (λ k hk=>by have:=hk.2.1; omega)
   exact Kd.R_mono (a2j h1 _ _ _) (λ _ _=>trivial)
 · exact (((hb.trans (hw.mono hb.size)).setCell (Nat.le_refl _) _).setCell (Nat.le_refl _) _).setCell (Nat.le_refl _) _
theorem a3U {b : List Int} {one : Bool} (hb : Bytes b) (hl : b.length <= 131072) (h0 : 0 < b.length) : canM (ofR b one) one (ofQ b one) b = true:=by
 unfold canM
 rw [decide_eq_true hl,Bool.true_and]
 cases one with
 | true=>exact c3b hb (by omega) h0
 | false=>exact c3e hb (by omega)
theorem a6X (κ : IntKind) (e : TypeId) (W : World) (base : Nat) (ok : Nat -> Prop) (hok : ok W.heap.size) (hb : base <= W.heap.size) (xs : List Int) (hl : xs.length <= 1000000) : (Kd.int κ).R e (W.alloc (.cells (xs.map (Value.int κ)).toArray e)) base ok (.slice (some ⟨W.heap.size,0,none⟩) xs.length xs.length) xs:=by
 refine Kd.R_of_own (h1:=λ _=>rfl) ⟨by simp [encs],.inr ⟨W.heap.size,xs.length,_,rfl,hb,a0n W _,Nat.le_refl _,by unfold maxLen; omega,by simp,?_⟩⟩ (λ k hk=>by cases hk; exact hok)
 rw [Nat.mul_one,show (xs.map (Value.int κ)).toArray.toList = encs (Value.int κ) xs from rfl,List.take_of_length_le (by rw [a2K]; exact Nat.le_refl _)]
theorem c3m {a b : List Int} (ha : Bytes a) (hb : Bytes b) : ((strOfNums a).toList == (strOfNums b).toList) = decide (a = b):=by
 have e : ∀ l : List Int,(strOfNums l).toList = l.map (λ x=>UInt8.ofNat x.toNat):=by
  intro l; unfold strOfNums; simp
 rw [e a,e b]
 by_cases h : a = b
 · subst h; simp
 · rw [decide_eq_false h]
   simp only [beq_eq_false_iff_ne,ne_eq]
   intro he
   apply h
   have inj : ∀ (a b : List Int),Bytes a -> Bytes b -> a.map (λ x=>UInt8.ofNat x.toNat) = b.map (λ x=>UInt8.ofNat x.toNat) -> a = b:=by
    intro a
    induction a with
    | nil=>intro b _ _ h; cases b with
     | nil=>rfl
     | cons y b=>simp at h
    | cons x a ih=>
     intro b hxa hyb h
     cases b with
     | nil=>simp at h
     | cons y b=>
      rw [List.map_cons,List.map_cons,List.cons.injEq] at h
      have hx:=hxa x (by simp)
      have hy:=hyb y (by simp)
      have h1:=congrArg UInt8.toNat h.1
      simp only [UInt8.toNat_ofNat'] at h1
      have : x = y:=by omega
      rw [this,ih b (λ z hz=>hxa z (by simp [hz])) (λ z hz=>hyb z (by simp [hz])) h.2]
   exact inj a b ha hb he
set_option maxRecDepth 100000 in
theorem b4k (A B : Option Addr) (ca cb : Nat) (a b : List Int) (w : World) (ha : (Kd.int .u8).C w A a.length a) (hb : (Kd.int .u8).C w B b.length b) (hya : Bytes a) (hyb : Bytes b) :
    Calls Tryz.prog 10 #[.slice A a.length ca,.slice B b.length cb] w λ e w'=>e = .returned (.bool (decide (a = b))) /\ w = w':=by
 have h1:=Kd.C_string (P:=Tryz.prog) (c:=ca) Tryz.underlying22 Tryz.underlying5 Tryz.underlying9 ha
 have h2:=Kd.C_string (P:=Tryz.prog) (c:=cb) Tryz.underlying22 Tryz.underlying5 Tryz.underlying9 hb
 rw [<- c3m hya hyb]
 obtain ⟨x,hx⟩ : ∃ x,x = strOfNums a:=⟨_,rfl⟩
 obtain ⟨y,hy⟩ : ∃ y,y = strOfNums b:=⟨_,rfl⟩
 rw [<- hx] at h1 ⊢
 rw [<- hy] at h2 ⊢
 clear hx hy ha hb hya hyb
 go_enter Tryz.func10,Tryz.ntmps10
 go_wp2_with fail
 go_ret
 exact ⟨rfl,rfl⟩
theorem a4z (A B : Option Addr) (ca cb : Nat) (p : List Int) (w : World) (ha : (Kd.int .u8).C w A p.length p) (hb : (Kd.int .u8).C w B p.length p) (hp : Bytes p) : Calls Tryz.prog 10 #[.slice A p.length ca,.slice B p.length cb] w (λ e w'=>e = .returned (.bool true) /\ w = w'):=by
 have:=b4k A B ca cb p p w ha hb hp hp
 rw [decide_eq_true rfl] at this; exact this
theorem b4l {one : Bool} {qs : List (List Int)} {ps : List Int} : ∀ (n i : Nat) (la x0 x1 : Int) (left : Nat) (out : List Int),(decGo one qs ps n i la x0 x1 left out).1 ≠ 0 -> (decGo one qs ps n i la x0 x1 left out).2 = []
 | 0,i,la,x0,x1,left,out=>by
  simp only [decGo]; split
  · intro h; exact absurd rfl h
  · intro _; rfl
 | n + 1,i,la,x0,x1,left,out=>by
  simp only [decGo]; split
  · intro _; rfl
  · split
    · intro _; rfl
    · exact b4l n (i + 1) _ _ _ _ _
theorem a8V {lg : Int} {one : Bool} {qs : List (List Int)} {ps : List Int} {n : Int} (h : (decM lg one qs ps n).1 ≠ 0) : (decM lg one qs ps n).2 = []:=by
 revert h
 unfold decM
 split
 · intro _; rfl
 · split
   · intro _; rfl
   · split
     · intro _; rfl
     · exact b4l _ _ _ _ _ _ _
structure MAt (mb : Nat) (lg : Int) (one : Bool) (A : Option Addr) (c : Nat) (qs : List (List Int)) (w : World) : Prop where
 blk : w.heap[mb]? = some (.cells #[.int .i64 lg,.bool one,.slice A qs.length c] 31 (0,0))
 row : kq.C w A qs.length qs
theorem MAt.later {mb : Nat} {lg : Int} {one : Bool} {A : Option Addr} {c : Nat} {qs : List (List Int)} {w w' : World} (h : MAt mb lg one A c qs w) (hb : Below w.heap.size w w') : MAt mb lg one A c qs w':=⟨a0j h.blk hb,Kd.C_below h.row hb⟩
theorem MAt.new {lg : Int} {one : Bool} {A : Option Addr} {c : Nat} {qs : List (List Int)} {w w0 : World} (h : kq.R 47 w w0.heap.size (λ _=>True) (.slice A qs.length c) qs) : MAt w.heap.size lg one A c qs (w.alloc (.cells #[.int .i64 lg,.bool one,.slice A qs.length c] 31)):=
 ⟨a0n _ _,Kd.C_alloc (Kd.R_reads' h).2.2 _⟩
set_option maxRecDepth 100000 in
set_option maxHeartbeats 2000000 in
theorem c3n (lg : Int) (one : Bool) (A : Option Addr) (c : Nat) (qs : List (List Int)) (w : World) (hr : kq.C w A qs.length qs) (h : a0w lg one qs = true) (h1 : one = true -> 0 < (qs.getD 0 []).length) :
    Calls Tryz.prog 91 #[.agg #[.int .i64 lg,.bool one,.slice A qs.length c]] w (Ret (.bool true) w):=by
 obtain ⟨W1,hW1⟩ : ∃ W1,W1 = w.alloc (.cells #[.int .i64 lg,.bool one,.slice A qs.length c] 31):=⟨_,rfl⟩
 have HB:=Lib.hid ((Below.refl w.heap.size w).alloc (Nat.le_refl _) (.cells #[.int .i64 lg,.bool one,.slice A qs.length c] 31))
 have hk1 : W1.heap[w.heap.size]? = some (.cells #[.int .i64 lg,.bool one,.slice A qs.length c] 31 (0,0)):=by rw [hW1]; exact a0n _ _
 have HR : Hid (kq.C W1 A qs.length qs):=Lib.hid (by rw [hW1]; exact Kd.C_alloc hr _)
 rw [<- hW1] at HB
 obtain ⟨l1,l2,l3,l4⟩:=a1K h
 have HL:=Lib.hid (And.intro h1 (And.intro l3 l4))
 have HK:=Lib.hid hk1
 have hn : Hid (qs.length <= 256):=Lib.hid (by rw [l3]; split <;> omega)
 have d1 : decide (lg < 1) = false:=decide_eq_false (by omega)
 have d2 : decide (12 < lg) = false:=decide_eq_false (by omega)
 have hd0 : (one = true /\ qs.length = 1) \/ (one = false /\ qs.length = 256):=by cases one <;> simp_all
 obtain ⟨⟨m0,m1,m2⟩,_⟩:=cell3 hk1
 clear hr h h1 l1 l2 l3 l4 hk1
 obtain ⟨n,hnn⟩ : ∃ n,n = qs.length:=⟨_,rfl⟩
 rw [<- hnn] at hd0 hn m2 HR HK ⊢
 rw [show (Obj.cells #[.int .i64 lg,.bool one,.slice A qs.length c] 31) = Obj.cells #[.int .i64 lg,.bool one,.slice A n c] 31 by rw [hnn]] at hW1
 have HN:=Lib.hid hnn
 clear hnn
 have hcut : ∀ (o : Bool) (q1 q2 : Bool),True:=λ _ _ _=>trivial
 have HF : one = true -> ∀ i,i < n -> (qs.getD i []).length ≠ 0:=λ e i hi=>by
  rcases hd0 with ⟨_,e2⟩ | ⟨e1,_⟩
  · have:=HL.out.1 e
    rw [show i = 0 by omega]; omega
  · rw [e] at e1; cases e1
 have HF':=Lib.hid HF
 clear HF
 have d3 : one = true -> ((n : Int) != 1) = false:=λ e=>by rcases hd0 with ⟨_,e2⟩ | ⟨e1,_⟩ <;> simp_all
 have d4 : one = false -> ((n : Int) != 256) = false:=λ e=>by rcases hd0 with ⟨e1,_⟩ | ⟨_,e2⟩ <;> simp_all
 have main : ∀ o : Bool,one = o -> Calls Tryz.prog 91 #[.agg #[.int .i64 lg,.bool one,.slice A n c]] w (Ret (.bool true) w):=by
  intro o ho
  subst ho
  cases one
  all_goals
   first | have d5:=d3 rfl | have d5:=d4 rfl
   clear d3 d4 hd0 hcut
   go_enter Tryz.func91,Tryz.ntmps91
   go_wp2_with fail
   rw [<- hW1]
   clear hW1 m0 m1 m2
   go_loopw [3] (λ kv wr=>∃ (i : Nat),kv = .int .i64 i /\ i <= n /\ Hid (Below W1.heap.size W1 wr)) (λ kv _=>n - (intOf kv).toNat)
   case atStart=>exact ⟨0,rfl,by omega,Lib.hid (Below.refl _ _)⟩
   case round=>
    obtain ⟨i,rfl,hi,H⟩:=hrel
    obtain ⟨⟨m0,m1,m2⟩,_⟩:=cell3 (a0j HK.out H.out)
    have hn256:=hn.out
    by_cases hlt : i < n
    · obtain ⟨ad,B,cb,rfl,hcell,hcb,hq⟩:=kq_at (Kd.C_below HR.out H.out) i hlt
      have hqs : i < qs.length:=by rw [<- HN.out]; exact hlt
      have HQL : Hid ((qs.getD i []).length ≠ 0 -> (logC (qs.getD i []) : Int) = lg):=Lib.hid (λ e=>(HL.out.2.2 _ (by rw [List.getD_eq_getElem?_getD,List.getElem?_eq_getElem hqs]; exact List.getElem_mem hqs) e).2)
      have HFi:=λ e=>HF'.out e i hlt
      obtain ⟨q,hqq⟩ : ∃ q,q = qs.getD i []:=⟨_,rfl⟩
      rw [<- hqq] at hcell hcb hq HQL HFi
      clear hqq hqs
      have HQ:=Lib.hid (And.intro hcb hq)
      have hiI : (i : Int) < (n : Int):=by omega
      by_cases h0 : q.length = 0
      · first
          | exact absurd h0 (HFi (by first | exact True.intro | rfl))
          | (have d6 : ((q.length : Int) == 0) = true:=by rw [h0]; rfl
             clear h0 hlt hcb hq HFi
             go_wp2_with fail
             go_roundw
             case rel=>exact ⟨i + 1,by go_num,by omega,H⟩
             case measure=>simp [intOf]; omega)
      · have d6 : ((q.length : Int) == 0) = false:=by simp; intro e; subst e; simp at h0
        have d7 : ((logC q : Int) != lg) = false:=by simp; exact HQL.out h0
        clear h0 hcb hq HFi
        go_wp2_with fail
        go_region_held3 (λ w'=>w'.cell? (ad.add i) = some (.slice B q.length cb) /\ w'.cell? ⟨w.heap.size,0,none⟩ = some (.int .i64 lg) /\ w'.cell? ⟨w.heap.size,2,none⟩ = some (.slice (some ad) n c)) ((repeat' apply And.intro) <;> first | assumption)
         (first | (go_at_call 72; refine (c2L B cb q _ (Kd.C_below HQ.out.2 (by first | exact (Below.refl _ _).drew | exact Below.refl _ _)) HQ.out.1).mono ?_; rintro e w2 ⟨rfl,hb2⟩; have k0:=a0s (w:=wr) ⟨hb2.os,hb2.tape,hb2.output,hb2.size,hb2.block⟩ hcell; have k1:=a0s (w:=wr) ⟨hb2.os,hb2.tape,hb2.output,hb2.size,hb2.block⟩ m0; have k2:=a0s (w:=wr) ⟨hb2.os,hb2.tape,hb2.output,hb2.size,hb2.block⟩ m2; have HV2:=Lib.hid (show Below wr.heap.size wr w2 from ⟨hb2.os,hb2.tape,hb2.output,hb2.size,hb2.block⟩); clear hb2))
        all_goals
         go_wp2_with fail
         go_roundw
         case rel=>exact ⟨i + 1,by go_num,by omega,Lib.hid (a0g H.out HV2.out)⟩
         case measure=>simp [intOf]; omega
    · obtain rfl : i = n:=by omega
      go_wp2_with fail
      go_ret
      exact ⟨rfl,a0g HB.out H.out⟩
 exact main one rfl
def a8W (q : List Int) (w : World) (e : Ending) (w' : World) : Prop:=∃ (B : Option Addr) (cb : Nat),e = .returned (.slice B q.length cb) /\ q.length <= cb /\ (Kd.int .i64).C w' B q.length q /\ Below w.heap.size w w'
set_option maxRecDepth 100000 in
set_option maxHeartbeats 1000000 in
theorem a8X (lg : Int) (one : Bool) (A : Option Addr) (c : Nat) (qs : List (List Int)) (x : Nat) (w : World) (hr : kq.C w A qs.length qs) (h : a0w lg one qs = true) (h1 : one = true -> 0 < (qs.getD 0 []).length) (hx : x < 256) :
    Calls Tryz.prog 95 #[.agg #[.int .i64 lg,.bool one,.slice A qs.length c],.int .i64 x] w (a8W (qs.getD (listI one x) []) w):=by
 obtain ⟨W1,hW1⟩ : ∃ W1,W1 = w.alloc (.cells #[.int .i64 lg,.bool one,.slice A qs.length c] 31):=⟨_,rfl⟩
 have HB:=Lib.hid ((Below.refl w.heap.size w).alloc (Nat.le_refl _) (.cells #[.int .i64 lg,.bool one,.slice A qs.length c] 31))
 have hk1 : W1.heap[w.heap.size]? = some (.cells #[.int .i64 lg,.bool one,.slice A qs.length c] 31 (0,0)):=by rw [hW1]; exact a0n _ _
 have HR : Hid (kq.C W1 A qs.length qs):=Lib.hid (by rw [hW1]; exact Kd.C_alloc hr _)
 rw [<- hW1] at HB
 have hlen:=(a1K h).2.2.1
 have hi : listI one x < qs.length:=by rw [hlen]; unfold listI; cases one <;> simp <;> omega
 have HX:=Lib.hid (c3n lg one A c qs W1 HR.out h h1)
 have HK:=Lib.hid hk1
 have d1 : decide ((x : Int) < 0) = false:=decide_eq_false (by omega)
 have d2 : decide (255 < (x : Int)) = false:=decide_eq_false (by omega)
 obtain ⟨⟨m0,m1,m2⟩,_⟩:=cell3 hk1
 have HI:=Lib.hid hi
 obtain ⟨q,hqq⟩ : ∃ q,q = qs.getD (listI one x) []:=⟨_,rfl⟩
 rw [<- hqq]
 have HQQ:=Lib.hid hqq
 clear hr h h1 hk1 hlen hi hqq
 go_enter Tryz.func95,Tryz.ntmps95
 go_wp2_with fail
 rw [<- hW1]
 go_wp2_with fail
 refine HX.out.mono ?_
 rintro e w2 ⟨rfl,hb2⟩
 obtain ⟨⟨n0,n1,n2⟩,_⟩:=cell3 (a0j HK.out hb2)
 obtain ⟨ad,B,cb,rfl,hcell,hcb,hq⟩:=kq_at (Kd.C_below HR.out hb2) _ HI.out
 have HB2:=Lib.hid (a0g HB.out hb2)
 rw [<- HQQ.out] at hcell hcb hq
 have HQ:=Lib.hid (And.intro hcb hq)
 clear hb2 hcb hq hW1 m0 m1 m2
 cases one
 · have e1 : listI false x = x:=rfl
   rw [e1] at hcell HI
   have hiI : (x : Int) < (qs.length : Int):=by have:=HI.out; omega
   clear e1
   go_wp2_with fail
   go_ret
   exact ⟨B,cb,rfl,HQ.out.1,HQ.out.2,HB2.out⟩
 · have e1 : listI true x = 0:=rfl
   rw [e1] at hcell HI
   have hiI : (0 : Int) < (qs.length : Int):=by have:=HI.out; omega
   have hcell0 : w2.cell? ad = some (.slice B q.length cb):=hcell
   clear e1
   go_wp2_with fail
   go_ret
   exact ⟨B,cb,rfl,HQ.out.1,HQ.out.2,HB2.out⟩
open Go.Proofs.YtipjlneepponpaaGreat.PRef Go.Proofs.YtipjlneepponpaaGreatW.PrintLast Go.Proofs.YtipjlneepponpaaGreatW.PrintMore
theorem a8Y {lg : Int} {one : Bool} {qs : List (List Int)} (h : a0w lg one qs = true) : one = true -> 0 < (qs.getD 0 []).length:=by
 intro e
 subst e
 unfold a0w at h
 split at h
 · cases h
 · split at h
   · cases h
   · simp only [if_true,decide_eq_true_eq] at h; exact h.2
def MadeB (xs : List Bool) (w : World) (e : Ending) (w' : World) : Prop:=∃ v,e = .returned v /\ Kd.bool.R 4 w' w.heap.size (λ _=>True) v xs /\ Below w.heap.size w w'
def MadeU (xs : List Int) (w : World) (e : Ending) (w' : World) : Prop:=∃ v,e = .returned v /\ (Kd.int .u8).R 5 w' w.heap.size (λ _=>True) v xs /\ Below w.heap.size w w'
end Go.Proofs.YtipjlneepponpaaGreat
namespace Go.Proofs.YtipjlneepponpaaGreat
open Go.RowKit Go.IntWalk Go.Proofs.YtipjlneepponpaaGreatW.PrintWords
set_option maxRecDepth 100000 in
theorem b4s (n : Nat) (w : World) (hn : n <= 4096) : Calls Tryz.prog 129 #[.int .i64 n] w (λ e w'=>e = .returned (.int .i64 (Lib.bitLen n : Nat)) /\ w = w'):=by
 go_enter Tryz.func129,Tryz.ntmps129
 go_wp2_with fail
 go_loop [0,3] (λ nv kv=>∃ m k : Nat,nv = .int .i64 m /\ kv = .int .i64 k /\ m <= 4096 /\ k <= 64 /\ k + Lib.bitLen m = Lib.bitLen n) (λ nv _=>(intOf nv).toNat)
 case atStart=>exact ⟨n,0,rfl,rfl,hn,by omega,by omega⟩
 case round=>
  obtain ⟨m,k,rfl,rfl,hm,hk,hs⟩:=hrel
  have HS:=Lib.hid hs
  have hb:=Lib.bitLen_le n 13 (by decide) (show n < 2 ^ 13 from by omega)
  clear hs
  by_cases h0 : m = 0
  · subst h0
    have HE : Hid (k = Lib.bitLen n):=Lib.hid (by have:=HS.out; have e : Lib.bitLen 0 = 0:=by decide
                                                  omega)
    clear HS hb
    go_wp2_with fail
    go_ret
    exact ⟨by rw [<- HE.out]; rfl,rfl⟩
  · have hh:=Lib.bitLen_half m h0 (by omega)
    have hmI : (0 : Int) < (m : Int):=by omega
    obtain ⟨m2,hm2⟩ : ∃ m2,m2 = m / 2:=⟨_,rfl⟩
    have hmd : (m : Int) / 2 = (m2 : Int):=by omega
    have hmt : (m : Int).tdiv 2 = (m2 : Int):=by rw [Int.tdiv_eq_ediv_of_nonneg (by omega)]; exact hmd
    rw [<- hm2] at hh
    have HX:=Lib.hid (And.intro hh (And.intro hm2 hb))
    have hk63 : k <= 63:=by have:=HS.out; omega
    clear h0 hh hm2 hb hk
    go_wp2_with fail
    go_round
    case rel=>exact ⟨m2,k + 1,rfl,by go_num,by have:=HX.out; omega,by omega,by have:=HX.out; have:=HS.out; omega⟩
    case measure=>have:=HX.out; simp [intOf]; omega
open Go.Proofs.YtipjlneepponpaaGreat.PRef
theorem MadeB.out {xs : List Bool} {w : World} {e : Ending} {w' : World} (h : MadeB xs w e w') : ∃ A c,e = .returned (.slice A xs.length c) /\ Kd.bool.C w' A xs.length xs /\ xs.length <= c /\ Below w.heap.size w w':=by
 obtain ⟨v,rfl,hv,hb⟩:=h
 obtain ⟨A,c,rfl⟩:=Kd.R_slice hv
 obtain ⟨_,hc,hC⟩:=Kd.R_reads' hv
 exact ⟨A,c,rfl,hC,hc,hb⟩
end Go.Proofs.YtipjlneepponpaaGreat
namespace Go.Proofs.YtipjlneepponpaaGreat
open Go.RowKit Go.IntWalk Go.Proofs.YtipjlneepponpaaGreatW.PrintWords
theorem a9h (w : World) : WrVal (w.alloc (.cells #[.slice none 0 0,.int .i64 0] 140)) w.heap.size w.heap.size (.slice none 0 0) []:=⟨a0n _ _,Kd.R_nil _ _ _ _ _⟩
theorem PutRel.bel {base p : Nat} {v0 : Value} {bs : List Bool} {w0 w w' : World} (h : PutRel base p v0 bs w w') (hb : Below w0.heap.size w0 w) (hp : w0.heap.size <= p) (hv : ∀ k,v0.ownBlock = some k -> w0.heap.size <= k) : Below w0.heap.size w0 w':=by
 obtain ⟨_,_,_,ho⟩:=h
 exact hb.trans (ho.below hb.size (λ k hk=>by
  rcases hk with hk | hk
  · exact hk ▸ hp
  · exact hv k hk))
def c4g (r : Nat) (q : List Int) (w : World) (e : Ending) (w' : World) : Prop:=∃ v,e = .returned v /\ (Kd.int .u8).R 5 w' w.heap.size (λ _=>True) v (packB (headB r q)) /\ Below w.heap.size w w'
set_option maxRecDepth 100000 in
set_option maxHeartbeats 400000 in
theorem c4h (r c : Nat) (A : Option Addr) (q : List Int) (w : World) (hr : kq.C w A 1 [q]) (hn : Nrm q r) :
    Calls Tryz.prog 25 #[.agg #[.int .i64 r,.bool true,.slice A 1 c]] w (c4g r q w):=by
 obtain ⟨W,hW⟩ : ∃ W,W = (w.alloc (.cells #[.int .i64 r,.bool true,.slice A 1 c] 31)).alloc (.cells #[.slice none 0 0,.int .i64 0] 140):=⟨_,rfl⟩
 have HI:=Lib.hid (a9h (w.alloc (.cells #[.int .i64 r,.bool true,.slice A 1 c] 31)))
 have HB : Hid (Below w.heap.size w W):=by show Below _ _ _; rw [hW]; exact ((Below.refl _ _).alloc (Nat.le_refl _) _).alloc (by simp) _
 have HK : Hid (W.heap[w.heap.size]? = some (.cells #[.int .i64 r,.bool true,.slice A 1 c] 31 (0,0))):=by show _ = _; rw [hW]; exact a0o (a0n _ _) _
 have hs : (w.alloc (.cells #[.int .i64 r,.bool true,.slice A 1 c] 31)).heap.size = w.heap.size + 1:=by simp
 have HR:=Lib.hid (And.intro hr hn)
 have hr12:=hn.r12
 rw [hs] at HI
 rw [<- hW] at HI
 clear hr hn
 obtain ⟨P,hP⟩ : ∃ P,P = w.heap.size + 1:=⟨_,rfl⟩
 rw [<- hP] at HI hs
 have HP:=Lib.hid hP
 have HPW : Hid (P <= W.heap.size):=by show _ <= _; rw [hW,hP]; simp
 clear hP
 go_enter Tryz.func25,Tryz.ntmps25
 go_wp2_with fail
 refine (a6l _).mono ?_
 rw [<- hW,hs]
 clear hW hs
 rintro e w1 ⟨rfl,rfl⟩
 have hk0:=(cell3 HK.out).1
 obtain ⟨ka,kb,kc⟩:=hk0
 go_wp2_with fail
 refine (a2i P P (.slice none 0 0) [] r 8 w1 HI.out HPW.out (by simp) (by omega) (by decide)).mono ?_
 rintro e w2 ⟨rfl,hp⟩
 have HB2 : Hid (Below w.heap.size w w2):=hp.bel HB.out (by have:=HP.out; omega) (λ k hk=>by simp [Value.ownBlock] at hk)
 obtain ⟨v1,m1,m2,m3⟩:=hp
 have HM:=Lib.hid (And.intro m1 (And.intro m2 m3))
 have hk2 : w2.heap[w.heap.size]? = some (.cells #[.int .i64 r,.bool true,.slice A 1 c] 31 (0,0)):=by
  rw [m3.block _ (a0f HK.out) (λ h=>by rcases h with h | h; have:=HP.out; omega; simp [Value.ownBlock] at h)]; exact HK.out
 clear m1 m2 m3 ka kb kc
 obtain ⟨⟨ka,kb,kc⟩,-⟩:=cell3 hk2
 obtain ⟨ad,Bq,cq,rfl,hcq',-,hCq⟩:=kq_at HR.out.1 0 (by omega)
 have hcq:=a0s HB2.out hcq'
 clear hcq'
 have e0 : ([q] : List (List Int)).getD 0 [] = q:=rfl
 rw [e0,HR.out.2.len] at hcq hCq
 have hadd : ad.add 0 = ad:=rfl
 rw [hadd] at hcq
 have HQ:=Lib.hid hCq
 clear hCq hk2 e0 hadd
 go_wp2_with fail
 refine (b4r P P cq r Bq v1 ([] ++ a0i r 8) q w w2 HM.out.1 (Nat.le_trans HPW.out HM.out.2.2.size) (by simp [a0D]) HQ.out HB2.out (by have:=HP.out; omega) (by have:=HP.out; omega) HR.out.2).mono ?_
 rintro e w3 ⟨rfl,hp⟩
 have HB3 : Hid (Below w.heap.size w w3):=hp.bel HB2.out (by have:=HP.out; omega) (λ k hk=>by have:=Kd.R_base HM.out.1.row k hk; have:=HP.out; omega)
 obtain ⟨v2,m1,_,_⟩:=hp
 have HM3:=Lib.hid m1
 clear m1
 have HLn : Hid (([] ++ a0i r 8 ++ hdrB q 257 0 (2 ^ r)).length <= 900000):=by
  show _ <= _
  have e2 : (2 : Int) ^ r = ((2 ^ r : Nat) : Int):=by simp
  have h1:=a3s HR.out.2.r12 HR.out.2.len HR.out.2.nn 257 0 (2 ^ r) (by omega) (by rw [List.drop_zero,HR.out.2.sum,e2]) (by rw [Nat.pow_succ]; have:=Nat.two_pow_pos r; omega)
  have h2 : (256 - 0) * (r + 3) <= 256 * 15:=Nat.mul_le_mul (by omega) (by omega)
  rw [List.nil_append,List.length_append,a0D]; omega
 go_wp2_with fail
 refine (a7d _ _ _ _ _ HM3.out HLn.out).mono ?_
 rintro e w4 ⟨v4,rfl,hv4,hb4⟩
 have H4 : Hid ((Kd.int .u8).R 5 w4 w.heap.size (λ _=>True) v4 (packB (headB r q)) /\ Below w.heap.size w w4):=by
  refine ⟨?_,HB3.out.trans (hb4.mono HB3.out.size)⟩
  have:=Kd.R_lower hv4 HB3.out.size
  rw [List.nil_append] at this; exact this
 clear hv4 hb4
 go_wp2_with fail
 go_ret
 exact ⟨v4,rfl,H4.out.1,H4.out.2⟩
theorem c4r : Tryz.zeroCells126 = madeCells #[.int .i64 0] 256:=by kernel_rfl
theorem a7i (n : Nat) (e : TypeId) (W : World) (ok : Nat -> Prop) (hok : ok W.heap.size) (base : Nat) (hb : base <= W.heap.size) (hn : n <= 1000000) : (Kd.int .i64).R e (W.alloc (.cells (madeCells #[.int .i64 0] n) e)) base ok (.slice (some ⟨W.heap.size,0,none⟩) n n) (List.replicate n 0):=by
 have hr:=Kd.reps_made (R:=(Kd.int .i64).M (W.alloc (.cells (madeCells #[.int .i64 0] n) e)) base (λ k=>ok k /\ some k ≠ (Value.slice (some ⟨W.heap.size,0,none⟩) n n).ownBlock)) (z:=.int .i64 0) (size:=1) (z0:=(0 : Int)) rfl Nat.one_pos rfl n
 have e' : (Value.int .i64 0).cells = #[.int .i64 0]:=rfl
 rw [e',Nat.mul_one] at hr
 refine ⟨λ k hk=>by cases hk; exact hok,_,⟨?_,.inr ⟨W.heap.size,n,madeCells #[.int .i64 0] n,by simp,hb,a0n W _,by simp,by unfold maxLen; omega,?_,?_⟩⟩,hr⟩
 · simp [size_madeCells]; exact (Nat.mul_one n).symm
 · rw [size_madeCells]; exact (Nat.mul_one n).symm
 · rw [List.length_replicate]; exact List.take_of_length_le (by simp [size_madeCells]; exact Nat.le_of_eq (Nat.mul_one n).symm)
theorem c4s : histL [] = List.replicate 256 0:=by
 unfold histL mapR
 rw [List.map_congr_left (g:=λ _=>(0 : Int)) (λ _ _=>by simp),List.map_const',List.length_range]
theorem c4t (b : List Int) (k : Nat) (hk : k < b.length) {y : Nat} (hy : b.getD k 0 = y) (h : y < 256) : histL (b.take (k + 1)) = (histL (b.take k)).set y ((histL (b.take k)).getD y 0 + 1):=by
 rw [List.take_succ_eq_append_getElem hk]
 have e : b[k] = (y : Int):=by rw [<- hy,List.getD_eq_getElem?_getD,List.getElem?_eq_getElem hk]; rfl
 rw [e,b3F _ h,a5f _ h]
def c4u (b : List Int) (w : World) (e : Ending) (w' : World) : Prop:=∃ v,e = .returned v /\ (Kd.int .i64).R 3 w' w.heap.size (λ _=>True) v (histL b) /\ Below w.heap.size w w'
set_option maxRecDepth 100000 in
set_option maxHeartbeats 1000000 in
theorem b4A (A : Option Addr) (cp : Nat) (b : List Int) (w : World) (hr : (Kd.int .u8).C w A b.length b) (hl : b.length <= 1000000) (hb : ∀ x ∈ b,0 <= x /\ x < 256) :
    Calls Tryz.prog 54 #[.slice A b.length cp] w (c4u b w):=by
 have HR:=Lib.hid (And.intro hr (And.intro hl hb))
 have HI : Hid ((Kd.int .i64).R 126 (w.alloc (.cells Tryz.zeroCells126 126)) w.heap.size (λ _=>True) (.slice (some ⟨w.heap.size,0,none⟩) 256 256) (histL (b.take 0)) /\ Below w.heap.size w (w.alloc (.cells Tryz.zeroCells126 126))):=by
  rw [c4r,List.take_zero,c4s]
  exact ⟨a7i 256 _ w _ trivial _ (Nat.le_refl _) (by omega),(Below.refl _ _).alloc (Nat.le_refl _) _⟩
 clear hr hb
 go_enter Tryz.func54,Tryz.ntmps54
 go_wp2_with fail
 go_loopw [8] (λ kv wr=>∃ (k : Nat),kv = .int .i64 k /\ k <= b.length /\ Hid ((Kd.int .i64).R 126 wr w.heap.size (λ _=>True) (.slice (some ⟨w.heap.size,0,none⟩) 256 256) (histL (b.take k)) /\ Below w.heap.size w wr)) (λ kv _=>b.length - (intOf kv).toNat)
 case atStart=>exact ⟨0,rfl,by omega,HI⟩
 case round=>
  obtain ⟨k,rfl,hk,H⟩:=hrel
  by_cases hlt : k < b.length
  · obtain ⟨ad,rfl,hcell⟩:=a0F HR.out.1 k hlt
    have hcw:=a0s H.out.2 hcell
    obtain ⟨x,hx⟩ : ∃ x : Nat,b.getD k 0 = x:=by
     have : 0 <= b.getD k 0:=(HR.out.2.2 _ (a1S hlt)).1
     exact ⟨(b.getD k 0).toNat,by omega⟩
    have hx2 : x < 256:=by have:=(HR.out.2.2 _ (a1S hlt)).2; omega
    rw [hx] at hcw
    obtain ⟨hc3,hf3⟩:=a1u H.out.1 x hx2
    obtain ⟨y,hy⟩ : ∃ y,y = (histL (b.take k)).getD x 0:=⟨_,rfl⟩
    have hyr : 0 <= y /\ y <= 1000000:=by
     rw [hy,a5f _ hx2]
     have:=List.count_le_length (a:=(x : Int)) (l:=b.take k)
     rw [List.length_take] at this
     omega
    obtain ⟨hy0,hy1⟩:=hyr
    rw [<- hy] at hc3
    have HY:=Lib.hid (And.intro hy hx)
    have hx256 : (x : Int) < 256:=by omega
    clear hy hx hcell
    go_wp2_with fail
    go_roundw
    case rel=>
     refine ⟨k + 1,by go_num,by omega,?_,H.out.2.setCell (Nat.le_refl _) _⟩
     rw [c4t b k hlt HY.out.2 hx2,<- HY.out.1]
     have:=Kd.R_putn H.out.1 (x : Int) (y + 1)
     rw [Int.toNat_natCast] at this
     exact this
    case measure=>simp [intOf]; omega
  · obtain rfl : k = b.length:=by omega
    rw [List.take_length] at H
    have hrd:=Kd.R_reads' H.out.1
    have hcl : (histL b).length = 256:=a1v _
    have HE:=Lib.hid (a6j .i64 3 wr w.heap.size (λ _=>True) H.out.2.size trivial)
    have HC : Hid ((Kd.int .i64).C (wr.alloc (.cells #[] 3)) (some ⟨w.heap.size,0,none⟩) 256 (histL b)):=by
     have:=Kd.C_alloc hrd.2.2 (.cells #[] 3)
     rw [hcl] at this; exact this
    have HL : Hid ((([] : List Int).length + (histL b).length) * 8 <= 140737488355328):=by show _ <= _; rw [hcl]; decide
    have HB:=Lib.hid (H.out.2.alloc H.out.2.size (.cells #[] 3))
    have HS : Hid (w.heap.size <= (wr.alloc (.cells #[] 3)).heap.size):=by show _ <= _; have:=H.out.2.size; simp; omega
    clear hrd hcl hlt
    go_wp2_with (at_builtin; refine Kd.R_append_rows (Kd.int .i64) (Rr:=(Kd.int .i64).K (wr.alloc (.cells #[] 3))) (w0:=w) (W:=wr.alloc (.cells #[] 3)) w.heap.size rfl (.tmp 18) (.tmp 19) 47 3 (.int .i64 0) 8 rfl Tryz.underlying47 a4i rfl (by decide) (by decide) (.slice (some ⟨wr.heap.size,0,none⟩) 0 0) [] (histL b) (some ⟨w.heap.size,0,none⟩) 256 256 (λ _=>True) (λ _=>False) rfl rfl HE.out HC.out (λ _ _ h=>h) (λ _ h=>h.elim) (λ _ _=>trivial) HB.out HS.out HL.out ?_; intro vi w2 hr2 hb2 hg2 hat2; have HR2:=Lib.hid hr2; have HB2:=Lib.hid hb2; clear hr2 hb2 hg2 hat2)
    go_ret
    rw [List.nil_append] at HR2
    exact ⟨_,rfl,HR2.out,HB2.out⟩
def panE (n : Int) : Ending:=.panicked [{ v:=.iface 24 (.int .i64 n),recovered:=false }]
set_option maxRecDepth 100000 in
theorem a4B (w : World) : Calls Tryz.prog 131 #[.bool false] w λ e w'=>e = .returned (.tuple #[]) /\ w = w':=by
 go_enter Tryz.func131,Tryz.ntmps131
 go_wp2_with fail
 go_end0
 exact ⟨rfl,rfl⟩
set_option maxRecDepth 100000 in
theorem a9k (w : World) : Calls Tryz.prog 131 #[.bool true] w λ e w'=>e = panE 13 /\ w = w':=by
 go_enter Tryz.func131,Tryz.ntmps131
 go_wp2_with fail
 first | exact ⟨rfl,rfl⟩ | (simp [bodyPost,panE])
set_option maxRecDepth 100000 in
theorem a4C (n : Int) (w : World) : Calls Tryz.prog 132 #[.int .i64 n,.int .i64 0] w λ e w'=>e = .returned (.int .i64 n) /\ w = w':=by
 go_enter Tryz.func132,Tryz.ntmps132
 go_wp2_with fail
 go_ret
 exact ⟨rfl,rfl⟩
set_option maxRecDepth 100000 in
theorem a9l (n e : Int) (w : World) (h : ¬ e = 0) : Calls Tryz.prog 132 #[.int .i64 n,.int .i64 e] w λ en w'=>en = panE e /\ w = w':=by
 have hb : (e == 0) = false:=beq_eq_false_iff_ne.2 h
 have hn : (e != 0) = true:=by simp [h]
 go_enter Tryz.func132,Tryz.ntmps132
 go_wp2_with fail
 first | exact ⟨rfl,rfl⟩ | (simp [bodyPost,panE])
theorem b4B {ps : List Int} {T : Nat} : ∀ (f at_ n most : Nat),(runT ps T f at_ n most).1 = 0 -> (runT ps T f at_ n most).2.1 <= most:=by
 intro f
 induction f with
 | zero=>intro _ _ _ h; simp [runT] at h
 | succ f ih=>
  intro at_ n most
  simp only [runT]
  by_cases h1 : T < at_ + 2
  · rw [if_pos h1]; intro h; cases h
  · rw [if_neg h1]
    by_cases h2 : most < n + takeF ps at_ 2
    · rw [if_pos h2]; intro h; cases h
    · rw [if_neg h2]
      by_cases h3 : takeF ps at_ 2 = 3
      · rw [if_pos h3]; exact ih _ _ _
      · rw [if_neg h3]; intro _; simp only []; omega
structure HcRel (base p g : Nat) (ps : List Int) (H : Int × List Int × Nat) (w : World) (left s : Nat) (again : Bool) (q : List Int) (at_ d : Nat) (wr : World) : Prop where
 rd : RfAt wr base p ps at_
 row : (Kd.int .i64).R 3 wr w.heap.size (λ _=>True) (.slice (some ⟨g,0,none⟩) 256 256) q
 ql : q.length = 256
 at_le : at_ <= 8 * ps.length
 eq : hdrT ps (8 * ps.length) d q s left again at_ = H
 fuel : 257 <= s + d
 only : Only (λ k=>k = p) w wr
 gt : p < g /\ w.heap.size <= g
def c4v (base p : Nat) (ps : List Int) (H : Int × List Int × Nat) (w : World) (e : Ending) (w' : World) : Prop:=
 (H.1 = 0 -> ∃ g,e = .returned (.slice (some ⟨g,0,none⟩) 256 256) /\ (Kd.int .i64).R 3 w' w.heap.size (λ _=>True) (.slice (some ⟨g,0,none⟩) 256 256) H.2.1 /\ H.2.1.length = 256 /\ RfAt w' base p ps H.2.2) /\
 (H.1 ≠ 0 -> e = panE H.1) /\ Only (λ k=>k = p) w w'
theorem HcRel.put {base p g : Nat} {ps : List Int} {H : Int × List Int × Nat} {w wr w1 : World} {left s : Nat} {again : Bool} {q : List Int} {at_ d : Nat} (h : HcRel base p g ps H w left s again q at_ d wr) {at2 : Nat} (hr : RfAt w1 base p ps at2) (ho : Only (λ k=>k = p) wr w1) (x : Int) :
    RfAt (w1.setCell ⟨g,s,none⟩ (.int .i64 x)) base p ps at2 /\ (Kd.int .i64).R 3 (w1.setCell ⟨g,s,none⟩ (.int .i64 x)) w.heap.size (λ _=>True) (.slice (some ⟨g,0,none⟩) 256 256) (q.set s x) /\ Only (λ k=>k = p) w (w1.setCell ⟨g,s,none⟩ (.int .i64 x)) /\
     (Kd.int .i64).R 3 w1 w.heap.size (λ _=>True) (.slice (some ⟨g,0,none⟩) 256 256) q:=by
 have hgp:=h.gt
 have h1 : (Kd.int .i64).R 3 w1 w.heap.size (λ _=>True) (.slice (some ⟨g,0,none⟩) 256 256) q:=a2w rfl h.row ho (λ k hk e=>by
  have : g = k:=by simpa [Value.ownBlock] using hk
  omega)
 have h2:=Kd.R_putn h1 (s : Int) x
 rw [Int.toNat_natCast] at h2
 refine ⟨hr.far hgp.1 s _,h2,?_,h1⟩
 have h3:=h.only.trans ho
 exact ⟨h3.os,h3.tape,h3.output,by simp; exact h3.size,λ k hk hs=>by rw [Below.heap_setCell _ _ _ _ (by show k ≠ g; omega)]; exact h3.block k hk hs⟩
set_option maxRecDepth 100000 in
set_option maxHeartbeats 2000000 in
theorem c4w (base p : Nat) (ps : List Int) (at_ left0 : Nat) (w : World) (h : RfAt w base p ps at_) (hps : ∀ x ∈ ps,0 <= x /\ x < 256) (hl : ps.length <= 1000000) (ha : at_ <= 8 * ps.length) (hleft : left0 <= 4096) (hp : p < w.heap.size) :
    Calls Tryz.prog 81 #[.pointer (some ⟨p,0,none⟩),.int .i64 left0] w (c4v base p ps (hdrT ps (8 * ps.length) 257 zeros256 0 left0 false at_) w):=by
 obtain ⟨H,hH⟩ : ∃ H,H = hdrT ps (8 * ps.length) 257 zeros256 0 left0 false at_:=⟨_,rfl⟩
 rw [<- hH]
 obtain ⟨W,hW⟩ : ∃ W,W = w.alloc (.cells (madeCells #[.int .i64 0] 256) 3):=⟨_,rfl⟩
 have HI : Hid (HcRel base p w.heap.size ps H w left0 0 false zeros256 at_ 257 W):=by
  refine ⟨?_,?_,by unfold zeros256; exact List.length_replicate,ha,hH.symm,by omega,?_,hp,Nat.le_refl _⟩
  · rw [hW]; exact h.below ((Below.refl _ _).alloc (Nat.le_refl _) _)
  · rw [hW]; exact a7i 256 3 w _ trivial _ (Nat.le_refl _) (by omega)
  · rw [hW]; exact (Only.refl _ _).alloc _
 have hmi : ∀ w : World,(Instr.makeSlice 47 (.int .i64 256) (.int .i64 256)).run Tryz.prog w = .ok (.slice (some ⟨w.heap.size,0,none⟩) 256 256) (w.alloc (.cells (madeCells #[.int .i64 0] 256) 3)):=λ w=>a6O 256 (by omega) w
 have HP:=Lib.hid (And.intro hps (And.intro hl ha))
 clear h hps hl ha hH
 go_enter Tryz.func81,Tryz.ntmps81
 go_wp2_with fail
 rw [<- hW]
 obtain ⟨g,hg⟩ : ∃ g,g = w.heap.size:=⟨_,rfl⟩
 rw [<- hg] at HI ⊢
 clear hW hg hmi
 go_loopw [1,6,7] (λ lv av sv wr=>∃ (left s : Nat) (again : Bool),lv = .int .i64 left /\ av = .bool again /\ sv = .int .i64 s /\ left <= 4096 /\ s <= 256 /\ Hid (∃ q at' d,HcRel base p g ps H w left s again q at' d wr)) (λ _ _ sv _=>257 - (intOf sv).toNat)
 case atStart=>exact ⟨left0,0,false,rfl,rfl,rfl,hleft,by omega,zeros256,at_,257,HI⟩
 case round=>
  obtain ⟨left,s,again,rfl,rfl,rfl,hl4,hs,HR⟩:=hrel
  obtain ⟨q,at',d,hr⟩:=HR.out
  obtain ⟨d,rfl⟩ : ∃ d',d = d' + 1:=⟨d - 1,by have:=hr.fuel; omega⟩
  have heq:=hr.eq
  simp only [hdrT] at heq
  have HH:=Lib.hid hr
  clear hr HR
  by_cases h0 : left = 0
  · rw [if_pos h0] at heq
    have HE:=Lib.hid heq
    subst h0
    clear heq
    go_wp2_with fail
    go_ret
    exact ⟨λ _=>⟨g,rfl,by rw [<- HE.out]; exact HH.out.row,by rw [<- HE.out]; exact HH.out.ql,by rw [<- HE.out]; exact HH.out.rd⟩,λ h=>by rw [<- HE.out] at h; exact absurd rfl h,HH.out.only⟩
  · rw [if_neg h0] at heq
    by_cases h256 : s = 256
    · rw [if_pos h256] at heq
      have HE:=Lib.hid heq
      subst h256
      clear heq
      go_wp2_with fail
      refine (a9k wr).mono ?_
      rintro e w' ⟨rfl,rfl⟩
      unfold panE
      go_wp2_with fail
      refine ⟨rfl,?_⟩
      exact ⟨(λ h=>by rw [<- HE.out] at h; cases h),(λ _=>by rw [<- HE.out]; rfl),HH.out.only⟩
    · rw [if_neg h256] at heq
      have hsb : ((s : Int) == 256) = false:=beq_eq_false_iff_ne.2 (by omega)
      have hs256 : (s : Int) < 256:=by omega
      have HEQ:=Lib.hid heq
      clear heq
      go_wp2_with fail
      refine (a4B wr).mono ?_
      rintro e w' ⟨rfl,rfl⟩
      go_wp2_with fail
      refine (c4p base p ps at' left wr HH.out.rd HP.out.1 HP.out.2.1 HH.out.at_le (by omega) hl4).mono ?_
      rintro e w1 ⟨t1,t2,t3,t4⟩
      have HO:=Lib.hid t4
      by_cases hT : 8 * ps.length < at' + Lib.bitLen left
      · obtain rfl:=t1 hT
        have HE : Hid ((3,q,0) = H):=by have:=HEQ.out; rw [if_pos hT] at this; exact this
        clear t1 t2 t3 t4
        go_wp2_with fail
        refine (a9l 0 3 w1 (by decide)).mono ?_
        rintro e w' ⟨rfl,rfl⟩
        unfold panE
        go_wp2_with fail
        refine ⟨rfl,?_⟩
        exact ⟨(λ h=>by rw [<- HE.out] at h; cases h),(λ _=>by rw [<- HE.out]; rfl),HH.out.only.trans HO.out⟩
      · have HNT:=Lib.hid hT
        have hT' : at' + Lib.bitLen left <= 8 * ps.length:=by omega
        by_cases hV : left < takeF ps at' (Lib.bitLen left)
        · obtain rfl:=t2 hT' hV
          have HE : Hid ((13,q,0) = H):=by have:=HEQ.out; rw [if_neg hT,if_pos hV] at this; exact this
          clear t1 t2 t3 t4 hT hT' hV
          go_wp2_with fail
          refine (a9l 0 13 w1 (by decide)).mono ?_
          rintro e w' ⟨rfl,rfl⟩
          unfold panE
          go_wp2_with fail
          refine ⟨rfl,?_⟩
          exact ⟨(λ h=>by rw [<- HE.out] at h; cases h),(λ _=>by rw [<- HE.out]; rfl),HH.out.only.trans HO.out⟩
        · obtain ⟨rfl,hrd⟩:=t3 hT' (by omega)
          obtain ⟨V,hVe⟩ : ∃ V,V = takeF ps at' (Lib.bitLen left):=⟨_,rfl⟩
          have hq3:=HEQ.out
          rw [if_neg hT,if_neg hV] at hq3
          rw [<- hVe] at hq3 hV ⊢
          have hVl : V <= left:=by omega
          have HPut:=Lib.hid (HH.out.put hrd HO.out (V : Int))
          obtain ⟨hcl,hfz⟩:=a1u HPut.out.2.2.2 s (by omega)
          have hcl2:=(a1u HPut.out.2.1 s (by omega)).1
          have hqs : (q.set s (V : Int)).getD s 0 = V:=by rw [a5o _ _ _ _ (by have:=HH.out.ql; omega),if_pos rfl]
          rw [hqs] at hcl2
          have HQ3:=Lib.hid hq3
          have HT2:=Lib.hid hT'
          obtain ⟨at2,hat2⟩ : ∃ a,a = at' + Lib.bitLen left:=⟨_,rfl⟩
          rw [<- hat2] at HPut HQ3 HT2
          clear t1 t2 t3 t4 hT hT' hV hVe hq3 hqs hrd hat2
          by_cases hV0 : V = 0
          · subst hV0
            have hvb : (((0 : Nat) : Int) == 0) = true:=rfl
            cases again with
            | true=>
             have HE : Hid ((13,q,0) = H):=by have:=HQ3.out; rw [if_pos ⟨rfl,rfl⟩] at this; exact this
             go_wp2_with fail
             refine (a4C (0 : Int) w1).mono ?_
             rintro e w' ⟨rfl,rfl⟩
             go_wp2_with fail
             refine (a9k _).mono ?_
             rintro e w' ⟨rfl,rfl⟩
             unfold panE
             go_wp2_with fail
             refine ⟨rfl,?_⟩
             exact ⟨(λ h=>by rw [<- HE.out] at h; cases h),(λ _=>by rw [<- HE.out]; rfl),HPut.out.2.2.1⟩
            | false=>
             by_cases hs1 : s + 1 = 256
             · have HE : Hid ((13,q,0) = H):=by have:=HQ3.out; rw [if_neg (λ h=>by cases h.1),if_pos rfl,if_pos hs1] at this; exact this
               have hsb1 : ((s : Int) + 1 == 256) = true:=by simp; omega
               go_wp2_with fail
               refine (a4C (0 : Int) w1).mono ?_
               rintro e w' ⟨rfl,rfl⟩
               go_wp2_with fail
               refine (a4B _).mono ?_
               rintro e w' ⟨rfl,rfl⟩
               go_wp2_with fail
               refine (a9k _).mono ?_
               rintro e w' ⟨rfl,rfl⟩
               unfold panE
               go_wp2_with fail
               refine ⟨rfl,?_⟩
               exact ⟨(λ h=>by rw [<- HE.out] at h; cases h),(λ _=>by rw [<- HE.out]; rfl),HPut.out.2.2.1⟩
             · have hsb1 : ((s : Int) + 1 == 256) = false:=beq_eq_false_iff_ne.2 (by omega)
               have hq4:=HQ3.out
               rw [if_neg (λ h=>by cases h.1),if_pos rfl,if_neg hs1] at hq4
               have HQ4:=Lib.hid hq4
               have hmost : (254 : Int) - (s : Int) = ((254 - s : Nat) : Int):=by omega
               clear hq4
               go_wp2_with fail
               refine (a4C (0 : Int) w1).mono ?_
               rintro e w' ⟨rfl,rfl⟩
               go_wp2_with fail
               refine (a4B _).mono ?_
               rintro e w' ⟨rfl,rfl⟩
               go_wp2_with fail
               refine (a4B _).mono ?_
               rintro e w' ⟨rfl,rfl⟩
               go_wp2_with fail
               obtain ⟨R,hR⟩ : ∃ R,R = runT ps (8 * ps.length) 100 at2 0 (254 - s):=⟨_,rfl⟩
               have hRle : R.1 = 0 -> R.2.1 <= 254 - s:=λ h=>by rw [hR] at h ⊢; exact b4B _ _ _ _ h
               have hRend : R.1 = 0 -> R.2.2 <= 8 * ps.length:=λ h=>by rw [hR] at h ⊢; exact a9c _ _ _ _ h
               have hrt:=c4q base p ps at2 (254 - s) _ HPut.out.1 HP.out.1 HP.out.2.1 HT2.out (by omega)
               unfold a9j at hrt
               rw [<- hR] at hrt HQ4
               have HRE:=Lib.hid (And.intro hRle hRend)
               clear hR hRle hRend
               refine hrt.mono ?_
               rintro e w2 ⟨r1,r2,r3⟩
               have HO2 : Hid (Only (λ k=>k = p) w w2):=HPut.out.2.2.1.trans r3
               by_cases hr1 : R.1 = 0
               · obtain ⟨rfl,hrd2⟩:=r1 hr1
                 have hle:=HRE.out.1 hr1
                 have hq5:=HQ4.out
                 rw [if_neg (λ h=>h hr1)] at hq5
                 have HNew : Hid (∃ q at' d,HcRel base p g ps H w left (s + R.2.1 + 1) true q at' d w2):=by
                  refine ⟨q.set s 0,R.2.2,d,hrd2,?_,by simp [HH.out.ql],HRE.out.2 hr1,?_,by have:=HH.out.fuel; omega,HO2.out,HH.out.gt⟩
                  · exact a2w rfl HPut.out.2.1 r3 (λ k hk e=>by
                      have : g = k:=by simpa [Value.ownBlock] using hk
                      have:=HH.out.gt
                      omega)
                  · rw [show s + R.2.1 + 1 = s + 1 + R.2.1 by omega]; exact hq5
                 obtain ⟨rn,hrn⟩ : ∃ rn,rn = R.2.1:=⟨_,rfl⟩
                 rw [<- hrn] at hle HNew ⊢
                 clear r1 r2 r3 hrd2 hq5 hrt hrn
                 go_wp2_with fail
                 refine (a4C (rn : Int) w2).mono ?_
                 rintro e w' ⟨rfl,rfl⟩
                 go_wp2_with fail
                 go_roundw
                 case rel=>exact ⟨left,s + rn + 1,true,by first | rfl | (congr 1; omega),rfl,by go_num,hl4,by omega,HNew⟩
                 case measure=>simp [intOf]; omega
               · obtain rfl:=r2 hr1
                 have HE : Hid ((R.1,q,0) = H):=by have:=HQ4.out; rw [if_pos hr1] at this; exact this
                 obtain ⟨rc,hrc⟩ : ∃ rc,rc = R.1:=⟨_,rfl⟩
                 rw [<- hrc] at HE hr1 ⊢
                 clear r1 r2 r3 hrt hrc
                 go_wp2_with fail
                 refine (a9l 0 rc w2 hr1).mono ?_
                 rintro e w' ⟨rfl,rfl⟩
                 unfold panE
                 go_wp2_with fail
                 refine ⟨rfl,?_⟩
                 exact ⟨(λ h=>by rw [<- HE.out] at h; exact absurd h hr1),(λ _=>by rw [<- HE.out]; rfl),HO2.out⟩
          · have hvb : ((V : Int) == 0) = false:=beq_eq_false_iff_ne.2 (by omega)
            have hq4:=HQ3.out
            rw [if_neg (λ h=>hV0 h.2),if_neg hV0] at hq4
            have HNew : Hid (∃ q at' d,HcRel base p g ps H w (left - V) (s + 1) false q at' d (w1.setCell ⟨g,s,none⟩ (.int .i64 (V : Int)))):=
             ⟨q.set s (V : Int),at2,d,HPut.out.1,HPut.out.2.1,by simp [HH.out.ql],HT2.out,hq4,by have:=HH.out.fuel; omega,HPut.out.2.2.1,HH.out.gt⟩
            have hls : (left : Int) - (V : Int) = ((left - V : Nat) : Int):=by omega
            clear hq4
            cases again with
            | true=>
             go_wp2_with fail
             refine (a4C (V : Int) w1).mono ?_
             rintro e w' ⟨rfl,rfl⟩
             go_wp2_with fail
             refine (a4B _).mono ?_
             rintro e w' ⟨rfl,rfl⟩
             go_wp2_with fail
             go_roundw
             case rel=>exact ⟨left - V,s + 1,false,by first | rfl | (congr 1; omega),rfl,by go_num,by omega,by omega,HNew⟩
             case measure=>simp [intOf]; omega
            | false=>
             go_wp2_with fail
             refine (a4C (V : Int) w1).mono ?_
             rintro e w' ⟨rfl,rfl⟩
             go_wp2_with fail
             refine (a4B _).mono ?_
             rintro e w' ⟨rfl,rfl⟩
             go_wp2_with fail
             go_roundw
             case rel=>exact ⟨left - V,s + 1,false,by first | rfl | (congr 1; omega),rfl,by go_num,by omega,by omega,HNew⟩
             case measure=>simp [intOf]; omega
set_option maxRecDepth 100000 in
theorem c4x (a b : Nat) (va : Value) (n x : Int) (older : List PanicEntry) (w : World) (ha : w.cell? ⟨a,0,none⟩ = some va) (hfa : w.frozen? ⟨a,0,none⟩ = false) (hb : w.cell? ⟨b,0,none⟩ = some (.int .i64 x)) (hfb : w.frozen? ⟨b,0,none⟩ = false) (hne : a ≠ b) :
    CallsD Tryz.prog 80 #[.pointer (some ⟨a,0,none⟩),.pointer (some ⟨b,0,none⟩)] (.panicking ({ v:=.iface 24 (.int .i64 n),recovered:=false } :: older)) w λ e u' w'=>
     e = .returned (.tuple #[]) /\ u' = .panicking ({ v:=.iface 24 (.int .i64 n),recovered:=true } :: older) /\ w' = (w.setCell ⟨a,0,none⟩ (.slice none 0 0)).setCell ⟨b,0,none⟩ (.int .i64 n):=by
 have ta : ∀ (v : Value) (w : World),(Instr.typeAssert (.iface 24 v) 20 24 true).run Tryz.prog w = .ok (.tuple #[v,.bool true]) w:=λ v w=>by kernel_rfl
 have hne2 : ¬ b = a:=λ e=>hne e.symm
 refine callsD_of_wpS Tryz.func80 rfl λ c₀ cs hu=>?_
 apply wpS_seq
 apply wpS_region
 simp [wpOpsS,go_sem,recoverD,hu,Tryz.ntmps80,Exit.thenS,ta]
 apply wpS_seq
 apply wpS_region
 simp [wpOpsS,go_sem,Exit.thenS]
 refine wpS_cond (t:=true) (by simp [Act.eval,Array.replicate]) ?_
 simp only [if_true]
 apply wpS_region
 have hb2 : (w.setCell ⟨a,0,none⟩ (.slice none 0 0)).cell? ⟨b,0,none⟩ = some (.int .i64 x):=by
  rw [World.cell?_setCell_other _ _ _ _ (by simp)]; exact hb
 have hfb2 : (w.setCell ⟨a,0,none⟩ (.slice none 0 0)).frozen? ⟨b,0,none⟩ = false:=by simp [hfb,go_sem]
 simp [wpOpsS,go_sem,ha,hfa,hb2,hfb2,bodyPostS,results,Tryz.results80]
set_option maxRecDepth 100000 in
theorem c4y (a b : Nat) (w : World) :
    CallsD Tryz.prog 80 #[.pointer (some ⟨a,0,none⟩),.pointer (some ⟨b,0,none⟩)] .returning w λ e u' w'=>e = .returned (.tuple #[]) /\ u' = .returning /\ w' = w:=by
 have ta : ∀ (w : World),(Instr.typeAssert .nilIface 20 24 true).run Tryz.prog w = .ok (.tuple #[.int .i64 0,.bool false]) w:=λ w=>by kernel_rfl
 refine callsD_of_wpS Tryz.func80 rfl λ c₀ cs hu=>?_
 apply wpS_seq
 apply wpS_region
 simp [wpOpsS,go_sem,recoverD,hu,Tryz.ntmps80,Exit.thenS,ta]
 apply wpS_seq
 apply wpS_region
 simp [wpOpsS,go_sem,Exit.thenS]
 refine wpS_cond (t:=false) (by simp [Act.eval,Array.replicate]) ?_
 simp only [Bool.false_eq_true,if_false]
 refine wpS_of_wp (wp_skip ?_)
 cases c₀
 simp_all [bodyPostS,results,Tryz.results80]
theorem Only.setNew {S : Nat -> Prop} {w w1 : World} (h : Only S w w1) {a : Nat} (ha : w.heap.size <= a) (j : Nat) (u : Value) : Only S w (w1.setCell ⟨a,j,none⟩ u):=
 ⟨h.os,h.tape,h.output,by simp; exact h.size,λ k hk hs=>by rw [Below.heap_setCell _ _ _ _ (by show k ≠ a; omega)]; exact h.block k hk hs⟩
def c4z (base p : Nat) (ps : List Int) (H : Int × List Int × Nat) (w : World) (e : Ending) (w' : World) : Prop:=
 (H.1 = 0 -> ∃ g,e = .returned (.tuple #[.slice (some ⟨g,0,none⟩) 256 256,.int .i64 0]) /\ (Kd.int .i64).R 3 w' w.heap.size (λ _=>True) (.slice (some ⟨g,0,none⟩) 256 256) H.2.1 /\ H.2.1.length = 256 /\ RfAt w' base p ps H.2.2) /\
 (H.1 ≠ 0 -> e = .returned (.tuple #[.slice none 0 0,.int .i64 H.1])) /\ Only (λ k=>k = p) w w'
set_option maxRecDepth 100000 in
set_option maxHeartbeats 1000000 in
theorem b4C (base p r : Nat) (ps : List Int) (at_ : Nat) (w : World) (h : RfAt w base p ps at_) (hps : ∀ x ∈ ps,0 <= x /\ x < 256) (hl : ps.length <= 1000000) (ha : at_ <= 8 * ps.length) (h1 : 1 <= r) (h12 : r <= 12) (hp : p < w.heap.size) :
    Calls Tryz.prog 34 #[.pointer (some ⟨p,0,none⟩),.int .i64 r] w (c4z base p ps (hdrT ps (8 * ps.length) 257 zeros256 0 (2 ^ r) false at_) w):=by
 obtain ⟨P,hP⟩ : ∃ P : Nat,P = 2 ^ r:=⟨_,rfl⟩
 rw [<- hP]
 obtain ⟨H,hH⟩ : ∃ H,H = hdrT ps (8 * ps.length) 257 zeros256 0 P false at_:=⟨_,rfl⟩
 rw [<- hH]
 have hPI : (2 : Int) ^ r = (P : Int):=by rw [hP]; simp
 have hPb : 1 <= P /\ P <= 4096:=by have:=a1y h12; rw [hPI] at this; omega
 have hw1 : IntKind.i64.wrap (2 ^ r) = (P : Int):=by rw [hPI]; exact i64_in _ (by omega)
 obtain ⟨W,hW⟩ : ∃ W,W = (w.alloc (.cells #[.slice none 0 0] 47)).alloc (.cells #[.int .i64 0] 24):=⟨_,rfl⟩
 have hmf : ∀ (fn : Fn) (first cap : Array Value) (w : World),(Instr.makeFunc fn first cap).run Tryz.prog w = .ok (.func fn first cap) w:=λ _ _ _ _=>rfl
 have hr1 : ¬ (r : Int) < 1:=by omega
 have hr2 : ¬ 12 < (r : Int):=by omega
 have hr0 : (0 : Int) <= r:=by omega
 have HW:=Lib.hid hPI
 have hsz : W.heap.size = w.heap.size + 2:=by rw [hW]; simp
 have hba : W.heap[w.heap.size]? = some (.cells #[.slice none 0 0] 47 (0,0)):=by rw [hW]; exact a0o (a0n _ _) _
 have hbb : W.heap[w.heap.size + 1]? = some (.cells #[.int .i64 0] 24 (0,0)):=by rw [hW]; exact a2y _ _ _
 have hWb : Below w.heap.size w W:=by rw [hW]; exact ((Below.refl _ _).alloc (Nat.le_refl _) _).alloc (by simp) _
 have HCnt:=Lib.hid (c4w base p ps at_ P W (h.below hWb) hps hl ha (by omega) (by omega))
 rw [<- hH] at HCnt
 obtain ⟨a,hae⟩ : ∃ a,a = w.heap.size:=⟨_,rfl⟩
 obtain ⟨b,hbe⟩ : ∃ b,b = w.heap.size + 1:=⟨_,rfl⟩
 rw [<- hae] at hba
 rw [<- hbe] at hbb
 have HA:=Lib.hid (And.intro hae (And.intro hbe (And.intro hsz (And.intro hba (And.intro hbb (And.intro hWb hp))))))
 clear hPI hP hH h hps hl ha hsz hba hbb hWb hp
 go_enter_defers Tryz.func34,Tryz.ntmps34
 go_wp2_with fail
 rw [<- hW,<- hbe,<- hae]
 clear hW hae hbe
 refine HCnt.out.mono ?_
 rintro e w1 ⟨c1,c2,c3⟩
 have hab : p ≠ a /\ p ≠ b /\ a ≠ b /\ a < W.heap.size /\ b < W.heap.size:=by obtain ⟨q1,q2,q3,q4,q5,q6,q7⟩:=HA.out; omega
 have hba1 : w1.heap[a]? = some (.cells #[.slice none 0 0] 47 (0,0)):=by rw [c3.block a hab.2.2.2.1 (λ e=>hab.1 e.symm)]; exact HA.out.2.2.2.1
 have hbb1 : w1.heap[b]? = some (.cells #[.int .i64 0] 24 (0,0)):=by rw [c3.block b hab.2.2.2.2 (λ e=>hab.2.1 e.symm)]; exact HA.out.2.2.2.2.1
 have ca : w1.cell? ⟨a,0,none⟩ = some (.slice none 0 0):=(a0a hba1 0).trans rfl
 have cb : w1.cell? ⟨b,0,none⟩ = some (.int .i64 0):=(a0a hbb1 0).trans rfl
 have fa : w1.frozen? ⟨a,0,none⟩ = false:=a0e hba1 0
 have fb : w1.frozen? ⟨b,0,none⟩ = false:=a0e hbb1 0
 have HC3:=Lib.hid (And.intro c3 hab)
 have hne : ¬ a = b:=hab.2.2.1
 have hne' : ¬ b = a:=λ e=>hab.2.2.1 e.symm
 by_cases h0 : H.1 = 0
 · obtain ⟨g,rfl,d1,d2,d3⟩:=c1 h0
   have HD:=Lib.hid (And.intro d1 (And.intro d2 (And.intro d3 h0)))
   clear c1 c2 c3 d1 d2 d3 hba1 hbb1
   go_wp2_with fail
   refine leaves_cons (f:=80) (args:=#[.pointer (some ⟨a,0,none⟩),.pointer (some ⟨b,0,none⟩)]) (by simp) (by simp [go_sem]) ?_
   refine (c4y a b _).mono ?_
   rintro e u' w'' ⟨rfl,rfl,rfl⟩
   have ca2 : (w1.setCell ⟨a,0,none⟩ (.slice (some ⟨g,0,none⟩) 256 256)).cell? ⟨a,0,none⟩ = some (.slice (some ⟨g,0,none⟩) 256 256):=World.cell?_setCell_same _ _ _ ca
   have cb2 : ((w1.setCell ⟨a,0,none⟩ (.slice (some ⟨g,0,none⟩) 256 256)).setCell ⟨b,0,none⟩ (.int .i64 0)).cell? ⟨b,0,none⟩ = some (.int .i64 0):=World.cell?_setCell_same _ _ _ (by rw [World.cell?_setCell_other _ _ _ _ (by simp)]; exact cb)
   simp [Leaves,settle,results,Tryz.results34,go_sem,ca2,cb2]
   have ho : Only (λ k=>k = p) w w1:=(Only.of_below HA.out.2.2.2.2.2.1).trans HC3.out.1
   refine ⟨λ _=>⟨g,rfl,?_,HD.out.2.1,?_⟩,λ h=>absurd HD.out.2.2.2 h,(ho.setNew (by have:=HA.out.1; omega) 0 _).setNew (by have:=HA.out.2.1; omega) 0 _⟩
   · have hlt:=HC3.out.2
     have h1:=Kd.R_bound HD.out.1
     have h2:=Kd.R_far (p:=⟨b,0,none⟩) (Kd.R_far (p:=⟨a,0,none⟩) h1 (λ k hk=>by show k ≠ a; have:=hk.2.1; omega) (.slice (some ⟨g,0,none⟩) 256 256)) (λ k hk=>by show k ≠ b; have:=hk.2.1; omega) (.int .i64 0)
     exact Kd.R_mono (Kd.R_lower h2 HA.out.2.2.2.2.2.1.size) (λ _ _=>trivial)
   · have h1:=HA.out.1; have h2:=HA.out.2.1; have h3:=HA.out.2.2.2.2.2.2
     exact (HD.out.2.2.1.far (by omega) 0 _).far (by omega) 0 _
 · obtain rfl:=c2 h0
   have HD:=Lib.hid h0
   clear c1 c2 c3 hba1 hbb1
   unfold panE
   go_wp2_with fail
   refine leaves_cons (f:=80) (args:=#[.pointer (some ⟨a,0,none⟩),.pointer (some ⟨b,0,none⟩)]) (by simp) (by simp [go_sem]) ?_
   refine (c4x a b (.slice none 0 0) H.1 0 [] w1 ca fa cb fb hne).mono ?_
   rintro e u' w'' ⟨rfl,rfl,rfl⟩
   have ca2 : (w1.setCell ⟨a,0,none⟩ (.slice none 0 0)).cell? ⟨a,0,none⟩ = some (.slice none 0 0):=World.cell?_setCell_same _ _ _ ca
   have cb2 : ((w1.setCell ⟨a,0,none⟩ (.slice none 0 0)).setCell ⟨b,0,none⟩ (.int .i64 H.1)).cell? ⟨b,0,none⟩ = some (.int .i64 H.1):=World.cell?_setCell_same _ _ _ (by rw [World.cell?_setCell_other _ _ _ _ (by simp)]; exact cb)
   simp [Leaves,settle,results,Tryz.results34,go_sem,ca2,cb2]
   refine ⟨λ h=>absurd h HD.out,λ _=>rfl,?_⟩
   have ho : Only (λ k=>k = p) w w1:=(Only.of_below HA.out.2.2.2.2.2.1).trans HC3.out.1
   exact (ho.setNew (by have:=HA.out.1; omega) 0 _).setNew (by have:=HA.out.2.1; omega) 0 _
end Go.Proofs.YtipjlneepponpaaGreat
namespace Go.Proofs.YtipjlneepponpaaGreat
open Go.RowKit Go.Proofs.YtipjlneepponpaaGreatW.PrintWords HeapL
def a1G (rest : List Int) (s : Nat) : K3:=((s : Int),rest.getD s 0,0)
def candN (rest : List Int) (had : List Bool) (k : Nat) : List K3:=((List.range k).filter (λ s=>!had.getD s false)).map (a1G rest)
def a1t (c q : List Int) (s : Nat) : K3:=((s : Int),q.getD s 0,(1073741824 - c.getD s 0) * 256 + s)
def candT (c q : List Int) (k : Nat) : List K3:=((List.range k).filter (λ s=>decide (0 < c.getD s 0))).map (a1t c q)
theorem a9t (rest : List Int) (had : List Bool) (k : Nat) : candN rest had (k + 1) = if had.getD k false = false then candN rest had k ++ [a1G rest k] else candN rest had k:=by
 unfold candN
 have e : [k].filter (λ s=>!had.getD s false) = if had.getD k false = false then [k] else []:=by
  rw [List.filter_cons,List.filter_nil]; cases had.getD k false <;> rfl
 rw [List.range_succ,List.filter_append,List.map_append,e]
 split
 · rfl
 · rw [List.map_nil,List.append_nil]
theorem b4Q (c q : List Int) (k : Nat) : candT c q (k + 1) = if 0 < c.getD k 0 then candT c q k ++ [a1t c q k] else candT c q k:=by
 unfold candT
 rw [List.range_succ,List.filter_append,List.map_append,List.filter_cons,List.filter_nil]
 by_cases h : 0 < c.getD k 0
 · rw [if_pos h,if_pos (decide_eq_true h)]; rfl
 · rw [if_neg h,if_neg (by rw [decide_eq_false h]; decide),List.map_nil,List.append_nil]
theorem a9u (rest : List Int) (had : List Bool) (k : Nat) : (candN rest had k).length <= k:=by
 unfold candN; rw [List.length_map]; exact Nat.le_trans (List.length_filter_le _ _) (by simp)
theorem a9v (c q : List Int) (k : Nat) : (candT c q k).length <= k:=by
 unfold candT; rw [List.length_map]; exact Nat.le_trans (List.length_filter_le _ _) (by simp)
theorem b4R {p : Nat -> Bool} {t : Nat} (ht : t < 256) (hp : p t = true) : ((List.range 256).filter p).Perm (t :: (List.range 256).filter (λ s=>p s && decide (s ≠ t))):=by
 have hm : t ∈ (List.range 256).filter p:=List.mem_filter.2 ⟨List.mem_range.2 ht,hp⟩
 have hn : ((List.range 256).filter p).Nodup:=List.Pairwise.filter _ List.nodup_range
 have e : ((List.range 256).filter p).erase t = (List.range 256).filter (λ s=>p s && decide (s ≠ t)):=by
  rw [hn.erase_eq_filter,List.filter_filter]
  refine List.filter_congr λ s _=>?_
  rw [Bool.and_comm]
  congr 1
  by_cases h : s = t <;> simp [h]
 rw [<- e]
 exact List.perm_cons_erase hm
theorem b4S (rest : List Int) (had : List Bool) : ∀ k s,s < k -> had.getD s false = false -> 0 <= needN rest had k /\ (rest.getD s 0 < rest.getD (needN rest had k).toNat 0 \/ rest.getD s 0 = rest.getD (needN rest had k).toNat 0 /\ needN rest had k <= s)
 | 0,s,h,_=>by omega
 | k + 1,s,h,hs=>by
  have hl:=a4u rest had k
  simp only [needN]
  by_cases e : s = k
  · subst e
    rw [if_neg (by rw [hs]; decide)]
    by_cases h1 : needN rest had s < 0
    · rw [if_pos h1,Int.toNat_natCast]; exact ⟨by omega,.inr ⟨rfl,Int.le_refl _⟩⟩
    · rw [if_neg h1]
      by_cases h2 : rest.getD s 0 > rest.getD (needN rest had s).toNat 0
      · rw [if_pos h2,Int.toNat_natCast]; exact ⟨by omega,.inr ⟨rfl,Int.le_refl _⟩⟩
      · rw [if_neg h2]; exact ⟨by omega,by omega⟩
  · obtain ⟨i1,i2⟩:=b4S rest had k s (by omega) hs
    by_cases h0 : had.getD k false = true
    · rw [if_pos h0]; exact ⟨i1,i2⟩
    · rw [if_neg h0,if_neg (by omega)]
      by_cases h2 : rest.getD k 0 > rest.getD (needN rest had k).toNat 0
      · rw [if_pos h2,Int.toNat_natCast]; exact ⟨by omega,.inl (by omega)⟩
      · rw [if_neg h2]; exact ⟨i1,i2⟩
theorem b4T (q c : List Int) : ∀ k s,s < k -> q.getD s 0 < q.getD (richN q c k) 0 \/ q.getD s 0 = q.getD (richN q c k) 0 /\ (c.getD (richN q c k) 0 < c.getD s 0 \/ c.getD (richN q c k) 0 = c.getD s 0 /\ s <= richN q c k)
 | 0,s,h=>by omega
 | k + 1,s,h=>by
  have hl:=a4v q c k
  by_cases e : s = k
  · subst e
    simp only [richN]
    split
    · exact .inr ⟨rfl,.inr ⟨rfl,Nat.le_refl _⟩⟩
    · omega
  · have ih:=b4T q c k s (by omega)
    simp only [richN]
    split
    · omega
    · exact ih
theorem c4N {rest : List Int} {had : List Bool} {x : K3} (h : x ∈ candN rest had 256) : ∃ s,s < 256 /\ had.getD s false = false /\ x = a1G rest s:=by
 obtain ⟨s,hs,rfl⟩:=List.mem_map.1 h
 obtain ⟨h1,h2⟩:=List.mem_filter.1 hs
 exact ⟨s,List.mem_range.1 h1,by simpa using h2,rfl⟩
theorem b4U {rest : List Int} {had : List Bool} {s : Nat} (h : s < 256) (h2 : had.getD s false = false) : a1G rest s ∈ candN rest had 256:=
 List.mem_map.2 ⟨s,List.mem_filter.2 ⟨List.mem_range.2 h,by show (!had.getD s false) = true; rw [h2]; rfl⟩,rfl⟩
theorem b4V {ys : List K3} {x : K3} (h : x ∈ ys) : ∃ k,k < ys.length /\ ys.getD k z3 = x:=by
 obtain ⟨k,hk,rfl⟩:=List.getElem_of_mem h
 exact ⟨k,hk,by rw [List.getD_eq_getElem?_getD,List.getElem?_eq_getElem hk]; rfl⟩
theorem b4W {ys : List K3} {k : Nat} (h : k < ys.length) : ys.getD k z3 ∈ ys:=by
 rw [List.getD_eq_getElem?_getD,List.getElem?_eq_getElem h]; exact List.getElem_mem _
theorem c4O {rest : List Int} {had : List Bool} {ys : List K3} (hp : ys.Perm (candN rest had 256)) (hh : From lessC z3 ys 0 ys.length) (h0 : 0 < ys.length) :
    ∃ t : Nat,needN rest had 256 = t /\ t < 256 /\ had.getD t false = false /\ ys.getD 0 z3 = a1G rest t:=by
 obtain ⟨s,hs,hsf,e⟩:=c4N (hp.subset (b4W h0))
 obtain ⟨n1,n2⟩:=b4S rest had 256 s hs hsf
 obtain ⟨l1,l2,l3⟩:=a4u rest had 256
 obtain ⟨t,ht⟩ : ∃ t : Nat,needN rest had 256 = t:=⟨_,(Int.toNat_of_nonneg n1).symm⟩
 rw [ht] at n1 n2 l2 l3
 rw [Int.toNat_natCast] at n2 l3
 have hf:=l3 (by omega)
 obtain ⟨k,hk,ek⟩:=b4V (hp.symm.subset (b4U (rest:=rest) (show t < 256 by omega) hf))
 have hr:=From.root ordC hh (Nat.le_refl _) (λ _ _=>trivial) k hk
 rw [ek,e,a7j] at hr
 simp only [a1G,true_and,Int.lt_irrefl,false_or] at hr
 have est : s = t:=by omega
 subst est
 exact ⟨s,ht,hs,hf,e⟩
theorem c4P {rest : List Int} {had : List Bool} {ys zs : List K3} {t : Nat} (hl : had.length = 256) (ht : t < 256) (hf : had.getD t false = false) (hp : ys.Perm (candN rest had 256)) (h : (a1G rest t :: zs).Perm ys) : zs.Perm (candN rest (had.set t true) 256):=by
 have h1:=(b4R (p:=λ s=>!had.getD s false) ht (by show (!had.getD t false) = true; rw [hf]; rfl)).map (a1G rest)
 have h2 : (a1G rest t :: zs).Perm (a1G rest t :: ((List.range 256).filter (λ s=>(!had.getD s false) && decide (s ≠ t))).map (a1G rest)):=(h.trans hp).trans h1
 have h3:=h2.cons_inv
 have e : candN rest (had.set t true) 256 = ((List.range 256).filter (λ s=>(!had.getD s false) && decide (s ≠ t))).map (a1G rest):=by
  unfold candN
  congr 1
  refine List.filter_congr λ s hs=>?_
  rw [List.getD_eq_getElem?_getD,List.getElem?_set]
  by_cases e : t = s
  · subst e; rw [if_pos rfl,if_pos (by omega)]; simp
  · rw [if_neg e,<- List.getD_eq_getElem?_getD]
    have : ¬ s = t:=λ x=>e x.symm
    simp [this]
 rw [e]; exact h3
theorem c4Q {c q : List Int} {x : K3} (h : x ∈ candT c q 256) : ∃ s,s < 256 /\ 0 < c.getD s 0 /\ x = a1t c q s:=by
 obtain ⟨s,hs,rfl⟩:=List.mem_map.1 h
 obtain ⟨h1,h2⟩:=List.mem_filter.1 hs
 exact ⟨s,List.mem_range.1 h1,by simpa using h2,rfl⟩
theorem b4X {c q : List Int} {s : Nat} (h : s < 256) (h2 : 0 < c.getD s 0) : a1t c q s ∈ candT c q 256:=
 List.mem_map.2 ⟨s,List.mem_filter.2 ⟨List.mem_range.2 h,decide_eq_true h2⟩,rfl⟩
theorem c4R {c q : List Int} {ys : List K3} (hi : ∀ s,0 < q.getD s 0 ↔ 0 < c.getD s 0) (hp : ys.Perm (candT c q 256)) (hh : From lessC z3 ys 0 ys.length) (h0 : 0 < ys.length) :
    richN q c 256 < 256 /\ 0 < c.getD (richN q c 256) 0 /\ ys.getD 0 z3 = a1t c q (richN q c 256):=by
 obtain ⟨s,hs,hsf,e⟩:=c4Q (hp.subset (b4W h0))
 have n2:=b4T q c 256 s hs
 have l2:=a4v q c 256
 obtain ⟨t,ht⟩ : ∃ t : Nat,t = richN q c 256:=⟨_,rfl⟩
 rw [<- ht] at n2 l2 ⊢
 have hqs:=(hi s).2 hsf
 have hct : 0 < c.getD t 0:=(hi t).1 (by omega)
 obtain ⟨k,hk,ek⟩:=b4V (hp.symm.subset (b4X (q:=q) (show t < 256 by omega) hct))
 have hr:=From.root ordC hh (Nat.le_refl _) (λ _ _=>trivial) k hk
 rw [ek,e,a7j] at hr
 simp only [a1t] at hr
 have est : s = t:=by omega
 subst est
 exact ⟨hs,hct,e⟩
theorem c4S {c q : List Int} {ys zs us : List K3} {t : Nat} (hl : q.length = 256) (ht : t < 256) (hf : 0 < c.getD t 0) (hp : ys.Perm (candT c q 256)) (h : (a1t c q t :: zs).Perm ys)
    (hu : us.Perm (((t : Int),q.getD t 0 - 1,(1073741824 - c.getD t 0) * 256 + t) :: zs)) : us.Perm (candT c (q.set t (q.getD t 0 - 1)) 256):=by
 have hpa:=b4R (p:=λ s=>decide (0 < c.getD s 0)) ht (decide_eq_true hf)
 have h2 : (a1t c q t :: zs).Perm (a1t c q t :: ((List.range 256).filter (λ s=>(decide (0 < c.getD s 0)) && decide (s ≠ t))).map (a1t c q)):=(h.trans hp).trans (hpa.map (a1t c q))
 have h3:=h2.cons_inv
 have h4:=hpa.map (a1t c (q.set t (q.getD t 0 - 1)))
 rw [List.map_cons] at h4
 have e1 : a1t c (q.set t (q.getD t 0 - 1)) t = ((t : Int),q.getD t 0 - 1,(1073741824 - c.getD t 0) * 256 + t):=by
  unfold a1t; rw [a3a _ _ _ _ (by omega),if_pos rfl]
 have e2 : ((List.range 256).filter (λ s=>(decide (0 < c.getD s 0)) && decide (s ≠ t))).map (a1t c (q.set t (q.getD t 0 - 1))) = ((List.range 256).filter (λ s=>(decide (0 < c.getD s 0)) && decide (s ≠ t))).map (a1t c q):=by
  refine List.map_congr_left λ s hs=>?_
  have hs2:=(List.mem_filter.1 hs).2
  have : s ≠ t:=by simp at hs2; exact hs2.2
  unfold a1t; rw [a3a _ _ _ _ (by omega),if_neg this]
 rw [e1,e2] at h4
 exact (hu.trans (h3.cons _)).trans h4.symm
open Go.IntWalk
structure GvRel (gq c B : Nat) (w : World) (qs : List Int) (p : Nat) (v : Value) (ys : List K3) (wr : World) : Prop where
 q : (Kd.int .i64).R 3 wr B (λ _=>True) (.slice (some ⟨gq,0,none⟩) 256 c) qs
 h : CKp p B wr v ys
 ne : p ≠ gq /\ v.ownBlock ≠ some gq
 heap : From lessC z3 ys 0 ys.length
 below : Below B w wr
 pB : B <= p
theorem GvRel.start {gq c B : Nat} {w : World} {qs : List Int} {l : Value} {xs : List K3} (hq : (Kd.int .i64).R 3 w B (λ _=>True) (.slice (some ⟨gq,0,none⟩) 256 c) qs)
    (hl : k3.R 167 w B (λ k=>k ≠ gq) l xs) (hB : B <= w.heap.size) :
    CKp w.heap.size B (w.alloc (.cells #[l] 165)) l xs /\ (Kd.int .i64).R 3 (w.alloc (.cells #[l] 165)) B (λ _=>True) (.slice (some ⟨gq,0,none⟩) 256 c) qs /\
     w.heap.size ≠ gq /\ l.ownBlock ≠ some gq /\ Below B w (w.alloc (.cells #[l] 165)):=by
 have h1:=Kd.R_lt hq gq rfl
 refine ⟨⟨a0n _ _,Kd.R_alloc (Kd.R_mono (Kd.R_bound hl) (λ k hk=>by have:=hk.2.2.1; omega)) _⟩,Kd.R_alloc hq _,by omega,λ e=>hl.1 gq e rfl,(Below.refl _ _).alloc hB _⟩
theorem GvRel.of_init {gq c B : Nat} {w w1 w2 : World} {qs : List Int} {p : Nat} {v : Value} {ys : List K3} (hq : (Kd.int .i64).R 3 w1 B (λ _=>True) (.slice (some ⟨gq,0,none⟩) 256 c) qs) (hp : p ≠ gq) (hv : v.ownBlock ≠ some gq) (hb : Below B w w1) (hB : B <= p) (hB1 : B <= w1.heap.size)
    (h : CKp p B w2 v ys) (hh : From lessC z3 ys 0 ys.length) (ho : Only (λ k=>v.ownBlock = some k) w1 w2) : GvRel gq c B w qs p v ys w2:=
 ⟨a2w rfl hq ho (λ k hk e=>hv (by rw [e,<- hk]; rfl)),h,⟨hp,hv⟩,hh,hb.trans (ho.below hB1 (λ k e=>Kd.R_base h.row k e)),hB⟩
theorem GvRel.popped {gq c B g n cap : Nat} {w w1 w2 : World} {qs : List Int} {p : Nat} {ys zs : List K3} (H : GvRel gq c B w qs p (.slice (some ⟨g,0,none⟩) (n + 1) cap) ys w1) (hB1 : B <= w1.heap.size)
    (h : CKp p B w2 (.slice (some ⟨g,0,none⟩) n cap) zs) (hh : From lessC z3 zs 0 n) (ho : Only (λ k=>k = p \/ k = g) w1 w2) : GvRel gq c B w qs p (.slice (some ⟨g,0,none⟩) n cap) zs w2:=by
 have hg : g ≠ gq:=λ e=>H.ne.2 (by rw [e]; rfl)
 have hn:=(Kd.R_reads' h.row).1
 exact ⟨a2w rfl H.q ho (λ k hk e=>by
  have hk' : gq = k:=by simpa [Value.ownBlock] using hk
  subst hk'
  rcases e with e | e
  · exact H.ne.1 e.symm
  · exact hg e.symm),h,⟨H.ne.1,λ e=>hg (by simpa [Value.ownBlock] using e)⟩,by rw [<- hn]; exact hh,
  H.below.trans (ho.below hB1 (λ k e=>by rcases e with e | e; exact e ▸ H.pB; exact e ▸ Kd.R_base h.row g rfl)),H.pB⟩
theorem GvRel.put {gq c B : Nat} {w w1 : World} {qs : List Int} {p : Nat} {v : Value} {ys : List K3} (H : GvRel gq c B w qs p v ys w1) (t : Nat) (y : Int) : GvRel gq c B w (qs.set t y) p v ys (w1.setCell ⟨gq,t,none⟩ (.int .i64 y)):=by
 have ho : Only (λ k=>k = gq) w1 (w1.setCell ⟨gq,t,none⟩ (.int .i64 y)):=(Only.refl _ _).set1 _ _
 have hr:=Kd.R_putn H.q (t : Int) y
 rw [Int.toNat_natCast] at hr
 refine ⟨hr,⟨a1N H.h.blk (p:=⟨gq,t,none⟩) H.ne.1 _,?_⟩,H.ne,H.heap,H.below.setCell (Kd.R_base H.q gq rfl) _,H.pB⟩
 exact Kd.R_mono (Kd.R_step (Kd.R_tight rfl H.h.row) (λ k hk hlt=>ho.block k hlt (λ e=>H.ne.2 (by rw [<- e]; exact hk.symm)))) (λ k hk=>H.h.row.1 k hk.symm)
theorem c4T {rest : List Int} {m : Nat} {st : List Int × List Bool} {t : Nat} (h : needN rest (a0S rest m st).2 256 = t) : a0S rest (m + 1) st = ((a0S rest m st).1.set t ((a0S rest m st).1.getD t 0 + 1),(a0S rest m st).2.set t true):=by
 simp only [a0S]; rw [h,Int.toNat_natCast]
structure GvNum (rest : List Int) (had : List Bool) (ys : List K3) (k : Nat) (st : List Int × List Bool) : Prop where
 ql : st.1.length = 256
 hl : st.2.length = 256
 rng : ∀ s,0 <= st.1.getD s 0 /\ st.1.getD s 0 <= 8192 + k
 free : freeN st.2 + k = freeN had
 perm : ys.Perm (candN rest st.2 256)
theorem GvNum.some {rest : List Int} {had : List Bool} {ys : List K3} {k : Nat} {st : List Int × List Bool} (h : GvNum rest had ys k st) (hk : k < freeN had) : 0 < ys.length:=by
 obtain ⟨s,hs,hf⟩:=a8K h.hl (by have:=h.free; omega)
 exact List.length_pos_of_mem (h.perm.symm.subset (b4U hs hf))
theorem GvNum.next {rest : List Int} {had : List Bool} {ys zs : List K3} {k t : Nat} {st : List Int × List Bool} (h : GvNum rest had ys k st) (ht : t < 256) (hf : st.2.getD t false = false) (hz : (a1G rest t :: zs).Perm ys) : GvNum rest had zs (k + 1) (st.1.set t (st.1.getD t 0 + 1),st.2.set t true):=by
 refine ⟨by simp [h.ql],by simp [h.hl],λ s=>?_,?_,c4P h.hl ht hf h.perm hz⟩
 · show 0 <= (st.1.set t (st.1.getD t 0 + 1)).getD s 0 /\ (st.1.set t (st.1.getD t 0 + 1)).getD s 0 <= 8192 + ((k + 1 : Nat) : Int)
   rw [a3a _ _ _ _ (by rw [h.ql]; exact ht)]
   have h1:=h.rng t; have h2:=h.rng s
   split <;> omega
 · have:=b3M (s:=t) (by rw [h.hl]; exact ht) hf
   have:=h.free
   show freeN (st.2.set t true) + (k + 1) = _
   omega
theorem c4U (a b c : Value) (w : World) : (Instr.field 167 (.agg #[a,b,c]) 0).run Tryz.prog w = .ok a w:=by kernel_rfl
def c4V (gq c B : Nat) (qs' : List Int) (w : World) (e : Ending) (w' : World) : Prop:=e = .returned (.tuple #[]) /\ (Kd.int .i64).R 3 w' B (λ _=>True) (.slice (some ⟨gq,0,none⟩) 256 c) qs' /\ Below B w w'
set_option maxRecDepth 100000 in
set_option maxHeartbeats 1000000 in
theorem c4W (gq c B : Nat) (qs : List Int) (l : Value) (rest : List Int) (had : List Bool) (m : Nat) (w : World) (hq : (Kd.int .i64).R 3 w B (λ _=>True) (.slice (some ⟨gq,0,none⟩) 256 c) qs)
    (hl : k3.R 167 w B (λ k=>k ≠ gq) l (candN rest had 256)) (hB : B <= w.heap.size) (hqs : qs.length = 256) (hhl : had.length = 256) (hr : ∀ s,0 <= qs.getD s 0 /\ qs.getD s 0 <= 8192) (hm : m <= freeN had) (hm2 : m <= 4096) :
    Calls Tryz.prog 150 #[.slice (some ⟨gq,0,none⟩) 256 c,l,.int .i64 m] w (c4V gq c B (a0S rest m (qs,had)).1 w):=by
 have HS:=Lib.hid (GvRel.start hq hl hB)
 have HM:=Lib.hid (And.intro hB (And.intro hqs (And.intro hhl (And.intro hr hm))))
 clear hq hl hB hqs hhl hr hm
 obtain ⟨A,cl,rfl⟩:=Kd.R_slice HS.out.1.row
 have ta:=a9q
 go_enter Tryz.func150,Tryz.ntmps150
 go_wp2_with fail
 refine (b4P _ HS.out.1 (by have:=a9u rest had 256; omega)).mono ?_
 rintro e w2 ⟨rfl,ys,h1,h2,h3,h4⟩
 have HI : Hid (GvRel gq c B w qs w.heap.size (.slice A (candN rest had 256).length cl) ys w2 /\ GvNum rest had ys 0 (qs,had)):=
  ⟨GvRel.of_init HS.out.2.1 HS.out.2.2.1 HS.out.2.2.2.1 HS.out.2.2.2.2 HM.out.1 (by simp; have:=HM.out.1; omega) h1 h3 h4,⟨HM.out.2.1,HM.out.2.2.1,λ s=>by have:=HM.out.2.2.2.1 s; show 0 <= qs.getD s 0 /\ qs.getD s 0 <= 8192 + ((0 : Nat) : Int); omega,rfl,h2⟩⟩
 clear h1 h2 h3 h4
 go_wp2_with fail
 go_loopw [9] (λ kv wr=>∃ (k : Nat) (v : Value) (ys : List K3),kv = .int .i64 k /\ k <= m /\ Hid (GvRel gq c B w (a0S rest k (qs,had)).1 w.heap.size v ys wr /\ GvNum rest had ys k (a0S rest k (qs,had)))) (λ kv _=>m - (intOf kv).toNat)
 case atStart=>exact ⟨0,_,ys,rfl,by omega,HI⟩
 case round=>
  obtain ⟨k,v,ys,rfl,hk,H⟩:=hrel
  by_cases hlt : k < m
  · have hpos:=H.out.2.some (by have:=HM.out.2.2.2.2; omega)
    obtain ⟨g,cap,rfl,-⟩:=Kd.R_form H.out.1.h.row hpos
    obtain ⟨t,ht1,ht2,ht3,ht4⟩:=c4O H.out.2.perm H.out.1.heap hpos
    obtain ⟨n,hn⟩ : ∃ n,ys.length = n + 1:=⟨ys.length - 1,by omega⟩
    rw [hn] at H
    have hn6 : n <= 100000:=by have:=H.out.2.perm.length_eq; have:=a9u rest (a0S rest k (qs,had)).2 256; omega
    have HT:=Lib.hid (And.intro ht1 (And.intro ht2 (And.intro ht3 (And.intro ht4 hn))))
    have HBr : Hid (B <= wr.heap.size):=Nat.le_trans HM.out.1 H.out.1.below.size
    clear ht1 ht3 ht4 hn hpos
    go_wp2_with fail
    refine (b4O ordC _ H.out.1.h hn6 (λ _ _=>trivial) (by have:=H.out.1.heap; rw [HT.out.2.2.2.2] at this; exact this)).mono ?_
    rintro e w3 ⟨rfl,zs,h1,h2,h3,h4⟩
    have H3 : Hid (GvRel gq c B w (a0S rest k (qs,had)).1 w.heap.size (.slice (some ⟨g,0,none⟩) n cap) zs w3):=GvRel.popped H.out.1 HBr.out h1 h3 h4
    rw [HT.out.2.2.2.1] at h2 ⊢
    have HZ:=Lib.hid (GvNum.next H.out.2 ht2 HT.out.2.2.1 h2)
    clear h1 h2 h3 h4
    obtain ⟨hc3,hf3⟩:=a1u H3.out.q t ht2
    obtain ⟨hy0,hy1⟩:=H.out.2.rng t
    obtain ⟨y,hy⟩ : ∃ y,y = (a0S rest k (qs,had)).1.getD t 0:=⟨_,rfl⟩
    rw [<- hy] at hc3 hy0 hy1
    have HY:=Lib.hid hy
    have ht256 : (t : Int) < 256:=by omega
    clear hy
    simp only [a1G]
    obtain ⟨z,hz⟩ : ∃ z,z = rest.getD t 0:=⟨_,rfl⟩
    rw [<- hz]
    have fd:=c4U (.int .i64 t) (.int .i64 z) (.int .i64 0)
    clear hz
    go_wp2_with fail
    go_roundw
    case rel=>
     have hg:=c4T (st:=(qs,had)) HT.out.1
     refine ⟨k + 1,.slice (some ⟨g,0,none⟩) n cap,zs,by go_num,by omega,?_⟩
     rw [hg,<- HY.out]
     exact ⟨H3.out.put t (y + 1),by rw [HY.out]; exact HZ.out⟩
    case measure=>simp [intOf]; omega
  · have hkm : k = m:=by omega
    subst hkm
    go_wp2_with fail
    go_end0
    exact ⟨rfl,H.out.1.q,H.out.1.below⟩
structure TkRel (gq cq B : Nat) (W0 : World) (qs : List Int) (p : Nat) (v : Value) (ys : List K3) (wr : World) : Prop where
 q : (Kd.int .i64).R 3 wr B (λ _=>True) (.slice (some ⟨gq,0,none⟩) 256 cq) qs
 h : CKp p B wr v ys
 ne : p ≠ gq /\ v.ownBlock ≠ some gq
 below : Below B W0 wr
 pB : B <= p
theorem TkRel.start {gq cq B : Nat} {W0 w : World} {qs : List Int} (hq : (Kd.int .i64).R 3 w B (λ _=>True) (.slice (some ⟨gq,0,none⟩) 256 cq) qs) (hb : Below B W0 w) (hB : B <= w.heap.size) :
    TkRel gq cq B W0 qs w.heap.size (.slice none 0 0) [] (w.alloc (.cells #[.slice none 0 0] 165)):=by
 have h1:=Kd.R_lt hq gq rfl
 exact ⟨Kd.R_alloc hq _,⟨a0n _ _,Kd.R_nil _ _ _ _ _⟩,⟨by omega,by simp [Value.ownBlock]⟩,hb.alloc hB _,hB⟩
theorem TkRel.app {gq cq B : Nat} {W0 W wa : World} {qs : List Int} {p : Nat} {v v1 : Value} {ys zs : List K3} (H : TkRel gq cq B W0 qs p v ys W) (hB : B <= W.heap.size) (hr : k3.R 167 wa B (λ k=>k ≠ p) v1 zs) (hg : W.grownBy wa v.ownBlock)
    (hat : v1.ownBlock = v.ownBlock \/ ∃ b,v1.ownBlock = some b /\ W.heap.size <= b) : TkRel gq cq B W0 qs p v1 zs (wa.setCell ⟨p,0,none⟩ v1):=by
 have hpv : some p ≠ v.ownBlock:=λ e=>H.h.row.1 p e.symm rfl
 have hgl:=Kd.R_lt H.q gq rfl
 have hb1:=a1b H.h.blk hg hpv
 have hne1 : v1.ownBlock ≠ some gq:=λ e=>by
  rcases hat with h | ⟨b,h,hle⟩
  · exact H.ne.2 (by rw [<- h]; exact e)
  · rw [h] at e; injection e with e; omega
 have h1:=Kd.R_grown1 H.q rfl hg H.ne.2
 have ho : Only (λ k=>k = p) wa (wa.setCell ⟨p,0,none⟩ v1):=(Only.refl _ _).set1 _ _
 refine ⟨a2w rfl h1 ho (λ k hk e=>H.ne.1 (by rw [<- e]; simpa [Value.ownBlock] using hk.symm)),⟨a0x hb1 0 _,Kd.R_far (p:=⟨p,0,none⟩) hr (λ k hk=>hk) _⟩,⟨H.ne.1,hne1⟩,?_,H.pB⟩
 exact (b8H H.below hg (λ k hk=>Kd.R_base H.h.row k hk) hB).setCell H.pB _
theorem GvRel.alloc {gq c B : Nat} {w : World} {qs : List Int} {p : Nat} {v : Value} {ys : List K3} {wr : World} (H : GvRel gq c B w qs p v ys wr) (hB : B <= wr.heap.size) (o : Obj) : GvRel gq c B w qs p v ys (wr.alloc o):=
 ⟨Kd.R_alloc H.q o,H.h.below ((Below.refl _ _).alloc (Nat.le_refl _) o),H.ne,H.heap,H.below.alloc hB o,H.pB⟩
theorem GvRel.far {gq c B : Nat} {w : World} {qs : List Int} {p : Nat} {v : Value} {ys : List K3} {wr : World} (H : GvRel gq c B w qs p v ys wr) {g : Nat} (h1 : g ≠ gq) (h2 : p ≠ g) (h3 : v.ownBlock ≠ some g) (hB : B <= g) (j : Nat) (u : Value) : GvRel gq c B w qs p v ys (wr.setCell ⟨g,j,none⟩ u):=by
 have ho : Only (λ k=>k = g) wr (wr.setCell ⟨g,j,none⟩ u):=(Only.refl _ _).set1 _ _
 refine ⟨a2w rfl H.q ho (λ k hk e=>h1 (by rw [<- e]; simpa [Value.ownBlock] using hk.symm)),⟨a1N H.h.blk (p:=⟨g,j,none⟩) h2 _,?_⟩,H.ne,H.heap,H.below.setCell hB _,H.pB⟩
 exact Kd.R_mono (Kd.R_step (Kd.R_tight rfl H.h.row) (λ k hk hlt=>ho.block k hlt (λ e=>h3 (by rw [<- e]; exact hk.symm)))) (λ k hk=>H.h.row.1 k hk.symm)
theorem GvRel.pushed {gq c B : Nat} {w w1 w2 : World} {qs : List Int} {p : Nat} {v v' : Value} {ys zs : List K3} (H : GvRel gq c B w qs p v ys w1) (hB : B <= w1.heap.size) (h : CKp p B w2 v' zs) (hh : From lessC z3 zs 0 zs.length)
    (hat : v'.ownBlock = v.ownBlock \/ ∃ b,v'.ownBlock = some b /\ w1.heap.size <= b) (ho : Only (λ k=>k = p \/ v.ownBlock = some k) w1 w2) : GvRel gq c B w qs p v' zs w2:=by
 have hgl:=Kd.R_lt H.q gq rfl
 refine ⟨a2w rfl H.q ho (λ k hk e=>?_),h,⟨H.ne.1,λ e=>?_⟩,hh,H.below.trans (ho.below hB (λ k e=>?_)),H.pB⟩
 · have hk' : gq = k:=by simpa [Value.ownBlock] using hk
   subst hk'
   rcases e with e | e
   · exact H.ne.1 e.symm
   · exact H.ne.2 e
 · rcases hat with h | ⟨b,h,hle⟩
   · exact H.ne.2 (by rw [<- h]; exact e)
   · rw [h] at e; injection e with e; omega
 · rcases e with e | e
   · exact e ▸ H.pB
   · exact Kd.R_base H.h.row k e
theorem c4X (c : List Int) (m : Nat) (q : List Int) : a0P c (m + 1) q = (a0P c m q).set (richN (a0P c m q) c 256) ((a0P c m q).getD (richN (a0P c m q) c 256) 0 - 1):=rfl
def a9w (c q : List Int) (m : Nat) : Prop:=∀ k,k <= m -> (a0P c k q).length = 256 /\ (∀ s,0 <= (a0P c k q).getD s 0 /\ (a0P c k q).getD s 0 <= 100000) /\ ∀ s,0 < (a0P c k q).getD s 0 ↔ 0 < c.getD s 0
def b4Y (gq cq B : Nat) (qs' : List Int) (W0 : World) (e : Ending) (w' : World) : Prop:=e = .returned (.tuple #[]) /\ (Kd.int .i64).R 3 w' B (λ _=>True) (.slice (some ⟨gq,0,none⟩) 256 cq) qs' /\ Below B W0 w'
set_option maxRecDepth 100000 in
set_option maxHeartbeats 2000000 in
theorem c4Y (gq cq cc : Nat) (A : Option Addr) (W0 : World) (qs c : List Int) (m : Nat) (w : World) (hq : (Kd.int .i64).R 3 w W0.heap.size (λ _=>True) (.slice (some ⟨gq,0,none⟩) 256 cq) qs)
    (hc : (Kd.int .i64).C W0 A 256 c) (hb : Below W0.heap.size W0 w) (hcl : c.length = 256) (hcr : ∀ s,0 <= c.getD s 0 /\ c.getD s 0 <= 1073741824) (hok : a9w c qs m) (hm2 : m <= 2000000) (hpos : 0 < m -> ∃ s,s < 256 /\ 0 < c.getD s 0) :
    Calls Tryz.prog 151 #[.slice (some ⟨gq,0,none⟩) 256 cq,.slice A 256 cc,.int .i64 m] w (b4Y gq cq W0.heap.size (a0P c m qs) W0):=by
 have HQ:=Lib.hid hq
 have HC:=Lib.hid (And.intro hc (And.intro hcl hcr))
 have HO:=Lib.hid hok
 have HP:=Lib.hid hpos
 have HB:=Lib.hid hb
 have HI : Hid (TkRel gq cq W0.heap.size W0 qs w.heap.size (.slice none 0 0) [] (w.alloc (.cells #[.slice none 0 0] 165))):=TkRel.start hq hb hb.size
 clear hq hc hb hcl hcr hok hpos
 go_enter Tryz.func151,Tryz.ntmps151
 go_wp2_with fail
 go_loopw [12] (λ kv wr=>∃ (k : Nat) (v : Value),kv = .int .i64 k /\ k <= 256 /\ Hid (TkRel gq cq W0.heap.size W0 qs w.heap.size v (candT c qs k) wr)) (λ kv _=>256 - (intOf kv).toNat)
 case atStart=>exact ⟨0,_,rfl,by omega,HI⟩
 case round=>
  obtain ⟨k,v,rfl,hk,H⟩:=hrel
  by_cases hlt : k < 256
  · obtain ⟨hqc,-⟩:=a1u H.out.q k hlt
    obtain ⟨y,hy⟩ : ∃ y,y = qs.getD k 0:=⟨_,rfl⟩
    rw [<- hy] at hqc
    have hy2:=(HO.out 0 (Nat.zero_le _)).2.1 k
    have hyc:=(HO.out 0 (Nat.zero_le _)).2.2 k
    simp only [a0P] at hy2 hyc
    rw [<- hy] at hy2 hyc
    obtain ⟨hy0,hy1⟩:=hy2
    have HY:=Lib.hid (And.intro hy hyc)
    clear hy hyc
    by_cases hpos : 0 < y
    · obtain ⟨ad,rfl,hcc⟩:=a0F HC.out.1 k hlt
      obtain ⟨z,hz⟩ : ∃ z,z = c.getD k 0:=⟨_,rfl⟩
      obtain ⟨hz0,hz1⟩:=HC.out.2.2 k
      rw [<- hz] at hcc hz0 hz1
      have hcw:=a0s H.out.below hcc
      have hcw2 : (wr.alloc (.cells #[.int .i64 k,.int .i64 y,.int .i64 (IntKind.i64.wrap (IntKind.i64.wrap (IntKind.i64.wrap (1073741824 - z) * 256) + (k : Int)))] 167)).cell? (ad.add k) = some (.int .i64 z):=a0s ((Below.refl _ _).alloc (Nat.le_refl _) _) hcw
      have HZ:=Lib.hid hz
      have HE : Hid (IntKind.i64.wrap (IntKind.i64.wrap (IntKind.i64.wrap (1073741824 - z) * 256) + (k : Int)) = (1073741824 - z) * 256 + k):=by
       show _ = _
       rw [i64_in (1073741824 - z) (by omega),i64_in ((1073741824 - z) * 256) (by omega),i64_in ((1073741824 - z) * 256 + (k : Int)) (by omega)]
      clear hz hcc
      have hpc:=H.out.h.cell
      have hpf:=a0e H.out.h.blk 0
      have hpl:=a0f H.out.h.blk
      have hpn : ¬ w.heap.size = wr.heap.size:=by omega
      have hpn' : ¬ wr.heap.size = w.heap.size:=by omega
      have hfr : Hid (∀ k,wr.heap.size <= k -> k ≠ w.heap.size):=λ k hk e=>by omega
      have HL : Hid (((candT c qs k).length + 1) * 24 <= 140737488355328):=by show _ <= _; have:=a9v c qs k; omega
      have HN : Hid (some w.heap.size ≠ v.ownBlock):=λ e=>H.out.h.row.1 _ e.symm rfl
      have HBr : Hid (W0.heap.size <= wr.heap.size):=H.out.below.size
      go_wp2_with fail
      go_region_law (first | (refine a4R k3 (w0:=W0) (W:=wr) W0.heap.size rfl (.tmp 19) (.tmp 31) 165 167 _ 24 rfl Tryz.underlying165 a9p rfl (by decide) (by decide) v (candT c qs k) ((k : Int),y,IntKind.i64.wrap (IntKind.i64.wrap (IntKind.i64.wrap (1073741824 - z) * 256) + (k : Int))) [.int .i64 k,.int .i64 y,.int .i64 (IntKind.i64.wrap (IntKind.i64.wrap (IntKind.i64.wrap (1073741824 - z) * 256) + (k : Int)))] (λ k=>k ≠ w.heap.size) (λ _=>False) rfl rfl (a4V _ _ _ _) (λ _ h=>h.elim) hfr.out H.out.h.row H.out.below HBr.out HL.out ?_; intro v1 w1 hr1 hb1 hg1 hat1; have hb2:=a1b H.out.h.blk hg1 HN.out; have hc2 : w1.cell? ⟨w.heap.size,0,none⟩ = some v:=(a0a hb2 0).trans rfl; have hf2:=a0e hb2 0; have HT:=Lib.hid (TkRel.app H.out HBr.out hr1 hg1 hat1); obtain ⟨A1,c1,rfl⟩:=Kd.R_slice hr1; simp only [List.length_append,List.length_singleton] at HT; clear hr1 hb1 hg1 hat1) | fail)
      all_goals
       go_wp2_with fail
       go_roundw
       case rel=>
        refine ⟨k + 1,.slice A1 ((candT c qs k).length + 1) c1,by go_num,by omega,?_⟩
        rw [b4Q,if_pos (HY.out.2.1 hpos)]
        unfold a1t
        rw [<- HY.out.1,<- HZ.out,<- HE.out]
        exact HT.out
       case measure=>simp [intOf]; omega
    · go_wp2_with fail
      go_roundw
      case rel=>
       refine ⟨k + 1,v,by go_num,by omega,?_⟩
       rw [b4Q,if_neg (λ h=>hpos (HY.out.2.2 h))]
       exact H.out
      case measure=>simp [intOf]; omega
  · obtain rfl : k = 256:=by omega
    obtain ⟨A1,c1,rfl⟩:=Kd.R_slice H.out.h.row
    have ta:=a9q
    go_wp2_with fail
    refine (b4P _ H.out.h (by have:=a9v c qs 256; omega)).mono ?_
    rintro e w2 ⟨rfl,ys,h1,h2,h3,h4⟩
    have HI2 : Hid (GvRel gq cq W0.heap.size W0 qs w.heap.size (.slice A1 (candT c qs 256).length c1) ys w2 /\ ys.Perm (candT c qs 256)):=
     ⟨GvRel.of_init H.out.q H.out.ne.1 H.out.ne.2 H.out.below H.out.pB H.out.below.size h1 h3 h4,h2⟩
    clear h1 h2 h3 h4 H
    go_wp2_with fail
    go_loopw [37] (λ kv wr=>∃ (k : Nat) (v : Value) (ys : List K3),kv = .int .i64 k /\ k <= m /\ Hid (GvRel gq cq W0.heap.size W0 (a0P c k qs) w.heap.size v ys wr /\ ys.Perm (candT c (a0P c k qs) 256))) (λ kv _=>m - (intOf kv).toNat)
    case atStart=>exact ⟨0,_,ys,rfl,by omega,HI2⟩
    case round=>
     obtain ⟨k,v,ys,rfl,hk,H⟩:=hrel
     by_cases hlt : k < m
     · obtain ⟨hql,hqr,hqi⟩:=HO.out k hk
       have hpos : 0 < ys.length:=by
        obtain ⟨s,hs,hsp⟩:=HP.out (by omega)
        exact List.length_pos_of_mem (H.out.2.symm.subset (b4X hs hsp))
       obtain ⟨g,cap,rfl,-⟩:=Kd.R_form H.out.1.h.row hpos
       obtain ⟨t,ht⟩ : ∃ t,t = richN (a0P c k qs) c 256:=⟨_,rfl⟩
       obtain ⟨ht1,ht2,ht3⟩:=c4R hqi H.out.2 H.out.1.heap hpos
       rw [<- ht] at ht1 ht2 ht3
       obtain ⟨n,hn⟩ : ∃ n,ys.length = n + 1:=⟨ys.length - 1,by omega⟩
       rw [hn] at H
       have hn6 : n <= 100000:=by have:=H.out.2.length_eq; have:=a9v c (a0P c k qs) 256; omega
       have HT:=Lib.hid (And.intro ht (And.intro ht1 (And.intro ht2 (And.intro ht3 hn))))
       have HBr : Hid (W0.heap.size <= wr.heap.size):=H.out.1.below.size
       obtain ⟨hy0,hy1⟩:=hqr t
       have HQL:=Lib.hid (And.intro hql hqi)
       have hct:=(HC.out.2.2 t)
       clear ht ht2 ht3 hn hpos hqr hql hqi
       go_wp2_with fail
       refine (b4O ordC _ H.out.1.h hn6 (λ _ _=>trivial) (by have:=H.out.1.heap; rw [HT.out.2.2.2.2] at this; exact this)).mono ?_
       rintro e w3 ⟨rfl,zs,h1,h2,h3,h4⟩
       have H3 : Hid (GvRel gq cq W0.heap.size W0 (a0P c k qs) w.heap.size (.slice (some ⟨g,0,none⟩) n cap) zs w3):=GvRel.popped H.out.1 HBr.out h1 h3 h4
       rw [HT.out.2.2.2.1] at h2 ⊢
       have HZ:=Lib.hid h2
       clear h1 h2 h3 h4
       obtain ⟨hc3,hf3⟩:=a1u H3.out.q t ht1
       obtain ⟨y,hy⟩ : ∃ y,y = (a0P c k qs).getD t 0:=⟨_,rfl⟩
       have HY:=Lib.hid hy
       simp only [a1t]
       rw [<- hy] at hc3 hy0 hy1 ⊢
       obtain ⟨z,hz⟩ : ∃ z,z = (1073741824 - c.getD t 0) * 256 + (t : Int):=⟨_,rfl⟩
       rw [<- hz]
       have HZ2:=Lib.hid hz
       clear hy hz
       have hgl : gq < w3.heap.size:=Kd.R_lt H3.out.q gq rfl
       have hg1 : ¬ gq = w3.heap.size:=by omega
       have hg2 : ¬ w3.heap.size = gq:=by omega
       have ht256 : (t : Int) < 256:=by omega
       go_wp2_with fail
       have H4 : Hid (GvRel gq cq W0.heap.size W0 ((a0P c k qs).set t (y - 1)) w.heap.size (.slice (some ⟨g,0,none⟩) n cap) zs ((w3.setCell ⟨gq,t,none⟩ (.int .i64 (y - 1))).alloc (.cells #[.int .i64 t,.int .i64 (y - 1),.int .i64 z] 167))):=
        (H3.out.put t (y - 1)).alloc (H3.out.put t (y - 1)).below.size _
       have hzl : zs.length = n:=by have:=HZ.out.length_eq; rw [HT.out.2.2.2.2] at this; simpa using this
       refine (c4L ordC ((t : Int),y - 1,z) _ H4.out.h H4.out.below.size (by omega) (λ _ _=>trivial) trivial H4.out.heap).mono ?_
       rintro e w5 ⟨rfl,v',us,h1,h2,h3,h4,h5⟩
       have H5 : Hid (GvRel gq cq W0.heap.size W0 (a0P c (k + 1) qs) w.heap.size v' us w5 /\ us.Perm (candT c (a0P c (k + 1) qs) 256)):=by
        have e:=c4X c k qs
        rw [<- HT.out.1,<- HY.out] at e
        refine ⟨by rw [e]; exact H4.out.pushed H4.out.below.size h1 h3 h4 h5,?_⟩
        rw [e,HY.out]
        refine c4S HQL.out.1 ht1 HT.out.2.2.1 H.out.2 HZ.out ?_
        rw [<- HY.out,<- HZ2.out]
        exact h2
       clear h1 h2 h3 h4 h5
       go_wp2_with fail
       go_roundw
       case rel=>exact ⟨k + 1,v',us,by go_num,by omega,H5⟩
       case measure=>simp [intOf]; omega
     · have hkm : k = m:=by omega
       subst hkm
       go_wp2_with fail
       go_end0
       exact ⟨rfl,H.out.1.q,H.out.1.below⟩
theorem c4Z (gq cq cc : Nat) (A : Option Addr) (W0 : World) (B : Nat) (hB : B = W0.heap.size) (qs c : List Int) (m : Nat) (w : World) (hq : (Kd.int .i64).R 3 w B (λ _=>True) (.slice (some ⟨gq,0,none⟩) 256 cq) qs)
    (hc : (Kd.int .i64).C W0 A 256 c) (hb : Below B W0 w) (hcl : c.length = 256) (hcr : ∀ s,0 <= c.getD s 0 /\ c.getD s 0 <= 1073741824) (hok : a9w c qs m) (hm2 : m <= 2000000) (hpos : 0 < m -> ∃ s,s < 256 /\ 0 < c.getD s 0) :
    Calls Tryz.prog 151 #[.slice (some ⟨gq,0,none⟩) 256 cq,.slice A 256 cc,.int .i64 m] w (b4Y gq cq B (a0P c m qs) W0):=by
 subst hB; exact c4Y gq cq cc A W0 qs c m w hq hc hb hcl hcr hok hm2 hpos
end Go.Proofs.YtipjlneepponpaaGreat
namespace Go.Proofs.YtipjlneepponpaaGreat
open Go.RowKit Go.IntWalk Go.Proofs.YtipjlneepponpaaGreatW.PrintWords Go.Proofs.YtipjlneepponpaaGreatW.PrintLast Go.Proofs.YtipjlneepponpaaGreatW.PrintMore
set_option maxRecDepth 100000 in
set_option maxHeartbeats 400000 in
theorem a5r (A : Option Addr) (cp : Nat) (c : List Int) (w : World) (hr : (Kd.int .i64).C w A c.length c) (hR : a0N c = true) :
    Calls Tryz.prog 57 #[.slice A c.length cp] w λ e w'=>e = .returned (.int .i64 (manyC c)) /\ w = w':=by
 have hm:=hr.2.1
 have HR:=Lib.hid (And.intro hr hR)
 clear hr hR
 go_enter Tryz.func57,Tryz.ntmps57
 go_wp2_with fail
 go_loop [3,8] (λ mv kv=>∃ (k pc : Nat),mv = .int .i64 pc /\ kv = .int .i64 k /\ k <= c.length /\ pc <= k /\ Hid (pc = posC c k)) (λ _ kv=>c.length - (intOf kv).toNat)
 case atStart=>exact ⟨0,0,rfl,rfl,by omega,by omega,by show _ = _; simp [posC]⟩
 case round=>
  obtain ⟨k,pc,rfl,rfl,hk,hpc,H⟩:=hrel
  by_cases hlt : k < c.length
  · obtain ⟨ad,rfl,hcell⟩:=a0F HR.out.1 k hlt
    obtain ⟨x,hx⟩ : ∃ x,x = c.getD k 0:=⟨_,rfl⟩
    rw [<- hx] at hcell
    have HX:=Lib.hid hx
    clear hx
    by_cases h0 : 0 < x
    · have HP : Hid (pc + 1 = posC c (k + 1)):=by show _ = _; rw [a6G _ _ hlt,<- HX.out,if_pos h0,<- H.out]
      go_wp2_with fail
      refine (a7Y _ _ _ _ HR.out.1).mono ?_
      rintro e w' ⟨rfl,rfl⟩
      rw [HR.out.2]
      go_wp2_with fail
      go_round
      case rel=>exact ⟨k + 1,pc + 1,by go_num,by go_num,by omega,by omega,HP⟩
      case measure=>simp [intOf]; omega
    · have HP : Hid (pc = posC c (k + 1)):=by show _ = _; rw [a6G _ _ hlt,<- HX.out,if_neg h0,<- H.out]; rfl
      go_wp2_with fail
      go_round
      case rel=>exact ⟨k + 1,pc,rfl,by go_num,by omega,by omega,HP⟩
      case measure=>simp [intOf]; omega
  · obtain rfl : k = c.length:=by omega
    have HE : Hid (pc = manyC c):=by
     show _ = _; rw [H.out]; unfold posC manyC; rw [if_pos HR.out.2,List.take_length]
    go_wp2_with fail
    go_ret
    exact ⟨a1x (by rw [HE.out]),rfl⟩
set_option maxRecDepth 100000 in
theorem c5a (n : Nat) (w : World) (h : n <= 1000000) : Calls Tryz.prog 109 #[.int .i64 n] w λ e w'=>e = .returned (.int .i64 (ceilI n)) /\ w = w':=by
 by_cases h2 : n < 2
 · have HE : Hid (ceilI n = 0):=by
     show _ = _
     have : n = 0 \/ n = 1:=by omega
     rcases this with rfl | rfl <;> rfl
   go_enter Tryz.func109,Tryz.ntmps109
   go_wp2_with fail
   go_ret
   exact ⟨a1x (by rw [HE.out]; rfl),rfl⟩
 · go_enter Tryz.func109,Tryz.ntmps109
   go_wp2_with fail
   refine (a4Y _ _ (by omega)).mono ?_
   rintro e w' ⟨rfl,rfl⟩
   go_wp2_with fail
   go_ret
   exact ⟨rfl,rfl⟩
theorem b4Z (a b : Int) : mx a b = max a b:=by unfold mx; split <;> omega
theorem c5b (a b : Int) : mn a b = min a b:=by unfold mn; split <;> omega
set_option maxRecDepth 100000 in
theorem c5c (first x y : Int) (A : Option Addr) (cp : Nat) (w : World) (hr : (Kd.int .i64).C w A 2 [x,y]) :
    Calls Tryz.prog 107 #[.int .i64 first,.slice A 2 cp] w λ e w'=>e = .returned (.int .i64 (mx (mx first x) y)) /\ w = w':=by
 obtain ⟨ad,rfl,hc⟩:=a4S hr (by decide)
 have h0:=hc 0 (by decide)
 have h1:=hc 1 (by decide)
 simp only [List.getD_cons_zero,List.getD_cons_succ] at h0 h1
 rw [show ad.add 0 = ad from rfl] at h0
 clear hc hr
 have h2 : w.cell? ⟨ad.block,ad.off + 1,none⟩ = some (.int .i64 y):=by rw [<- h1]; simp [Addr.add]
 clear h1
 go_enter Tryz.func107,Tryz.ntmps107
 go_wp2_with fail
 go_loop [0,9] (λ mv kv=>(mv = .int .i64 first /\ kv = .int .i64 0) \/ (mv = .int .i64 (max first x) /\ kv = .int .i64 1) \/ (mv = .int .i64 (max (max first x) y) /\ kv = .int .i64 2)) (λ _ kv=>2 - (intOf kv).toNat)
 case atStart=>exact .inl ⟨rfl,rfl⟩
 case round=>
  rcases hrel with ⟨rfl,rfl⟩ | ⟨rfl,rfl⟩ | ⟨rfl,rfl⟩
  · go_wp2_with fail
    go_round
    case rel=>exact .inr (.inl ⟨rfl,rfl⟩)
    case measure=>simp [intOf]
  · go_wp2_with fail
    go_round
    case rel=>exact .inr (.inr ⟨by rw [Int.max_assoc],rfl⟩)
    case measure=>simp [intOf]
  · go_wp2_with fail
    go_ret
    exact ⟨a1x (by rw [b4Z,b4Z,Int.max_assoc]),rfl⟩
theorem c5d {W : World} (x y : Int) {ok : Nat -> Prop} (hok : ok W.heap.size) (base : Nat) (hb : base <= W.heap.size) : (Kd.int .i64).R 3 (W.alloc (.cells #[.int .i64 x,.int .i64 y] 3)) base ok (.slice (some ⟨W.heap.size,0,none⟩) 2 2) [x,y]:=by
 refine ⟨λ k hk=>by cases hk; exact hok,[.int .i64 x,.int .i64 y],⟨rfl,.inr ⟨W.heap.size,2,#[.int .i64 x,.int .i64 y],by simp,hb,a0n W _,by simp,by unfold maxLen; omega,rfl,rfl⟩⟩,?_⟩
 refine Reps.snoc (ps:=[x]) (cs:=[.int .i64 x]) (p:=y) (c:=[.int .i64 y]) (Reps.snoc (ps:=[]) (cs:=[]) (p:=x) (c:=[.int .i64 x]) (Reps.none _ _) ?_ rfl) ?_ rfl
 · rfl
 · rfl
set_option maxRecDepth 100000 in
theorem b5a (n m : Nat) (most : Int) (w : World) (hn : n <= 1000000) (hm : m <= 1000000) :
    Calls Tryz.prog 56 #[.int .i64 n,.int .i64 m,.int .i64 most] w λ e w'=>e = .returned (.int .i64 (pickI n m most)) /\ Below w.heap.size w w':=by
 have hf:=b3I n (by omega)
 obtain ⟨f,hf1⟩ : ∃ f,f = a0m (n : Int):=⟨_,rfl⟩
 rw [<- hf1] at hf
 have H:=Lib.hid hf1
 clear hf1
 have HC : Hid (∀ W : World,(Kd.int .i64).C (W.alloc (.cells #[.int .i64 5,.int .i64 (ceilI m)] 3)) (some ⟨W.heap.size,0,none⟩) 2 [5,(ceilI m : Int)]):=λ W=>by
  have:=c5d (W:=W) 5 (ceilI m : Int) (ok:=λ _=>True) trivial W.heap.size (Nat.le_refl _)
  exact (Kd.R_reads' this).2.2
 go_enter Tryz.func56,Tryz.ntmps56
 go_wp2_with fail
 refine (a6h _ _ (by omega)).mono ?_
 rintro e w' ⟨rfl,rfl⟩
 rw [<- H.out]
 go_wp2_with fail
 refine (c5a _ _ hm).mono ?_
 rintro e w' ⟨rfl,rfl⟩
 go_wp2_with fail
 refine (c5c _ _ _ _ _ _ (HC.out _)).mono ?_
 rintro e w' ⟨rfl,rfl⟩
 go_wp2_with fail
 go_ret
 refine ⟨a1x ?_,(Below.refl _ _).alloc (Nat.le_refl _) _⟩
 unfold pickI
 rw [<- H.out,c5b]
end Go.Proofs.YtipjlneepponpaaGreat
namespace Go.Proofs.YtipjlneepponpaaGreat
open Go.RowKit Go.IntWalk Go.Proofs.YtipjlneepponpaaGreatW.PrintWords HeapL
structure CnRel (N : Nat) (w0 : World) (c : List Int) (P n : Int) (k : Nat) (v : Value) (S : Int) (w : World) : Prop where
 q : (Kd.int .i64).R 3 w N (λ _=>True) (.slice (some ⟨N,0,none⟩) 256 256) (qTo c P n k)
 l : k3.R 167 w N (λ b=>b ≠ N) v (candN (restL c P n) (hadL c P n) k)
 below : Below N w0 w
 sum : S = (qTo c P n k).sum
 rng : 0 <= S /\ S <= 4096 * k
theorem c5e (c : List Int) (P n : Int) {k : Nat} (hk : k < 256) : (hadL c P n).getD k false = decide (c.getD k 0 * P / n = 0):=by
 unfold hadL; rw [List.getD_eq_getElem?_getD,List.getElem?_map,List.getElem?_range hk]; rfl
theorem b5b (c : List Int) (P n : Int) {k : Nat} (hk : k < 256) : qTo c P n (k + 1) = (qTo c P n k).set k (q0F c P n k):=(a6Q (q0F c P n) hk).symm
theorem c5f (c : List Int) (P n : Int) {k : Nat} (hk : k < 256) : (qTo c P n k).getD k 0 = 0:=by unfold qTo; rw [a3R _ hk,if_neg (by omega)]
theorem c5g (c : List Int) (P n : Int) {k : Nat} (hk : k < 256) : (qTo c P n (k + 1)).sum = (qTo c P n k).sum + q0F c P n k:=by
 rw [b5b c P n hk,a6M _ _ _ (by unfold qTo; rw [a1v]; exact hk)]
 have : (qTo c P n k).getD k 0 = 0:=by unfold qTo; rw [a3R _ hk,if_neg (by omega)]
 omega
theorem CnRel.next {N : Nat} {w0 wr wr' : World} {c : List Int} {P n : Int} {k : Nat} {v v' : Value} {S y : Int} (H : CnRel N w0 c P n k v S wr) (hk : k < 256) (hq : (Kd.int .i64).R 3 wr' N (λ _=>True) (.slice (some ⟨N,0,none⟩) 256 256) ((qTo c P n k).set k y))
    (hl : k3.R 167 wr' N (λ b=>b ≠ N) v' (candN (restL c P n) (hadL c P n) (k + 1))) (hb : Below N w0 wr') (hy : y = q0F c P n k) (hy2 : 0 <= y /\ y <= 4096) : CnRel N w0 c P n (k + 1) v' (S + y) wr':=by
 have hs:=H.sum; have hr:=H.rng
 refine ⟨by rw [b5b c P n hk,<- hy]; exact hq,hl,hb,by rw [c5g c P n hk,<- hy,hs],by omega,by omega⟩
theorem CnRel.far {N : Nat} {w0 wr : World} {c : List Int} {P n : Int} {k : Nat} {v : Value} {S : Int} (H : CnRel N w0 c P n k v S wr) (j : Nat) (y : Int) :
    (Kd.int .i64).R 3 (wr.setCell ⟨N,j,none⟩ (.int .i64 y)) N (λ _=>True) (.slice (some ⟨N,0,none⟩) 256 256) ((qTo c P n k).set j y) /\ k3.R 167 (wr.setCell ⟨N,j,none⟩ (.int .i64 y)) N (λ b=>b ≠ N) v (candN (restL c P n) (hadL c P n) k) /\ Below N w0 (wr.setCell ⟨N,j,none⟩ (.int .i64 y)):=by
 have:=Kd.R_putn H.q (j : Int) y
 rw [Int.toNat_natCast] at this
 exact ⟨this,Kd.R_far (p:=⟨N,j,none⟩) H.l (λ k hk=>hk) _,H.below.setCell (Nat.le_refl _) _⟩
theorem b5c : ∀ {l : List Int},(∀ x ∈ l,x = 0) -> l.sum = 0
 | [],_=>rfl
 | a :: l,h=>by rw [List.sum_cons,h a (by simp),b5c (λ x hx=>h x (by simp [hx]))]; rfl
theorem c5h {c : List Int} {r : Nat} (h : Can c r) : ∃ s,s < 256 /\ 0 < c.getD s 0:=by
 refine Classical.byContradiction λ hn=>?_
 have : c.sum = 0:=b5c (λ x hx=>by
  obtain ⟨s,hs,rfl⟩:=List.getElem_of_mem hx
  have h1:=h.nonneg _ hx
  have h2 : ¬ 0 < c.getD s 0:=λ hp=>hn ⟨s,by have:=h.len; omega,hp⟩
  rw [List.getD_eq_getElem?_getD,List.getElem?_eq_getElem hs] at h2
  simp only [Option.getD_some] at h2
  omega)
 have:=h.pos
 omega
set_option maxRecDepth 100000 in
set_option maxHeartbeats 2000000 in
theorem b5d (A : Option Addr) (cp : Nat) (c : List Int) (r : Nat) (w : World) (hr : (Kd.int .i64).C w A 256 c) (h : Can c r) :
    Calls Tryz.prog 106 #[.slice A 256 cp,.int .i64 r] w (a8P c r w):=by
 have HR:=Lib.hid hr
 have HC:=Lib.hid h
 have hR : a0N c = true:=rightC_iff.2 ⟨h.len,h.nonneg,h.le⟩
 have hT : a1a c = c.sum:=by unfold a1a; rw [if_pos hR]
 have hM : manyC c <= 2 ^ r:=by unfold manyC; rw [if_pos hR]; exact h.many
 obtain ⟨n,hn⟩ : ∃ n : Nat,c.sum = n:=⟨c.sum.toNat,by have:=h.pos; omega⟩
 have hr' : (Kd.int .i64).C w A c.length c:=by rw [h.len]; exact hr
 have HTot:=Lib.hid (b1I A cp c w hr')
 rw [hT,hn,h.len] at HTot
 obtain ⟨P,hP⟩ : ∃ P : Nat,2 ^ r = P:=⟨_,rfl⟩
 have hPI : (2 : Int) ^ r = (P : Int):=by rw [<- hP]; simp
 have hPb : 1 <= P /\ P <= 4096:=by have:=a1y h.r12; rw [hPI] at this; omega
 have HM2 : Hid (∀ W,Below w.heap.size w W -> Calls Tryz.prog 57 #[.slice A 256 cp] W λ e w'=>e = .returned (.int .i64 (manyC c)) /\ W = w'):=λ W hb=>by
  have:=a5r A cp c W (Kd.C_below hr' hb) hR
  rw [h.len] at this; exact this
 have HN : Hid (c.sum = n /\ 2 ^ r = P /\ (2 : Int) ^ r = (P : Int) /\ manyC c <= P):=⟨hn,hP,hPI,by omega⟩
 have hn0 : ((n : Int) == 0) = false:=by have:=h.pos; simp; omega
 have hn1 : 1 <= n /\ n <= 1073741824:=by have:=h.pos; have:=h.le; omega
 have hr1 : decide ((r : Int) < 1) = false:=decide_eq_false (by have:=h.r1; omega)
 have hr2 : decide (12 < (r : Int)) = false:=decide_eq_false (by have:=h.r12; omega)
 have hr0 : (0 : Int) <= r:=by omega
 have hr12 : (r : Int) <= 12:=by have:=h.r12; omega
 have hw1 : IntKind.i64.wrap (2 ^ r) = (P : Int):=by rw [hPI]; exact i64_in _ (by omega)
 have hmp : decide (P < manyC c) = false:=decide_eq_false (by have:=HN.out.2.2.2; omega)
 clear hr hr' h hR hT hM hn hP hPI
 have hmi : ∀ w : World,(Instr.makeSlice 47 (.int .i64 256) (.int .i64 256)).run Tryz.prog w = .ok (.slice (some ⟨w.heap.size,0,none⟩) 256 256) (w.alloc (.cells (madeCells #[.int .i64 0] 256) 3)):=λ w=>a6O 256 (by omega) w
 go_enter Tryz.func106,Tryz.ntmps106
 go_wp2_with fail
 refine HTot.out.mono ?_
 rintro e w1 ⟨rfl,rfl⟩
 go_wp2_with fail
 go_quiet ((go_at_call 57; refine Calls.quiet_of_same ((HM2.out _ (a0b (Below.refl _ _) _)).mono λ e w' h=>⟨h.1,h.2.symm⟩)))
 have HB0 : Hid (Below w.heap.size w (w.drewN nq)):=a0b (Below.refl _ _) _
 obtain ⟨w1,hw1'⟩ : ∃ w1,w1 = w.drewN nq:=⟨_,rfl⟩
 rw [<- hw1'] at HB0 ⊢
 clear hw1'
 obtain ⟨N,hNs⟩ : ∃ N,N = w1.heap.size:=⟨_,rfl⟩
 have HNs:=Lib.hid hNs
 have HI : Hid (CnRel N w1 c P n 0 (.slice none 0 0) 0 (w1.alloc (.cells (madeCells #[.int .i64 0] 256) 3))):=by
  refine ⟨?_,?_,?_,?_,by omega⟩
  · rw [(a8N c P n).1,hNs]; exact a7i 256 3 w1 _ trivial _ (Nat.le_refl _) (by omega)
  · exact Kd.R_nil _ _ _ _ _
  · rw [hNs]; exact (Below.refl _ _).alloc (Nat.le_refl _) _
  · rw [(a8N c P n).1]; decide
 go_wp2_with fail
 rw [<- hNs]
 obtain ⟨W,hW⟩ : ∃ W,W = w1.alloc (.cells (madeCells #[.int .i64 0] 256) 3):=⟨_,rfl⟩
 rw [<- hW] at HI ⊢
 clear hW hNs hmi hmp
 go_loopw [8,9,34] (λ lv sv kv wr=>∃ (k : Nat) (S : Int),sv = .int .i64 S /\ kv = .int .i64 k /\ k <= 256 /\ 0 <= S /\ S <= 4096 * k /\ Hid (CnRel N w1 c P n k lv S wr)) (λ _ _ kv _=>256 - (intOf kv).toNat)
 case atStart=>exact ⟨0,0,rfl,rfl,by omega,by omega,by omega,HI⟩
 case round=>
  obtain ⟨k,S,rfl,rfl,hk,hS0,hS1,H⟩:=hrel
  by_cases hlt : k < 256
  · have hC:=Kd.C_below HR.out (HB0.out.trans (H.out.below.mono (by have:=HB0.out.size; have:=HNs.out; omega)))
    obtain ⟨ad,rfl,hcx⟩:=a0F hC k (by omega)
    have hcg:=HC.out.get k
    have hq0:=HC.out.q0 k
    rw [HN.out.2.2.1,HN.out.1] at hq0
    obtain ⟨x,hx⟩ : ∃ x : Nat,c.getD k 0 = x:=⟨(c.getD k 0).toNat,by omega⟩
    rw [hx] at hcx hcg
    obtain ⟨hq1,hq2⟩:=a1u H.out.q k hlt
    rw [c5f c P n hlt] at hq1
    obtain ⟨m,hm⟩ : ∃ m : Nat,m = x * P:=⟨_,rfl⟩
    have hxn : x <= n:=by have:=HN.out.1; omega
    have hm42 : m <= 4398046511104:=by
     rw [hm]
     calc x * P <= 1073741824 * 4096:=Nat.mul_le_mul (by omega) (by omega)
      _ = 4398046511104:=by decide
    have hmI : (x : Int) * (P : Int) = (m : Int):=by rw [hm]; simp
    have hmR : (x : Int) * 2 ^ r = (m : Int):=by rw [HN.out.2.2.1]; exact hmI
    have hdq : (m : Int) / (n : Int) = ((m / n : Nat) : Int):=by simp
    have hrm : (m : Int) % (n : Int) = ((m % n : Nat) : Int):=by simp
    obtain ⟨dq,hdqe⟩ : ∃ dq,dq = m / n:=⟨_,rfl⟩
    obtain ⟨rm,hrme⟩ : ∃ rm,rm = m % n:=⟨_,rfl⟩
    rw [<- hdqe] at hdq
    rw [<- hrme] at hrm
    have hdb : dq <= 4398046511104:=by rw [hdqe]; exact Nat.le_trans (Nat.div_le_self _ _) hm42
    have hn00 : ¬ (n : Int) = 0:=by omega
    have HX:=Lib.hid (And.intro hx (And.intro hm (And.intro hdqe (And.intro hrme hq0))))
    have hwm : IntKind.i64.wrap ((x : Int) * 2 ^ r) = (m : Int):=by rw [hmR]; exact i64_in _ (by omega)
    clear hx hm hdqe hrme hC hmR hq0
    obtain ⟨A1,c1,rfl⟩:=Kd.R_slice H.out.l
    have HL0:=Lib.hid (H.out.far k (dq : Int))
    have HQF : Hid (q0F c P n k = if dq = 0 then min (x : Int) 1 else dq):=by
     show _ = _
     unfold q0F
     rw [HX.out.1,hmI,hdq]
     by_cases e : dq = 0
     · rw [if_pos e,if_pos (by omega)]
     · rw [if_neg e,if_neg (by omega)]
    have HHD : Hid ((hadL c P n).getD k false = decide (dq = 0)):=by
     show _ = _
     rw [c5e c P n hlt,HX.out.1,hmI,hdq]
     by_cases e : dq = 0
     · rw [decide_eq_true (by omega),decide_eq_true e]
     · rw [decide_eq_false (by omega),decide_eq_false e]
    by_cases hz : 0 < dq
    · have hdq4 : dq <= 4096:=by
        have:=HX.out.2.2.2.2.2.1
        rw [HQF.out,if_neg (by omega)] at this; omega
      have HSz : Hid (N <= (wr.setCell ⟨N,k,none⟩ (.int .i64 (dq : Int))).heap.size):=by show _ <= _; have:=Kd.R_lt HL0.out.1 N rfl; omega
      have HLn : Hid (((candN (restL c P n) (hadL c P n) k).length + 1) * 24 <= 140737488355328):=by show _ <= _; have:=a9u (restL c P n) (hadL c P n) k; omega
      have HFr : Hid (∀ j,(wr.setCell ⟨N,k,none⟩ (.int .i64 (dq : Int))).heap.size <= j -> j ≠ N):=λ j hj e=>by have:=Kd.R_lt HL0.out.1 N rfl; omega
      have HNe : Hid ((Value.slice A1 (candN (restL c P n) (hadL c P n) k).length c1).ownBlock ≠ some N):=λ e=>HL0.out.2.1.1 N e rfl
      have hqg : ((qTo c P n k).set k (dq : Int)).getD k 0 = (dq : Int):=by rw [a3a _ _ _ _ (by unfold qTo; rw [a1v]; omega),if_pos rfl]
      obtain ⟨L,hL⟩ : ∃ L,L = candN (restL c P n) (hadL c P n) k:=⟨_,rfl⟩
      obtain ⟨Q,hQ⟩ : ∃ Q,Q = (qTo c P n k).set k (dq : Int):=⟨_,rfl⟩
      rw [<- hL] at HLn HNe
      have HL1 : Hid (k3.R 167 (wr.setCell ⟨N,k,none⟩ (.int .i64 (dq : Int))) N (λ b=>b ≠ N) (.slice A1 L.length c1) L):=by rw [hL]; exact HL0.out.2.1
      have HQ1 : Hid ((Kd.int .i64).R 3 (wr.setCell ⟨N,k,none⟩ (.int .i64 (dq : Int))) N (λ _=>True) (.slice (some ⟨N,0,none⟩) 256 256) Q):=by rw [hQ]; exact HL0.out.1
      rw [<- hQ] at hqg
      have HQG:=Lib.hid (And.intro hqg (And.intro hL hQ))
      have HB1:=Lib.hid HL0.out.2.2
      have HH:=Lib.hid H.out
      rw [<- hL]
      clear hqg hL hQ HL0 H
      go_wp2_with (at_builtin; refine Kd.R_append k3 (w0:=w1) (W:=wr.setCell ⟨N,k,none⟩ (.int .i64 (dq : Int))) N rfl (.tmp 53) (.tmp 61) 165 167 _ 24 rfl Tryz.underlying165 a9p rfl (by decide) (by decide) (.slice A1 L.length c1) L ((k : Int),(rm : Int),0) [.int .i64 k,.int .i64 rm,.int .i64 0] (λ b=>b ≠ N) (λ _=>False) rfl (by simp [go_sem]) (a4V _ _ _ _) (λ _ h=>h.elim) HFr.out HL1.out HB1.out HSz.out HLn.out ?_; intro v2 w2 hr2 hb2 hg2 hat2; have HQ2:=Lib.hid (Kd.R_grown1 HQ1.out rfl hg2 HNe.out); have hq5:=(a1u HQ2.out k hlt).1; rw [HQG.out.1] at hq5; have HR2:=Lib.hid hr2; have HB2:=Lib.hid hb2; clear hr2 hb2 hg2 hat2)
      go_roundw
      case rel=>
       refine ⟨k + 1,S + dq,rfl,by go_num,by omega,by omega,by omega,?_⟩
       have hq2:=HQ2.out
       rw [HQG.out.2.2] at hq2
       refine HH.out.next hlt hq2 ?_ HB2.out (by rw [HQF.out,if_neg (by omega)]) (by omega)
       rw [a9t,if_pos (by rw [HHD.out]; exact decide_eq_false (by omega))]
       have e : a1G (restL c P n) k = ((k : Int),(rm : Int),0):=by
        unfold a1G restL
        rw [a3R _ hlt,HX.out.1,hmI,hrm]
       rw [e,<- HQG.out.2.1]; exact HR2.out
      case measure=>simp [intOf]; omega
    · have hz0 : dq = 0:=by omega
      subst hz0
      by_cases hx0 : 0 < x
      · go_wp2_with fail
        go_roundw
        case rel=>
         refine ⟨k + 1,S + 1,by go_num,by go_num,by omega,by omega,by omega,?_⟩
         have hqq:=Kd.R_putn HL0.out.1 (k : Int) (1 : Int)
         rw [Int.toNat_natCast,b3S] at hqq
         refine H.out.next hlt hqq ?_ (HL0.out.2.2.setCell (Nat.le_refl _) _) (by rw [HQF.out,if_pos rfl]; omega) (by omega)
         rw [a9t,if_neg (by rw [HHD.out]; simp)]
         exact Kd.R_far (p:=⟨N,k,none⟩) HL0.out.2.1 (λ k hk=>hk) _
        case measure=>simp [intOf]; omega
      · go_wp2_with fail
        go_roundw
        case rel=>
         refine ⟨k + 1,S + 0,by go_num,by go_num,by omega,by omega,by omega,?_⟩
         refine H.out.next hlt HL0.out.1 ?_ HL0.out.2.2 (by rw [HQF.out,if_pos rfl]; omega) (by omega)
         rw [a9t,if_neg (by rw [HHD.out]; simp)]
         exact HL0.out.2.1
        case measure=>simp [intOf]; omega
  · obtain rfl : k = 256:=by omega
    obtain ⟨A1,c1,rfl⟩:=Kd.R_slice H.out.l
    have HQ0 : Hid ((Kd.int .i64).R 3 wr N (λ _=>True) (.slice (some ⟨N,0,none⟩) 256 256) (q0L c P n)):=by rw [<- (a8O c P n).1]; exact H.out.q
    have HS : Hid (S = (q0L c P n).sum):=by rw [<- (a8O c P n).1]; exact H.out.sum
    have HPP : Hid ((P : Int) = 2 ^ r /\ (n : Int) = c.sum):=⟨HN.out.2.2.1.symm,HN.out.1.symm⟩
    have HB1:=Lib.hid H.out.below
    have HL1:=Lib.hid H.out.l
    obtain ⟨M,hM⟩ : ∃ M : Nat,M = giveM c (2 ^ r) c.sum:=⟨_,rfl⟩
    have hMv : max (0 : Int) ((P : Int) - S) = (M : Int):=by
     rw [hM]; unfold giveM; rw [<- HPP.out.1,<- HPP.out.2,<- HS.out]; omega
    have hM4 : M <= 4096:=by omega
    obtain ⟨T,hT⟩ : ∃ T : Nat,T = (S - P).toNat:=⟨_,rfl⟩
    have hTv : max (0 : Int) (S - (P : Int)) = (T : Int):=by rw [hT]; omega
    have HMT:=Lib.hid (And.intro hM hT)
    have hTb : T <= 2000000:=by omega
    obtain ⟨L,hL⟩ : ∃ L,L = candN (restL c P n) (hadL c P n) 256:=⟨_,rfl⟩
    rw [<- hL]
    have HLE:=Lib.hid hL
    clear hM hT hL H
    go_wp2_with fail
    have hgw0:=a4w HC.out 0 (Nat.zero_le _)
    have hen:=HC.out.enough
    rw [<- HPP.out.1,<- HPP.out.2] at hgw0 hen
    refine (c4W N 256 N (q0L c P n) (.slice A1 L.length c1) (restL c P n) (hadL c P n) M wr HQ0.out (by rw [HLE.out]; exact HL1.out) (by have:=Kd.R_lt HQ0.out N rfl; omega) (a1v _) (by simp [hadL])
     (λ s=>⟨(hgw0.2.2.1 s).1,by have:=(hgw0.2.2.1 s).2; simp only [a0S] at this; omega⟩) (by rw [<- HS.out] at hen; omega) hM4).mono ?_
    clear hgw0 hen
    rintro e w3 ⟨rfl,hq3,hb3⟩
    obtain ⟨G,hG⟩ : ∃ G,G = (a0S (restL c P n) M (q0L c P n,hadL c P n)).1:=⟨_,rfl⟩
    rw [<- hG] at hq3
    have H3:=Lib.hid (And.intro hq3 (And.intro hb3 hG))
    clear hq3 hb3 hG hMv
    go_wp2_with fail
    have hge:=a8L HC.out
    have hgw:=(a4w HC.out M (by rw [<- HMT.out.1]; exact Nat.le_refl _)).2.2.2.2.1
    rw [<- HMT.out.1,<- HPP.out.1,<- HPP.out.2,<- H3.out.2.2] at hge
    rw [<- HPP.out.1,<- HPP.out.2,<- H3.out.2.2,<- HS.out] at hgw
    have hTe : (G.sum - 2 ^ r).toNat = T:=by
     rw [<- HPP.out.1,hgw]
     have h1 : M = ((P : Int) - S).toNat:=by
      have:=HMT.out.1; unfold giveM at this; rw [<- HPP.out.1,<- HPP.out.2,<- HS.out] at this; exact this
     have h2:=HMT.out.2
     omega
    have HT2 : Hid (a9w c G T):=λ k hk=>by
     have:=(a6N HC.out hge.1 k (by rw [hTe]; exact hk)).1
     exact ⟨this.len,this.rng,this.iff⟩
    have HNL : Hid (a0P c T G = normL c r):=by
     show _ = _
     unfold normL
     simp only []
     rw [<- HMT.out.1,<- HPP.out.1,<- HPP.out.2,<- H3.out.2.2,HPP.out.1,hTe]
    have HB3 : Hid (Below N w1 w3):=HB1.out.trans H3.out.2.1
    have hcs:=HC.out.le
    clear hge hgw
    refine (c4Z N 256 cp A w1 N HNs.out G c T w3 H3.out.1 (Kd.C_below HR.out HB0.out) HB3.out HC.out.len (λ s=>⟨(HC.out.get s).1,by have:=(HC.out.get s).2; omega⟩) HT2.out hTb (λ _=>c5h HC.out)).mono ?_
    rintro e w4 ⟨rfl,hq4,hb4⟩
    have H4:=Lib.hid (And.intro hq4 hb4)
    clear hq4 hb4 hTe
    go_wp2_with fail
    go_ret2
    have hNl : w.heap.size <= N:=by rw [HNs.out]; exact HB0.out.size
    refine ⟨_,rfl,?_,HB0.out.trans (H4.out.2.mono hNl)⟩
    rw [<- HNL.out]
    exact Kd.R_lower H4.out.1 hNl
end Go.Proofs.YtipjlneepponpaaGreat
namespace Go.Proofs.YtipjlneepponpaaGreat
open Go.RowKit Go.IntWalk Go.Proofs.YtipjlneepponpaaGreatW.PrintWords
set_option maxRecDepth 100000 in
theorem c5i (i : Int) (p : Nat) (v : Value) (w : World) (h : w.cell? ⟨p,0,none⟩ = some v) :
    Calls Tryz.prog 58 #[.int .i64 i,.pointer (some ⟨p,0,none⟩)] w λ e w'=>e = .returned v /\ w = w':=by
 go_enter Tryz.func58,Tryz.ntmps58
 go_wp2_with fail
 go_ret
 exact ⟨rfl,rfl⟩
set_option maxRecDepth 100000 in
set_option maxHeartbeats 2000000 in
theorem c5j (p ch r : Nat) (Ah : Option Addr) (h : List Int) (w : World) (hp : w.heap[p]? = some (.cells #[.slice Ah 256 ch] 47 (0,0))) (hv : (Kd.int .i64).C w Ah 256 h) (hc : Can h r) (hm : 0 < manyC h) :
    Calls Tryz.prog 55 #[.int .i64 r,.int .i64 1,.func (Fn.func 58) #[] #[.pointer (some ⟨p,0,none⟩)]] w (MadeM r true [normL h r] w):=by
 obtain ⟨W2,hW2⟩ : ∃ W2,W2 = (w.alloc (.cells #[.int .i64 0,.bool false,.slice none 0 0] 31)).alloc (.cells #[.int .i64 r,.bool true,.slice none 0 0] 31):=⟨_,rfl⟩
 have hb2 : Below w.heap.size w W2:=by rw [hW2]; exact ((Below.refl w.heap.size w).alloc (Nat.le_refl _) _).alloc (by simp) _
 have hs2 : W2.heap.size = w.heap.size + 2:=by rw [hW2]; simp
 have hm1 : W2.heap[w.heap.size + 1]? = some (.cells #[.int .i64 r,.bool true,.slice none 0 0] 31 (0,0)):=by rw [hW2]; exact a2y _ _ _
 have hm0 : W2.heap[w.heap.size]? = some (.cells #[.int .i64 0,.bool false,.slice none 0 0] 31 (0,0)):=by rw [hW2]; exact a0o (a0n _ _) _
 have HP2:=Lib.hid (a0j hp hb2)
 have HV2:=Lib.hid (Kd.C_below hv hb2)
 have H2:=Lib.hid (And.intro hb2 (And.intro hs2 (And.intro hm1 hm0)))
 have HC:=Lib.hid (And.intro hc hm)
 clear hp hv hb2 hs2 hm1 hm0 hc hm
 go_enter Tryz.func55,Tryz.ntmps55
 go_wp2_with fail
 rw [<- hW2]
 clear hW2
 obtain ⟨m0,hm0⟩ : ∃ m0,m0 = w.heap.size:=⟨_,rfl⟩
 have HM0:=Lib.hid hm0
 rw [<- hm0] at H2 ⊢
 clear hm0
 obtain ⟨m1,hm1⟩ : ∃ m1,m1 = m0 + 1:=⟨_,rfl⟩
 have HM1:=Lib.hid hm1
 rw [<- hm1] at H2 ⊢
 clear hm1
 go_loopw [16] (λ kv wr=>(kv = .int .i64 0 /\ wr = W2) \/ (kv = .int .i64 1 /\ Hid (∃ A1 c1,wr.heap[m1]? = some (.cells #[.int .i64 r,.bool true,.slice A1 1 c1] 31 (0,0)) /\ wr.heap[m0]? = some (.cells #[.int .i64 0,.bool false,.slice none 0 0] 31 (0,0)) /\ kq.R 47 wr W2.heap.size (λ _=>True) (.slice A1 1 c1) [normL h r] /\ Below m0 w wr))) (λ kv _=>1 - (intOf kv).toNat)
 case atStart=>exact .inl ⟨rfl,rfl⟩
 case round=>
  rcases hrel with ⟨rfl,rfl⟩ | ⟨rfl,H⟩
  · have hpc : wr.cell? ⟨p,0,none⟩ = some (.slice Ah 256 ch):=(a0a HP2.out 0).trans rfl
    go_wp2_with fail
    refine (c5i 0 p (.slice Ah 256 ch) wr hpc).mono ?_
    rintro e w' ⟨rfl,rfl⟩
    go_wp2_with fail
    have hmany:=a5r Ah ch h wr (by rw [HC.out.1.len]; exact HV2.out) (rightC_iff.2 ⟨HC.out.1.len,HC.out.1.nonneg,HC.out.1.le⟩)
    rw [HC.out.1.len] at hmany
    refine hmany.mono ?_
    rintro e w' ⟨rfl,rfl⟩
    have hmp : 0 < manyC h:=HC.out.2
    clear hmany
    go_wp2_with fail
    refine (b5d Ah ch h r wr HV2.out HC.out.1).mono ?_
    rintro e w5 ⟨vq,rfl,hq,hb5⟩
    obtain ⟨Aq,cq,rfl⟩:=Kd.R_slice hq
    obtain ⟨ql,hql⟩ : ∃ ql,ql = (normL h r).length:=⟨_,rfl⟩
    have HQ:=Lib.hid hq
    rw [<- hql] at HQ ⊢
    have HB5:=Lib.hid hb5
    have h15 : w5.heap[m1]? = some (.cells #[.int .i64 r,.bool true,.slice none 0 0] 31 (0,0)):=a0j H2.out.2.2.1 hb5
    have H05:=Lib.hid (a0j H2.out.2.2.2 hb5)
    obtain ⟨⟨ca,cb,cc⟩,fa,fb,fc⟩:=cell3 h15
    have H15:=Lib.hid h15
    have HBB : Hid (Below wr.heap.size wr w5):=hb5
    have HS5 : Hid (wr.heap.size <= w5.heap.size):=hb5.size
    have hm1l:=a0f h15
    have hm1n : ¬ m1 = w5.heap.size:=by omega
    have hm1n' : ¬ w5.heap.size = m1:=by omega
    have HL : Hid ((([] : List (List Int)).length + 1) * 24 <= 140737488355328):=by show _ <= _; simp
    clear hq hb5 h15 hql
    go_wp2_with (at_builtin; refine Kd.R_append kq (w0:=wr) (W:=w5) wr.heap.size rfl (.tmp 32) (.tmp 34) 29 47 (.slice none 0 0) 24 rfl Tryz.underlying29 a6U rfl (by decide) (by decide) (.slice none 0 0) [] (normL h r) [.slice Aq ql cq] (λ _=>True) (λ _=>True) rfl (by simp [go_sem]) ⟨_,rfl,HQ.out⟩ (λ _ _=>⟨trivial,by simp [Value.ownBlock]⟩) (λ _ _=>trivial) (Kd.R_nil _ _ _ _ _) HBB.out HS5.out HL.out ?_; intro v1 w6 hr6 hb6 hg6 hat6; have h16:=a1b H15.out hg6 (by simp [Value.ownBlock]); have H16:=Lib.hid h16; have H06:=Lib.hid (a1b H05.out hg6 (by simp [Value.ownBlock])); obtain ⟨⟨da,db,dc⟩,ga,gb,gc⟩:=cell3 h16; obtain ⟨A1,c1,rfl⟩:=Kd.R_slice hr6; have HR6:=Lib.hid hr6; have HB6:=Lib.hid hb6; clear hr6 hb6 hg6 hat6 h16)
    go_roundw
    case rel=>
     have hmm : m0 <= wr.heap.size /\ m1 < wr.heap.size /\ m0 ≠ m1:=by have:=a0f H2.out.2.2.1; have:=a0f H2.out.2.2.2; have:=HM1.out; omega
     have h1:=H16.out
     have h0:=H06.out
     refine .inr ⟨rfl,A1,c1,?_,?_,?_,?_⟩
     · exact a0x h1 2 _
     · exact a1N h0 (p:=⟨m1,2,none⟩) hmm.2.2 _
     · refine Kd.R_mono (Kd.R_far (p:=⟨m1,2,none⟩) (Kd.R_bound HR6.out) (λ k hk=>?_) _) (λ _ _=>trivial)
       show k ≠ m1
       have:=hk.2.1
       omega
     · refine (H2.out.1.trans (HB6.out.mono hmm.1)).setCell ?_ _
       show m0 <= m1
       have:=HM1.out; omega
    case measure=>simp [intOf]
  · obtain ⟨A1,c1,h1,h2,h3,h4⟩:=H.out
    obtain ⟨⟨ca,cb,cc⟩,fa,fb,fc⟩:=cell3 h1
    obtain ⟨⟨da,db,dc⟩,ga,gb,gc⟩:=cell3 h2
    have HH:=Lib.hid (And.intro h2 (And.intro h3 h4))
    clear h1 h2 h3 h4 H
    go_wp2_with fail
    have hmm : m0 < W2.heap.size:=a0f H2.out.2.2.2
    refine bodyPost_ret (results_cell_row (fn:=Tryz.f55) (p:=6) (ty:=31) rfl _ _ _ _ _ _ _ rfl (a1w HH.out.1 _ _ _) Tryz.underlying31 rfl a5j) rfl ?_
    have hw0:=HM0.out
    subst hw0
    refine ⟨_,rfl,?_,((HH.out.2.2.setCell (Nat.le_refl _) _).setCell (Nat.le_refl _) _).setCell (Nat.le_refl _) _⟩
    have h4 : kq.R 47 wr w.heap.size (λ k=>k ≠ w.heap.size) (.slice A1 1 c1) [normL h r]:=Kd.R_mono (Kd.R_lower (Kd.R_bound HH.out.2.1) (by omega)) (λ k hk=>by have:=hk.2.1; omega)
    exact Kd.R_mono (a2j h4 _ _ _) (λ _ _=>trivial)
theorem a1r {w : World} {g : Nat} {a b c : Value} (hg : w.heap[g]? = some (.cells #[a,b,c] 31 (0,0))) : (loadVar 31 ⟨g,0,none⟩).run Tryz.prog w = .ok (.agg #[a,b,c]) w:=
 run_loadVar_row w g _ _ _ _ _ hg Tryz.underlying31 rfl a5j
theorem a7m {fn : Func} {p u : Tmp} {ty : TypeId} (h : fn.results = #[.cell p ty,.tmp u]) (tmps : Array Value) (w : World) (g : Nat) (cs : Array Value)
    (hp : tmps.getD p undef = .pointer (some ⟨g,0,none⟩)) (hl : (loadVar ty ⟨g,0,none⟩).run Tryz.prog w = .ok (.agg cs) w) :
    (results fn tmps).run Tryz.prog w = .ok (.tuple #[.agg cs,tmps.getD u undef]) w:=by
 have hp' : tmps[p]?.getD undef = .pointer (some ⟨g,0,none⟩):=by simpa using hp
 simp [results,h,hp',asAddr,hl]
def a9x (b : List Int) (w : World) (e : Ending) (w' : World) : Prop:=
 (b.length = 0 /\ e = .returned (.tuple #[.agg #[.int .i64 0,.bool false,.slice none 0 0],.int .i64 1]) /\ Below w.heap.size w w') \/
 (0 < b.length /\ ∃ v,e = .returned (.tuple #[.agg #[.int .i64 (zeroR b),.bool true,v],.int .i64 0]) /\ kq.R 47 w' w.heap.size (λ _=>True) v [zeroQ b] /\ Below w.heap.size w w')
theorem b5e {b : List Int} (hb : Bytes b) (hl : b.length <= 1000000) (h0 : 0 < b.length) : 0 < manyC (histL b):=by
 rw [b3W (a5g b hb hl)]
 have hx:=hb _ (List.getElem_mem h0)
 obtain ⟨s,hs⟩ : ∃ s : Nat,b[0] = (s : Int):=⟨(b[0]).toNat,by omega⟩
 have hs2 : s < 256:=by omega
 have hp:=(a8R b hs2).2 (by rw [<- hs]; exact List.getElem_mem h0)
 refine List.countP_pos_iff.2 ⟨(histL b).getD s 0,a1S (by unfold histL; rw [a1v]; exact hs2),by simpa using hp⟩
set_option maxRecDepth 100000 in
set_option maxHeartbeats 1000000 in
theorem b5f (A : Option Addr) (cp : Nat) (b : List Int) (w : World) (hr : (Kd.int .u8).C w A b.length b) (hb : Bytes b) (hl : b.length <= 1000000) (h0 : 0 < b.length) :
    Calls Tryz.prog 23 #[.slice A b.length cp] w (a9x b w):=by
 have hne : ((b.length : Int) == 0) = false:=by simp; intro e; subst e; simp at h0
 have hne2 : ¬ b = []:=by intro e; subst e; simp at h0
 obtain ⟨W1,hW1⟩ : ∃ W1,W1 = w.alloc (.cells #[.int .i64 0,.bool false,.slice none 0 0] 31):=⟨_,rfl⟩
 have hb1 : Below w.heap.size w W1:=by rw [hW1]; exact (Below.refl w.heap.size w).alloc (Nat.le_refl _) _
 have hk1 : W1.heap[w.heap.size]? = some (.cells #[.int .i64 0,.bool false,.slice none 0 0] 31 (0,0)):=by rw [hW1]; exact a0n _ _
 have HB1:=Lib.hid hb1
 have HK1:=Lib.hid hk1
 have HR:=Lib.hid hr
 have HX:=Lib.hid (And.intro hb (And.intro hl h0))
 have hZ:=a3T b
 obtain ⟨zr,hzr⟩ : ∃ zr,zr = zeroR b:=⟨_,rfl⟩
 rw [<- hzr] at hZ
 have HZ:=Lib.hid (And.intro hzr hZ)
 clear hb1 hk1 hr hb hl h0 hZ hzr
 go_enter Tryz.func23,Tryz.ntmps23
 go_wp2_with fail
 rw [<- hW1]
 clear hW1
 refine (b4A A cp b W1 (Kd.C_below HR.out HB1.out) HX.out.2.1 HX.out.1).mono ?_
 rintro e w2 ⟨v,rfl,hv,hb2⟩
 obtain ⟨Ah,ch,rfl⟩:=Kd.R_slice hv
 have hhl : (histL b).length = 256:=a1v _
 have hrd:=(Kd.R_reads' hv).2.2
 have hmany:=a5r Ah ch (histL b) (w2.alloc (.cells #[.slice Ah 256 ch] 47)) (Kd.C_alloc hrd _) (a5g b HX.out.1 HX.out.2.1)
 rw [hhl] at hrd hmany ⊢
 have HV:=Lib.hid (Kd.C_alloc hrd (.cells #[.slice Ah 256 ch] 47))
 have HMa:=Lib.hid hmany
 have HB2 : Hid (Below w.heap.size w w2):=HB1.out.trans (hb2.mono HB1.out.size)
 have HK2:=Lib.hid (a0j HK1.out hb2)
 clear hv hb2 hrd hmany hhl
 go_wp2_with fail
 have HP3:=Lib.hid (a0n w2 (.cells #[.slice Ah 256 ch] 47))
 have HB3 : Hid (Below w.heap.size w (w2.alloc (.cells #[.slice Ah 256 ch] 47))):=HB2.out.alloc HB2.out.size _
 have HK3:=Lib.hid (a0o HK2.out (.cells #[.slice Ah 256 ch] 47))
 obtain ⟨w3,hw3⟩ : ∃ w3,w3 = w2.alloc (.cells #[.slice Ah 256 ch] 47):=⟨_,rfl⟩
 rw [<- hw3] at HP3 HB3 HK3 HV HMa ⊢
 obtain ⟨p0,hp0⟩ : ∃ p0,p0 = w2.heap.size:=⟨_,rfl⟩
 rw [<- hp0] at HP3 ⊢
 clear hw3 hp0
 refine HMa.out.mono ?_
 rintro e w4 ⟨rfl,rfl⟩
 go_wp2_with fail
 refine (b5a b.length (manyC (histL b)) 11 _ HX.out.2.1 (by have:=a4s (histL b); omega)).mono ?_
 rw [HZ.out.2.1]
 rintro e w4 ⟨rfl,hb4⟩
 have HB4 : Hid (Below w.heap.size w w4):=HB3.out.trans (hb4.mono HB3.out.size)
 have HK4:=Lib.hid (a0j HK3.out hb4)
 have HP4:=Lib.hid (a0j HP3.out hb4)
 have HV4:=Lib.hid (Kd.C_below HV.out hb4)
 clear hb4
 go_wp2_with fail
 refine (c5j p0 ch zr Ah (histL b) w4 HP4.out HV4.out (by rw [HZ.out.1]; exact a5h HX.out.1 HX.out.2.1 HX.out.2.2) (b5e HX.out.1 HX.out.2.1 HX.out.2.2)).mono ?_
 rintro e w5 ⟨v,rfl,hv,hb5⟩
 obtain ⟨Av,cv,rfl⟩:=Kd.R_slice hv
 obtain ⟨⟨m0,m1,m2⟩,⟨f0,f1,f2⟩⟩:=cell3 (a0j HK4.out hb5)
 have HE:=Lib.hid (c3l (lg:=(zr : Nat)) (one:=true) HB4.out (a0f HK4.out) HK4.out hv hb5)
 clear hv hb5
 go_wp2_with fail
 refine bodyPost_ret (a7m (fn:=Tryz.f23) (p:=2) (u:=3) (ty:=31) rfl _ _ _ _ rfl (a1r HE.out.1)) rfl ?_
 obtain ⟨v2,h1,h2,h3⟩:=HE.out.2
 injection h1 with h1
 injection h1 with h1
 have h1' : Value.slice Av [normL (histL b) zr].length cv = v2:=by
  have:=congrArg (λ a : Array Value=>a.getD 2 Go.undef) h1
  simpa using this
 refine .inr ⟨HX.out.2.2,Value.slice Av [normL (histL b) zr].length cv,?_,?_,h3⟩
 · rw [<- HZ.out.1]; rfl
 · rw [<- h1'] at h2
   unfold zeroQ; rw [<- HZ.out.1]; exact h2
set_option maxRecDepth 100000 in
theorem c5k (A : Option Addr) (cp : Nat) (w : World) : Calls Tryz.prog 23 #[.slice A 0 cp] w (a9x [] w):=by
 have hk1 : (w.alloc (.cells #[.int .i64 0,.bool false,.slice none 0 0] 31)).heap[w.heap.size]? = some (.cells #[.int .i64 0,.bool false,.slice none 0 0] 31 (0,0)):=a0n _ _
 have HB : Hid (Below w.heap.size w (w.alloc (.cells #[.int .i64 0,.bool false,.slice none 0 0] 31))):=(Below.refl _ _).alloc (Nat.le_refl _) _
 have HK:=Lib.hid hk1
 clear hk1
 go_enter Tryz.func23,Tryz.ntmps23
 go_wp2_with fail
 refine bodyPost_ret (a7m (fn:=Tryz.f23) (p:=2) (u:=3) (ty:=31) rfl _ _ _ _ rfl (a1r HK.out)) rfl ?_
 exact .inl ⟨rfl,rfl,HB.out⟩
theorem a1H {fn : Func} {p u v : Tmp} {ty : TypeId} (h : fn.results = #[.cell p ty,.tmp u,.tmp v]) (tmps : Array Value) (w : World) (g : Nat) (cs : Array Value)
    (hp : tmps.getD p undef = .pointer (some ⟨g,0,none⟩)) (hl : (loadVar ty ⟨g,0,none⟩).run Tryz.prog w = .ok (.agg cs) w) :
    (results fn tmps).run Tryz.prog w = .ok (.tuple #[.agg cs,tmps.getD u undef,tmps.getD v undef]) w:=by
 have hp' : tmps[p]?.getD undef = .pointer (some ⟨g,0,none⟩):=by simpa using hp
 simp [results,h,hp',asAddr,hl]
set_option maxRecDepth 100000 in
theorem b5g (v : Nat) (w : World) (hv : v < 256) : Calls Tryz.prog 33 #[.int .u8 v] w λ e w'=>e = .returned (.bool (decide (5 <= v /\ v <= 11))) /\ w = w':=by
 by_cases h : 5 <= v
 · have e : decide (5 <= v /\ v <= 11) = decide (v <= 11):=by simp [h]
   rw [e]
   go_enter Tryz.func33,Tryz.ntmps33
   go_wp2_with fail
   go_ret
   exact ⟨a0Z (by simp; omega),rfl⟩
 · have e : decide (5 <= v /\ v <= 11) = false:=by simp [h]
   rw [e]
   go_enter Tryz.func33,Tryz.ntmps33
   go_wp2_with fail
   go_ret
   exact ⟨rfl,rfl⟩
theorem c5l (ps : List Int) (hps : ∀ x ∈ ps,0 <= x /\ x < 256) (h : 0 < ps.length) : takeF ps 0 8 = (ps.getD 0 0).toNat /\ (ps.getD 0 0).toNat < 256:=by
 have hx:=hps _ (a1z h)
 obtain ⟨y,hy⟩ : ∃ y : Nat,ps.getD 0 0 = y:=⟨(ps.getD 0 0).toNat,by omega⟩
 have hb : BitsAt ps 0 (a0i y 8):=λ i hi=>by
  rw [a0D] at hi
  unfold bitI
  rw [show (0 + i) / 8 = 0 by omega,show (0 + i) % 8 = i by omega,hy,Int.toNat_natCast,a8z _ _ _ hi,a8A]
 have:=a6Z hb (by omega)
 rw [this,hy]; omega
def a4D (ps : List Int) (w : World) (e : Ending) (w' : World) : Prop:=
 ((a0t ps).1 = 0 -> ∃ vm vp,e = .returned (.tuple #[.agg #[.int .i64 (a0t ps).2.1,.bool true,vm],vp,.int .i64 0]) /\ kq.R 47 w' w.heap.size (λ _=>True) vm [(a0t ps).2.2.1] /\ (Kd.int .u8).R 5 w' w.heap.size (λ _=>True) vp (a0t ps).2.2.2) /\
 ((a0t ps).1 ≠ 0 -> e = .returned (.tuple #[.agg #[.int .i64 0,.bool false,.slice none 0 0],.slice none 0 0,.int .i64 (a0t ps).1])) /\ Below w.heap.size w w'
set_option maxRecDepth 100000 in
set_option maxHeartbeats 2000000 in
theorem b5h (A : Option Addr) (c : Nat) (ps : List Int) (w : World) (hr : (Kd.int .u8).C w A ps.length ps) (hps : ∀ x ∈ ps,0 <= x /\ x < 256) (hl : ps.length <= 1000000) (hc : ps.length <= c) (hnil : A = none -> c = 0) :
    Calls Tryz.prog 11 #[.slice A ps.length c] w (a4D ps w):=by
 obtain ⟨W,hW⟩ : ∃ W,W = w.alloc (.cells #[.int .i64 0,.bool false,.slice none 0 0] 31):=⟨_,rfl⟩
 have hb1 : Below w.heap.size w W:=by rw [hW]; exact (Below.refl _ _).alloc (Nat.le_refl _) _
 have hk1 : W.heap[w.heap.size]? = some (.cells #[.int .i64 0,.bool false,.slice none 0 0] 31 (0,0)):=by rw [hW]; exact a0n _ _
 have HB1:=Lib.hid hb1
 have HK1:=Lib.hid hk1
 have HR:=Lib.hid (And.intro (Kd.C_below hr hb1) (And.intro hps (And.intro hl (And.intro hc hnil))))
 clear hr hps hl hc hnil hb1 hk1
 go_enter Tryz.func11,Tryz.ntmps11
 go_wp2_with fail
 rw [<- hW]
 clear hW
 refine (a9m A c ps W HR.out.1 HR.out.2.2.1 HR.out.2.2.2.1 HR.out.2.2.2.2).mono ?_
 rintro e w1 ⟨p,rfl,hp,hrd,hb⟩
 have H1:=Lib.hid (And.intro hp (And.intro hrd hb))
 have HK2:=Lib.hid (a0j HK1.out hb)
 clear hp hrd hb
 go_wp2_with fail
 refine (a7h W.heap.size p ps 0 8 w1 H1.out.2.1 HR.out.2.1 HR.out.2.2.1 (by omega) (by decide)).mono ?_
 rintro e w2 ⟨t1,t2,t3⟩
 have HO2:=Lib.hid t3
 have hnp : w.heap.size ≠ p:=by have:=H1.out.1; have:=a0f HK1.out; omega
 have hk3 : w2.heap[w.heap.size]? = some (.cells #[.int .i64 0,.bool false,.slice none 0 0] 31 (0,0)):=by rw [t3.block _ (a0f HK2.out) hnp]; exact HK2.out
 have HK3:=Lib.hid hk3
 have hbW : Below w.heap.size w w2:=(HB1.out.trans (H1.out.2.2.mono HB1.out.size)).trans (t3.below (Nat.le_trans HB1.out.size H1.out.2.2.size) (λ k hk=>by have:=H1.out.1; have:=HB1.out.size; omega))
 have HBW:=Lib.hid hbW
 by_cases h0 : ps.length = 0
 · obtain ⟨rfl,hrd⟩:=t2 (by omega)
   have HE : Hid (a0t ps = (3,0,[],[])):=by show _ = _; unfold a0t; rw [if_pos h0]
   obtain ⟨⟨ca,cb,cc⟩,fa,fb,fc⟩:=cell3 hk3
   clear t1 t2 t3 hrd hk3 hbW
   go_wp2_with fail
   refine bodyPost_ret (a1H (fn:=Tryz.f11) (p:=2) (u:=3) (v:=4) (ty:=31) rfl _ _ _ _ rfl (a1r (a1w HK3.out _ _ _))) rfl ?_
   refine ⟨(λ h=>by rw [HE.out] at h; cases h),(λ _=>by rw [HE.out]; rfl),?_⟩
   exact ((HBW.out.setCell (Nat.le_refl _) _).setCell (Nat.le_refl _) _).setCell (Nat.le_refl _) _
 · obtain ⟨rfl,hrd⟩:=t1 (by omega)
   obtain ⟨f1,f2⟩:=c5l ps HR.out.2.1 (by omega)
   rw [f1]
   obtain ⟨v,hv⟩ : ∃ v,v = (ps.getD 0 0).toNat:=⟨_,rfl⟩
   rw [<- hv] at f2 ⊢
   have HV:=Lib.hid hv
   have HRD:=Lib.hid hrd
   clear t1 t2 t3 hrd f1 hv
   by_cases hlog : 5 <= v /\ v <= 11
   · have hd:=Lib.hid (decide_eq_true hlog)
     obtain ⟨H,hH⟩ : ∃ H,H = hdrT ps (8 * ps.length) 257 zeros256 0 (2 ^ v) false 8:=⟨_,rfl⟩
     have hpl : p < w2.heap.size:=by
      obtain ⟨A2,c2,hb2,-⟩:=HRD.out.ex
      exact a0f hb2
     have HTk:=Lib.hid (b4C W.heap.size p v ps 8 w2 HRD.out HR.out.2.1 HR.out.2.2.1 (by omega) (by omega) (by omega) hpl)
     rw [<- hH] at HTk
     have hSM : a0t ps = if H.1 ≠ 0 then (H.1,0,[],[]) else if H.2.2 % 8 ≠ 0 /\ (ps.getD (H.2.2 / 8) 0).toNat / 2 ^ (H.2.2 % 8) ≠ 0 then (4,0,[],[]) else (0,v,H.2.1,ps.drop ((H.2.2 + 7) / 8)):=by
      unfold a0t; rw [if_neg h0,<- HV.out,if_neg (by omega),<- hH]
     have hHe : H.1 = 0 -> H.2.2 <= 8 * ps.length:=λ h=>by rw [hH] at h ⊢; exact a5p _ _ _ _ _ _ (by omega) h
     have HS:=Lib.hid (And.intro hSM hHe)
     clear hk3 hbW hpl hH hSM hHe
     go_wp2_with fail
     refine (b5g v w2 f2).mono ?_
     rw [hd.out]
     rintro e w' ⟨rfl,rfl⟩
     go_wp2_with fail
     refine HTk.out.mono ?_
     rintro e w3 ⟨c1,c2,c3⟩
     have hk4 : w3.heap[w.heap.size]? = some (.cells #[.int .i64 0,.bool false,.slice none 0 0] 31 (0,0)):=by rw [c3.block _ (a0f HK3.out) hnp]; exact HK3.out
     have HK4:=Lib.hid hk4
     have HB4 : Hid (Below w.heap.size w w3):=HBW.out.trans (c3.below HBW.out.size (λ k hk=>by have:=H1.out.1; have:=HB1.out.size; omega))
     by_cases hz : H.1 = 0
     · obtain ⟨g,rfl,d1,d2,d3⟩:=c1 hz
       have HD:=Lib.hid (And.intro d1 (And.intro d2 d3))
       have hPd:=b4D W.heap.size p ps H.2.2 w3 d3 HR.out.2.1 HR.out.2.2.1 (HS.out.2 hz)
       have HPd:=Lib.hid hPd
       have HS23:=Lib.hid c3.size
       clear c1 c2 c3 d1 d2 d3 hk4 hPd
       go_wp2_with fail
       refine HPd.out.mono ?_
       rintro e w4 ⟨rfl,p2,p3⟩
       have hk5 : w4.heap[w.heap.size]? = some (.cells #[.int .i64 0,.bool false,.slice none 0 0] 31 (0,0)):=by rw [p3.block _ (a0f HK4.out) hnp]; exact HK4.out
       have HK5:=Lib.hid hk5
       have HB5 : Hid (Below w.heap.size w w4):=HB4.out.trans (p3.below HB4.out.size (λ k hk=>by have:=H1.out.1; have:=HB1.out.size; omega))
       cases hpd : padOk ps H.2.2 with
       | false=>
        have HE : Hid (a0t ps = (4,0,[],[])):=by
         have:=HS.out.1
         rw [if_neg (λ h=>h hz)] at this
         unfold padOk at hpd
         rw [if_pos (by have h:=of_decide_eq_false hpd; exact Classical.not_not.1 h)] at this; exact this
        obtain ⟨⟨ca,cb,cc⟩,fa,fb,fc⟩:=cell3 hk5
        clear p2 p3 hk5 hpd
        go_wp2_with fail
        refine bodyPost_ret (a1H (fn:=Tryz.f11) (p:=2) (u:=3) (v:=4) (ty:=31) rfl _ _ _ _ rfl (a1r (a1w HK5.out _ _ _))) rfl ?_
        refine ⟨(λ h=>by rw [HE.out] at h; cases h),(λ _=>by rw [HE.out]; rfl),?_⟩
        exact ((HB5.out.setCell (Nat.le_refl _) _).setCell (Nat.le_refl _) _).setCell (Nat.le_refl _) _
       | true=>
        have HE : Hid (a0t ps = (0,v,H.2.1,ps.drop ((H.2.2 + 7) / 8))):=by
         have:=HS.out.1
         rw [if_neg (λ h=>h hz)] at this
         unfold padOk at hpd
         rw [if_neg (of_decide_eq_true hpd)] at this; exact this
        have hpl : p < w2.heap.size:=by
         obtain ⟨A2,c2,hb2,-⟩:=HRD.out.ex
         exact a0f hb2
        have hq4 : (Kd.int .i64).R 3 w4 w2.heap.size (λ _=>True) (.slice (some ⟨g,0,none⟩) 256 256) H.2.1:=Kd.R_mono (Kd.R_step (Kd.R_bound HD.out.1) (λ k hk hlt=>p3.block k hlt (by have:=hk.2.1; omega))) (λ _ _=>trivial)
        have hs24 : w2.heap.size <= w4.heap.size:=Nat.le_trans HS23.out p3.size
        obtain ⟨w5,hw5⟩ : ∃ w5,w5 = w4.alloc (.cells #[.slice (some ⟨g,0,none⟩) 256 256] 47):=⟨_,rfl⟩
        have hb45 : Below w4.heap.size w4 w5:=by rw [hw5]; exact (Below.refl _ _).alloc (Nat.le_refl _) _
        have HQ5 : Hid (kq.R 47 w5 w2.heap.size (λ _=>True) (.slice (some ⟨w4.heap.size,0,none⟩) 1 1) [H.2.1]):=by show kq.R _ _ _ _ _ _; rw [hw5]; exact Kd.R_mono (a6T hq4 hs24) (λ _ _=>trivial)
        have HR5:=Lib.hid ((p2 hpd).below hb45)
        have HK6:=Lib.hid (a0j hk5 hb45)
        have HB6:=Lib.hid (HB5.out.trans (hb45.mono HB5.out.size))
        have HSz : Hid (w.heap.size < w2.heap.size):=by show _ < _; have:=a0f HK3.out; omega
        have hat:=HS.out.2 hz
        have HAT : Hid (8 * ((H.2.2 + 7) / 8) <= 8 * ps.length):=by show _ <= _; omega
        obtain ⟨s4,hs4⟩ : ∃ s4,s4 = w4.heap.size:=⟨_,rfl⟩
        rw [<- hs4] at HQ5
        clear p2 p3 hk5 hpd hq4 hs24 hb45 hpl hat
        go_wp2_with fail
        rw [<- hw5,<- hs4]
        clear hw5 hs4
        refine (b4F W.heap.size p ps _ w5 HR5.out HR.out.2.2.1 HAT.out).mono ?_
        rintro e w6 ⟨vp,rfl,hvp,hb6⟩
        have hk7:=a0j HK6.out hb6
        have HK7:=Lib.hid hk7
        have HP6:=Lib.hid hvp
        have HQ6:=Lib.hid (Kd.R_below HQ5.out hb6)
        have HB7:=Lib.hid (HB6.out.trans (hb6.mono HB6.out.size))
        have HS5:=Lib.hid (HB6.out.size)
        obtain ⟨⟨ca,cb,cc⟩,fa,fb,fc⟩:=cell3 hk7
        clear hk7 hvp hb6
        go_wp2_with fail
        refine bodyPost_ret (a1H (fn:=Tryz.f11) (p:=2) (u:=3) (v:=4) (ty:=31) rfl _ _ _ _ rfl (a1r (a1w HK7.out _ _ _))) rfl ?_
        refine ⟨(λ _=>?_),(λ h=>by rw [HE.out] at h; exact absurd rfl h),((HB7.out.setCell (Nat.le_refl _) _).setCell (Nat.le_refl _) _).setCell (Nat.le_refl _) _⟩
        rw [HE.out]
        have e8 : (8 * ((H.2.2 + 7) / 8) + 7) / 8 = (H.2.2 + 7) / 8:=by omega
        have hp6:=HP6.out
        rw [e8] at hp6
        have h5:=a0f HK6.out
        refine ⟨_,_,rfl,?_,?_⟩
        · have h4 : kq.R 47 w6 w.heap.size (λ k=>k ≠ w.heap.size) (.slice (some ⟨s4,0,none⟩) 1 1) [H.2.1]:=Kd.R_mono (Kd.R_lower (Kd.R_bound HQ6.out) (by have:=HSz.out; omega)) (λ k hk=>by have:=hk.2.1; have:=HSz.out; omega)
          exact Kd.R_mono (a2j h4 _ _ _) (λ _ _=>trivial)
        · have h4 : (Kd.int .u8).R 5 w6 w.heap.size (λ k=>k ≠ w.heap.size) vp (ps.drop ((H.2.2 + 7) / 8)):=Kd.R_mono (Kd.R_lower (Kd.R_bound hp6) (by omega)) (λ k hk=>by have:=hk.2.1; omega)
          exact Kd.R_mono (a2j h4 _ _ _) (λ _ _=>trivial)
     · obtain rfl:=c2 hz
       have HE : Hid (a0t ps = (H.1,0,[],[])):=by have:=HS.out.1; rw [if_pos hz] at this; exact this
       obtain ⟨⟨ca,cb,cc⟩,fa,fb,fc⟩:=cell3 hk4
       have hzb : (H.1 == 0) = false:=beq_eq_false_iff_ne.2 hz
       have hzn : (H.1 != 0) = true:=by simp [hz]
       clear c1 c2 c3 hk4
       go_wp2_with fail
       refine bodyPost_ret (a1H (fn:=Tryz.f11) (p:=2) (u:=3) (v:=4) (ty:=31) rfl _ _ _ _ rfl (a1r (a1w HK4.out _ _ _))) rfl ?_
       refine ⟨(λ h=>by rw [HE.out] at h; exact absurd h hz),(λ _=>by rw [HE.out]; rfl),?_⟩
       exact ((HB4.out.setCell (Nat.le_refl _) _).setCell (Nat.le_refl _) _).setCell (Nat.le_refl _) _
   · have HE : Hid (a0t ps = (13,0,[],[])):=by show _ = _; unfold a0t; rw [if_neg h0,<- HV.out,if_pos (by omega)]
     have hd:=Lib.hid (decide_eq_false hlog)
     obtain ⟨⟨ca,cb,cc⟩,fa,fb,fc⟩:=cell3 hk3
     clear hk3 hbW hlog
     go_wp2_with fail
     refine (b5g v w2 f2).mono ?_
     rw [hd.out]
     rintro e w' ⟨rfl,rfl⟩
     go_wp2_with fail
     refine bodyPost_ret (a1H (fn:=Tryz.f11) (p:=2) (u:=3) (v:=4) (ty:=31) rfl _ _ _ _ rfl (a1r (a1w HK3.out _ _ _))) rfl ?_
     refine ⟨(λ h=>by rw [HE.out] at h; cases h),(λ _=>by rw [HE.out]; rfl),?_⟩
     exact ((HBW.out.setCell (Nat.le_refl _) _).setCell (Nat.le_refl _) _).setCell (Nat.le_refl _) _
def a1m (b : List Int) : List Int:=packB (headB (zeroR b) (zeroQ b)) ++ packB (a0R (zeroR b : Nat) true [zeroQ b] b ++ [true])
theorem a5s {b : List Int} (hb : Bytes b) (hl : b.length <= 1000000) (h0 : 0 < b.length) : Nrm (zeroQ b) (zeroR b):=by
 have h:=a4x (a5h hb hl h0)
 have hz:=a3T b
 exact ⟨h.1.len,h.1.nonneg,h.2.1,by omega,by omega⟩
def b5i (b : List Int) (w : World) (e : Ending) (w' : World) : Prop:=
 (b.length = 0 /\ e = .returned (.tuple #[.slice none 0 0,.int .i64 1]) /\ Below w.heap.size w w') \/
 (0 < b.length /\ ∃ v,e = .returned (.tuple #[v,.int .i64 0]) /\ (Kd.int .u8).R 5 w' w.heap.size (λ _=>True) v (a1m b) /\ Below w.heap.size w w')
theorem c5m {w w' : World} {e : Ending} (h : a9x [] w e w') : e = .returned (.tuple #[.agg #[.int .i64 0,.bool false,.slice none 0 0],.int .i64 1]) /\ Below w.heap.size w w':=by
 rcases h with ⟨_,h1,h2⟩ | ⟨h,_⟩
 · exact ⟨h1,h2⟩
 · cases h
set_option maxRecDepth 100000 in
theorem c5n (A : Option Addr) (cp : Nat) (w : World) : Calls Tryz.prog 8 #[.slice A 0 cp] w (b5i [] w):=by
 have HZ:=Lib.hid ((c5k A cp w).mono (λ e w' h=>c5m h))
 go_enter Tryz.func8,Tryz.ntmps8
 go_wp2_with fail
 refine HZ.out.mono ?_
 rintro e w1 ⟨rfl,hb1⟩
 have HB1:=Lib.hid hb1
 clear hb1
 go_wp2_with fail
 go_ret2
 exact .inl ⟨rfl,rfl,HB1.out.alloc HB1.out.size _⟩
set_option maxRecDepth 100000 in
set_option maxHeartbeats 1000000 in
theorem c5o (A : Option Addr) (cp : Nat) (b : List Int) (w : World) (hr : (Kd.int .u8).C w A b.length b) (hb : Bytes b) (hl : b.length <= 40000) :
    Calls Tryz.prog 8 #[.slice A b.length cp] w (b5i b w):=by
 by_cases h0 : 0 < b.length
 · have HR:=Lib.hid (And.intro hr (And.intro hb (And.intro hl h0)))
   have HN:=Lib.hid (a5s hb (by omega) h0)
   have HCan : Hid (canM (zeroR b : Nat) true [zeroQ b] b = true):=a3U (one:=true) hb (by omega) h0
   have hzero:=b5f A cp b w hr hb (by omega) h0
   have HZ:=Lib.hid hzero
   obtain ⟨r,hr'⟩ : ∃ r,r = zeroR b:=⟨_,rfl⟩
   obtain ⟨q,hq'⟩ : ∃ q,q = zeroQ b:=⟨_,rfl⟩
   have HRQ:=Lib.hid (And.intro hr' hq')
   clear hr hb hl h0 hzero
   go_enter Tryz.func8,Tryz.ntmps8
   go_wp2_with fail
   refine HZ.out.mono ?_
   rintro e w1 (⟨h,_⟩ | ⟨_,v,rfl,hv,hb1⟩)
   · have:=HR.out.2.2.2; omega
   obtain ⟨Av,cv,rfl⟩:=Kd.R_slice hv
   rw [<- hr']
   rw [<- hq'] at hv
   have HV : Hid (kq.C w1 Av 1 [q]):=(Kd.R_reads' hv).2.2
   have HB1:=Lib.hid hb1
   have e1 : ([zeroQ b] : List (List Int)).length = 1:=rfl
   rw [e1]
   clear hv hb1 e1 hr' hq'
   obtain ⟨w2,hw2⟩ : ∃ w2,w2 = w1.alloc (.cells #[.int .i64 r,.bool true,.slice Av 1 cv] 31):=⟨_,rfl⟩
   have HB2 : Hid (Below w.heap.size w w2):=by show Below _ _ _; rw [hw2]; exact HB1.out.alloc HB1.out.size _
   have HV2 : Hid (kq.C w2 Av 1 [q]):=by show kq.C _ _ _ _; rw [hw2]; exact Kd.C_alloc HV.out _
   have hk2 : w2.heap[w1.heap.size]? = some (.cells #[.int .i64 r,.bool true,.slice Av 1 cv] 31 (0,0)):=by rw [hw2]; exact a0n _ _
   have HK2:=Lib.hid hk2
   obtain ⟨mb,hmb⟩ : ∃ mb,mb = w1.heap.size:=⟨_,rfl⟩
   rw [<- hmb] at HK2
   clear hk2
   go_wp2_with fail
   rw [<- hw2,<- hmb]
   clear hw2 hmb
   refine (b3c (r : Nat) true Av cv [q] A cp b w2 HV2.out (by simp) (Kd.C_below HR.out.1 HB2.out) HR.out.2.1 HR.out.2.2.1).mono ?_
   rintro e w3 ⟨_,h2,hb3⟩
   obtain ⟨vp,rfl,hvp⟩:=h2 (by rw [HRQ.out.1,HRQ.out.2]; exact HCan.out)
   obtain ⟨Ap,cpp,rfl⟩:=Kd.R_slice hvp
   have HB3 : Hid (Below w.heap.size w w3):=HB2.out.trans (hb3.mono HB2.out.size)
   have hk3:=a0j HK2.out hb3
   have HV3 : Hid (kq.C w3 Av 1 [q]):=Kd.C_below HV2.out hb3
   have HP3:=Lib.hid (Kd.R_reads' hvp).2.2
   have HFit:=Lib.hid (a3N (a3O (by rw [HRQ.out.1,HRQ.out.2]; exact HCan.out : canM (r : Nat) true [q] b = true)).1 HR.out.2.1)
   obtain ⟨Pl,hPl⟩ : ∃ Pl,Pl = packB (a0R (r : Nat) true [q] b ++ [true]):=⟨_,rfl⟩
   have HPl:=Lib.hid hPl
   rw [<- hPl] at HP3 ⊢
   obtain ⟨⟨ka,kb,kc⟩,-⟩:=cell3 hk3
   have HPlen : Hid (Pl.length <= 700000):=by
    show _ <= _
    rw [hPl,a0B,List.length_append]
    have:=HFit.out; have:=HR.out.2.2.1; simp only [List.length_singleton]; omega
   clear h2 hb3 hvp hk3 hPl
   have HKK:=Lib.hid (And.intro ka (And.intro kb kc))
   clear ka kb kc
   obtain ⟨ka,kb,kc⟩:=HKK.out
   go_wp2_with fail
   refine (c4h r cv Av q w3 HV3.out (by rw [HRQ.out.1,HRQ.out.2]; exact HN.out)).mono ?_
   rintro e w4 ⟨vh,rfl,hvh,hb4⟩
   obtain ⟨Ah,ch,rfl⟩:=Kd.R_slice hvh
   have HB4 : Hid (Below w.heap.size w w4):=HB3.out.trans (hb4.mono HB3.out.size)
   have HP4 : Hid ((Kd.int .u8).C w4 Ap Pl.length Pl):=Kd.C_below HP3.out hb4
   have HH4 : Hid ((Kd.int .u8).R 5 w4 w.heap.size (λ _=>True) (.slice Ah (packB (headB r q)).length ch) (packB (headB r q))):=Kd.R_lower hvh HB3.out.size
   have HHl : Hid ((packB (headB r q)).length <= 10000):=by
    show _ <= _
    have hn:=HN.out
    rw [<- HRQ.out.1,<- HRQ.out.2] at hn
    have e2 : (2 : Int) ^ r = ((2 ^ r : Nat) : Int):=by simp
    have h1:=a3s hn.r12 hn.len hn.nn 257 0 (2 ^ r) (by omega) (by rw [List.drop_zero,hn.sum,e2]) (by rw [Nat.pow_succ]; have:=Nat.two_pow_pos r; omega)
    have h2 : (256 - 0) * (r + 3) <= 256 * 15:=Nat.mul_le_mul (by omega) (by have:=hn.r12; omega)
    rw [a0B]; unfold headB
    rw [List.length_append,a0D]; omega
   obtain ⟨Hl,hHl⟩ : ∃ Hl,Hl = packB (headB r q):=⟨_,rfl⟩
   have HHd:=Lib.hid hHl
   rw [<- hHl] at HH4 HHl ⊢
   have HL : Hid ((Hl.length + Pl.length) * 1 <= 140737488355328):=by show _ <= _; have:=HHl.out; have:=HPlen.out; omega
   have HS4 : Hid (w.heap.size <= w4.heap.size):=HB4.out.size
   clear hvh hb4 hHl ka kb kc
   go_wp2_with (at_builtin; refine Kd.R_append_rows (Kd.int .u8) (Rr:=(Kd.int .u8).K w4) (w0:=w) (W:=w4) w.heap.size rfl (.tmp 25) (.tmp 26) 22 5 (.int .u8 0) 1 rfl Tryz.underlying22 a1E rfl (by decide) (by decide) (.slice Ah Hl.length ch) Hl Pl Ap Pl.length cpp (λ _=>True) (λ _=>False) rfl rfl HH4.out HP4.out (λ _ _ h=>h) (λ _ h=>h.elim) (λ _ _=>trivial) HB4.out HS4.out HL.out ?_; intro vi w5 hr5 hb5 hg5 hat5; have HR5:=Lib.hid hr5; have HB5:=Lib.hid hb5; clear hr5 hb5 hg5 hat5)
   go_ret2
   refine .inr ⟨HR.out.2.2.2,_,rfl,?_,HB5.out⟩
   unfold a1m
   rw [<- HRQ.out.1,<- HRQ.out.2,<- HPl.out,<- HHd.out]
   exact HR5.out
 · have hbe : b = []:=List.eq_nil_of_length_eq_zero (by omega)
   subst hbe
   exact c5n A cp w
theorem a7n (ps : List Int) : (∃ k,k ≠ 0 /\ a0t ps = (k,0,[],[])) \/ ∃ r q m,5 <= r /\ r <= 11 /\ a0t ps = (0,r,q,ps.drop m):=by
 unfold a0t
 by_cases h0 : ps.length = 0
 · rw [if_pos h0]; exact .inl ⟨3,by decide,rfl⟩
 · rw [if_neg h0]
   by_cases h1 : (ps.getD 0 0).toNat < 5 \/ 11 < (ps.getD 0 0).toNat
   · rw [if_pos h1]; exact .inl ⟨13,by decide,rfl⟩
   · rw [if_neg h1]; dsimp only
     obtain ⟨H,hH⟩ : ∃ H,H = hdrT ps (8 * ps.length) 257 zeros256 0 (2 ^ (ps.getD 0 0).toNat) false 8:=⟨_,rfl⟩
     rw [<- hH]
     by_cases h2 : H.1 ≠ 0
     · rw [if_pos h2]; exact .inl ⟨_,h2,rfl⟩
     · rw [if_neg h2]
       by_cases h3 : H.2.2 % 8 ≠ 0 /\ (ps.getD (H.2.2 / 8) 0).toNat / 2 ^ (H.2.2 % 8) ≠ 0
       · rw [if_pos h3]; exact .inl ⟨4,by decide,rfl⟩
       · rw [if_neg h3]; exact .inr ⟨_,_,_,by omega,by omega,rfl⟩
theorem a5t {ps : List Int} (h : Bytes ps) : Bytes (a0t ps).2.2.2:=by
 rcases a7n ps with ⟨k,_,e⟩ | ⟨r,q,m,_,_,e⟩
 · rw [e]; intro x hx; cases hx
 · rw [e]; exact λ x hx=>h x (List.mem_of_mem_drop hx)
theorem a9y (ps : List Int) : (a0t ps).2.2.2.length <= ps.length:=by
 rcases a7n ps with ⟨k,_,e⟩ | ⟨r,q,m,_,_,e⟩
 · rw [e]; simp
 · rw [e]; simp
def a9z (r : Nat) (q p : List Int) (w : World) (e : Ending) (w' : World) : Prop:=
 ∃ Am cm Ap cp,e = .returned (.tuple #[.agg #[.int .i64 r,.bool true,.slice Am 1 cm],.slice Ap p.length cp,.int .i64 0]) /\ kq.R 47 w' w.heap.size (λ _=>True) (.slice Am 1 cm) [q] /\ (Kd.int .u8).R 5 w' w.heap.size (λ _=>True) (.slice Ap p.length cp) p /\ Below w.heap.size w w'
theorem a9A (A : Option Addr) (c : Nat) (ps : List Int) {r : Nat} {q p : List Int} (w : World) (hr : (Kd.int .u8).C w A ps.length ps) (hps : Bytes ps) (hl : ps.length <= 1000000) (hc : ps.length <= c) (hnil : A = none -> c = 0) (h : a0t ps = (0,r,q,p)) :
    Calls Tryz.prog 11 #[.slice A ps.length c] w (a9z r q p w):=by
 refine (b5h A c ps w hr hps hl hc hnil).mono ?_
 intro e w' hp
 unfold a4D at hp
 rw [h] at hp
 obtain ⟨vm,vp,rfl,hm,hv⟩:=hp.1 rfl
 obtain ⟨Am,cm,rfl⟩:=Kd.R_slice hm
 obtain ⟨Ap,cp,rfl⟩:=Kd.R_slice hv
 exact ⟨Am,cm,Ap,cp,rfl,hm,hv,hp.2.2⟩
theorem b5j (A : Option Addr) (c : Nat) (ps : List Int) {k : Int} (w : World) (hr : (Kd.int .u8).C w A ps.length ps) (hps : Bytes ps) (hl : ps.length <= 1000000) (hc : ps.length <= c) (hnil : A = none -> c = 0) (h : (a0t ps).1 = k) (hk : k ≠ 0) :
    Calls Tryz.prog 11 #[.slice A ps.length c] w (λ e w'=>e = .returned (.tuple #[.agg #[.int .i64 0,.bool false,.slice none 0 0],.slice none 0 0,.int .i64 k]) /\ Below w.heap.size w w'):=by
 refine (b5h A c ps w hr hps hl hc hnil).mono ?_
 intro e w' hp
 unfold a4D at hp
 rw [h] at hp
 exact ⟨hp.2.1 hk,hp.2.2⟩
def dec0M (ps : List Int) (n : Int) : Int × List Int:=if (a0t ps).1 ≠ 0 then ((a0t ps).1,[]) else decM ((a0t ps).2.1 : Nat) true [(a0t ps).2.2.1] (a0t ps).2.2.2 n
set_option maxRecDepth 100000 in
set_option maxHeartbeats 1000000 in
theorem b5k (A : Option Addr) (c : Nat) (ps : List Int) (n : Int) (w : World) (hr : (Kd.int .u8).C w A ps.length ps) (hps : Bytes ps) (hl : ps.length <= 1000000) (hc : ps.length <= c) (hnil : A = none -> c = 0) :
    Calls Tryz.prog 13 #[.slice A ps.length c,.int .i64 n] w (ReadPost (dec0M ps n) w):=by
 obtain ⟨k,r,q,p,hS⟩ : ∃ k r q p,a0t ps = (k,r,q,p):=⟨_,_,_,_,rfl⟩
 have hpb:=a5t hps
 have hpl:=a9y ps
 rw [hS] at hpb hpl
 by_cases hk : k = 0
 · subst hk
   have HD : Hid (dec0M ps n = decM (r : Nat) true [q] p n):=by show _ = _; unfold dec0M; rw [hS,if_neg (λ h=>h rfl)]
   have HS:=Lib.hid (a9A A c ps w hr hps hl hc hnil hS)
   have HP:=Lib.hid (And.intro hpb (Nat.le_trans hpl hl))
   rw [HD.out]
   clear hr hps hl hc hnil hS hpb hpl
   go_enter Tryz.func13,Tryz.ntmps13
   go_wp2_with fail
   refine HS.out.mono ?_
   rintro e w1 ⟨Am,cm,Ap,cp,rfl,hm,hv,hb1⟩
   obtain ⟨w2,hw2⟩ : ∃ w2,w2 = w1.alloc (.cells #[.int .i64 r,.bool true,.slice Am 1 cm] 31):=⟨_,rfl⟩
   have hb2 : Below w1.heap.size w1 w2:=by rw [hw2]; exact (Below.refl _ _).alloc (Nat.le_refl _) _
   have HB2:=Lib.hid (hb1.trans (hb2.mono hb1.size))
   have HM:=Lib.hid (Kd.C_below (Kd.R_reads' hm).2.2 hb2)
   have HV:=Lib.hid (Kd.C_below (Kd.R_reads' hv).2.2 hb2)
   clear hm hv hb1 hb2
   go_wp2_with fail
   rw [<- hw2]
   clear hw2
   refine (b3a r true Am cm [q] Ap cp p n w2 HM.out (by simp) HV.out HP.out.1 HP.out.2).mono ?_
   rintro e w3 ⟨⟨v,rfl,hv⟩,hb3⟩
   have H3:=Lib.hid (And.intro hv hb3)
   clear hv hb3
   go_wp2_with fail
   go_ret2
   exact ⟨⟨v,rfl,Kd.R_lower H3.out.1 HB2.out.size⟩,HB2.out.trans (H3.out.2.mono HB2.out.size)⟩
 · have HD : Hid (dec0M ps n = (k,[])):=by show _ = _; unfold dec0M; rw [hS,if_pos hk]
   have HS:=Lib.hid (b5j A c ps w hr hps hl hc hnil (by rw [hS]) hk)
   have hkb : (k == 0) = false:=beq_eq_false_iff_ne.2 hk
   have hkn : (k != 0) = true:=by simp [hk]
   rw [HD.out]
   clear hr hps hl hc hnil hS hpb hpl
   go_enter Tryz.func13,Tryz.ntmps13
   go_wp2_with fail
   refine HS.out.mono ?_
   rintro e w1 ⟨rfl,hb1⟩
   have HB1:=Lib.hid hb1
   clear hb1
   go_wp2_with fail
   go_ret2
   exact ⟨⟨_,rfl,Kd.R_nil _ _ _ _ _⟩,HB1.out.alloc HB1.out.size _⟩
def Told (k : Int) (y : List Int) (w : World) (e : Ending) (w' : World) : Prop:=
 ∃ A c,e = .returned (.tuple #[.slice A y.length c,.int .i64 k]) /\ (Kd.int .u8).R 5 w' w.heap.size (λ _=>True) (.slice A y.length c) y /\ Below w.heap.size w w'
theorem ReadPost.told {k : Int} {y : List Int} {w : World} {e : Ending} {w' : World} (h : ReadPost (k,y) w e w') : Told k y w e w':=by
 obtain ⟨⟨v,rfl,hv⟩,hb⟩:=h
 obtain ⟨A,c,rfl⟩:=Kd.R_slice hv
 exact ⟨A,c,rfl,hv,hb⟩
theorem c5p (A : Option Addr) (c : Nat) (ps : List Int) (n : Int) {k : Int} {y : List Int} (w : World) (hr : (Kd.int .u8).C w A ps.length ps) (hps : Bytes ps) (hl : ps.length <= 1000000) (hc : ps.length <= c) (hnil : A = none -> c = 0) (h : dec0M ps n = (k,y)) :
    Calls Tryz.prog 13 #[.slice A ps.length c,.int .i64 n] w (Told k y w):=by
 have:=b5k A c ps n w hr hps hl hc hnil
 rw [h] at this
 exact this.mono λ e w' hp=>hp.told
theorem c5q (A : Option Addr) (cp : Nat) (b : List Int) (w : World) (hr : (Kd.int .u8).C w A b.length b) (hb : Bytes b) (hl : b.length <= 40000) (h0 : 0 < b.length) :
    Calls Tryz.prog 8 #[.slice A b.length cp] w (Told 0 (a1m b) w):=by
 refine (c5o A cp b w hr hb hl).mono ?_
 rintro e w' (⟨h,_⟩ | ⟨_,v,rfl,hv,hbl⟩)
 · omega
 · obtain ⟨A1,c1,rfl⟩:=Kd.R_slice hv
   exact ⟨A1,c1,rfl,hv,hbl⟩
end Go.Proofs.YtipjlneepponpaaGreat
namespace Go.Proofs.YtipjlneepponpaaGreat
open Go.RowKit
theorem aw0_r : zeroR [7,7,7] = 5:=by decide +kernel
theorem aw0_q : zeroQ [7,7,7] = awQ:=by decide +kernel
theorem c5u : a1m [7,7,7] = [5,192,3,2,0,4]:=by
 unfold a1m
 rw [aw0_r,aw0_q]
 decide +kernel
theorem c5v : a0t [5,192,3,2,0,4] = (0,5,awQ,[0,4]):=by decide +kernel
theorem c5w : dec0M [5,192,3,2,0,4] 3 = (0,[7,7,7]):=by decide +kernel
open Go.IntWalk Go.Proofs.YtipjlneepponpaaGreat.PRef Go.Proofs.YtipjlneepponpaaGreatW.PrintWords Go.Proofs.YtipjlneepponpaaGreatW.PrintLast Go.Proofs.YtipjlneepponpaaGreatW.PrintMore
theorem c5x (a : List Int) (hl : a.length <= 1000000) : ∀ (d i : Nat),i + d = a.length -> Ev (λ k=>puncheonref01_Ints.l0 k a a (i : Int)) true:=by
 intro d
 induction d with
 | zero=>
  intro i hi
  refine Ev.step (λ k=>(show puncheonref01_Ints.l0 (k + 1) _ _ _ = _ by simp only [puncheonref01_Ints.l0]; rw [if_neg (by omega)])) ?_
  exact Ev.now _
 | succ d ih=>
  intro i hi
  have h1 : (i : Int) < (a.length : Int):=by omega
  have h2 : (0 : Int) <= i:=by omega
  refine Ev.step (λ k=>(show puncheonref01_Ints.l0 (k + 1) _ _ _ = _ by simp only [puncheonref01_Ints.l0]; rw [if_pos h1,if_pos h2,if_pos h1,if_pos trivial,wS i (by omega)])) ?_
  exact ih (i + 1) (by omega)
theorem c5y (a : List Int) (hl : a.length <= 1000000) : Ev (λ k=>puncheonref01_Ints.f k a a) true:=by
 refine Ev.congr (f:=λ k=>puncheonref01_Ints.l0 k a a (0 : Nat)) (λ k=>by unfold puncheonref01_Ints.f; rw [if_pos rfl]; rfl) ?_
 exact c5x a hl a.length 0 (by omega)
theorem c5z (lg : Int) (one : Bool) (qs : List (List Int)) (hl : qs.length <= 1000000) (hq : ∀ q ∈ qs,q.length <= 1000000) : ∀ (d i : Nat),i + d = qs.length -> Ev (λ k=>puncheonref16_Same.l0 k (i : Int) lg one qs lg one qs) true:=by
 intro d
 induction d with
 | zero=>
  intro i hi
  refine Ev.step (λ k=>(show puncheonref16_Same.l0 (k + 1) _ _ _ _ _ _ _ = _ by simp only [puncheonref16_Same.l0]; rw [if_neg (by omega)])) ?_
  exact Ev.now _
 | succ d ih=>
  intro i hi
  have h1 : (i : Int) < (qs.length : Int):=by omega
  have h2 : (0 : Int) <= i:=by omega
  have hm : qs.getD i [] ∈ qs:=by rw [List.getD_eq_getElem?_getD,List.getElem?_eq_getElem (by omega),Option.getD_some]; exact List.getElem_mem (by omega)
  refine Ev.step (λ k=>(show puncheonref16_Same.l0 (k + 1) _ _ _ _ _ _ _ = _ by simp only [puncheonref16_Same.l0]; rw [if_pos h1,if_pos h2,if_pos h1,show rd_L3 qs (i : Int) = qs.getD i [] from rfl])) ?_
  refine Ev.bind (c5y _ (hq _ hm)) ?_
  refine Ev.congr (f:=λ k=>puncheonref16_Same.l0 k ((i + 1 : Nat) : Int) lg one qs lg one qs) (λ k=>by rw [if_pos rfl,wS i (by omega)]) ?_
  exact ih (i + 1) (by omega)
theorem c5A (lg : Int) (one : Bool) (qs : List (List Int)) (hl : qs.length <= 1000000) (hq : ∀ q ∈ qs,q.length <= 1000000) : Ev (λ k=>puncheonref16_Same.f k lg one qs lg one qs) true:=by
 have hj : Ev (λ k=>puncheonref16_Same.j0 k false lg one qs lg one qs) true:=by
  refine Ev.step (λ k=>(show puncheonref16_Same.j0 (k + 1) _ _ _ _ _ _ _ = _ by simp only [puncheonref16_Same.j0]; rw [if_neg (by decide)])) ?_
  exact c5z lg one qs hl hq qs.length 0 (by omega)
 refine Ev.congr (f:=λ k=>puncheonref16_Same.j0 k false lg one qs lg one qs) (λ k=>?_) hj
 unfold puncheonref16_Same.f
 rw [if_pos rfl,if_neg (by cases one <;> decide)]
 have : ((qs.length : Int) != (qs.length : Int)) = false:=by simp
 rw [this]
theorem a9B (lg : Int) (one : Bool) (A B : Option Addr) (ca cb : Nat) (qs : List (List Int)) (w : World) (ha : kq.C w A qs.length qs) (hb : kq.C w B qs.length qs) (hca : qs.length <= ca) (hcb : qs.length <= cb) (hl : qs.length <= 1000000) (hq : ∀ q ∈ qs,q.length <= 1000000) :
    Calls Tryz.prog 15 #[.agg #[.int .i64 lg,.bool one,.slice A qs.length ca],.agg #[.int .i64 lg,.bool one,.slice B qs.length cb]] w (Ret (.bool true) w):=by
 obtain ⟨k,hk⟩:=(c5A lg one qs hl hq).rounds
 exact puncheonref16_Same.calls k lg one A ca qs lg one B cb qs true w ha hca hb hcb hk
end Go.Proofs.YtipjlneepponpaaGreat
namespace Go.Proofs.YtipjlneepponpaaGreat
open Go.RowKit Go.IntWalk Go.Proofs.YtipjlneepponpaaGreatW.PrintWords
structure BSl (w : World) (A : Option Addr) (c : Nat) (p : List Int) : Prop where
 row : (Kd.int .u8).C w A p.length p
 cap : p.length <= c
 nil : A = none -> c = 0
 by' : Bytes p
theorem BSl.below {w w' : World} {A : Option Addr} {c : Nat} {p : List Int} (h : BSl w A c p) (hb : Below w.heap.size w w') : BSl w' A c p:=⟨Kd.C_below h.row hb,h.cap,h.nil,h.by'⟩
theorem BSl.of {w : World} {A : Option Addr} {c n base : Nat} {p : List Int} {ok : Nat -> Prop} (h : (Kd.int .u8).R 5 w base ok (.slice A n c) p) (hp : Bytes p) : BSl w A c p:=by
 obtain ⟨e,h2,h3⟩:=Kd.R_reads' h
 refine ⟨h3,by omega,λ ha=>?_,hp⟩
 obtain ⟨_,inner,⟨_,ho⟩,_⟩:=h
 rcases ho with ⟨h4,_⟩ | ⟨g,cap,cur,h4,_⟩
 · cases h4; rfl
 · rw [ha] at h4; cases h4
theorem Told.out {k : Int} {y : List Int} {w : World} {e : Ending} {w' : World} (h : Told k y w e w') (hy : Bytes y) : ∃ A c,e = .returned (.tuple #[.slice A y.length c,.int .i64 k]) /\ BSl w' A c y /\ Below w.heap.size w w':=by
 obtain ⟨A,c,he,hr,hb⟩:=h
 exact ⟨A,c,he,BSl.of hr hy,hb⟩
theorem c5B {w : World} (xs : List Int) (hx : Bytes xs) (hl : xs.length <= 1000000) : BSl (w.alloc (.cells (xs.map (Value.int .u8)).toArray 5)) (some ⟨w.heap.size,0,none⟩) xs.length xs:=
 BSl.of (a6X .u8 5 w w.heap.size (λ _=>True) trivial (Nat.le_refl _) xs hl) hx
theorem BSl.str {w : World} {A : Option Addr} {c : Nat} {p : List Int} (h : BSl w A c p) : (convert 22 9 (.slice A p.length c)).run Tryz.prog w = .ok (.string (strOfNums p)) w:=
 Kd.C_string Tryz.underlying22 Tryz.underlying5 Tryz.underlying9 h.row
theorem b777 : Bytes [7,7,7]:=by intro x hx; simp at hx; omega
theorem bx777 : Bytes [5,192,3,2,0,4]:=by intro x hx; simp at hx; omega
set_option maxRecDepth 100000 in
set_option maxHeartbeats 1000000 in
theorem a5u (w : World) : Calls Tryz.prog 7 #[] w (Ret (.bool true) w):=by
 obtain ⟨w1,hw1⟩ : ∃ w1,w1 = w.alloc (.cells #[.int .u8 7,.int .u8 7,.int .u8 7] 5):=⟨_,rfl⟩
 have HB1 : Hid (Below w.heap.size w w1):=by show Below _ _ _; rw [hw1]; exact (Below.refl _ _).alloc (Nat.le_refl _) _
 have HS1 : Hid (BSl w1 (some ⟨w.heap.size,0,none⟩) 3 [7,7,7]):=by show BSl _ _ _ _; rw [hw1]; exact c5B [7,7,7] b777 (by decide)
 go_enter Tryz.func7,Tryz.ntmps7
 go_wp2_with fail
 rw [<- hw1]
 clear hw1
 have h2:=c5q (some ⟨w.heap.size,0,none⟩) 3 [7,7,7] w1 HS1.out.row b777 (by decide) (by decide)
 rw [c5u] at h2
 refine h2.mono ?_
 clear h2
 intro e w2 h2
 obtain ⟨A2,c2,rfl,hs2,hb2⟩:=h2.out bx777
 have HB2:=Lib.hid (a0g HB1.out hb2)
 have HB12:=Lib.hid hb2
 have HS2:=Lib.hid hs2
 clear h2 hs2 hb2
 go_wp2_with fail
 refine (c5p _ _ _ 3 w2 HS2.out.row bx777 (by decide) HS2.out.cap HS2.out.nil c5w).mono ?_
 intro e w3 h3
 obtain ⟨A3,c3,rfl,hs3,hb3⟩:=h3.out b777
 have HB3:=Lib.hid (a0g HB2.out hb3)
 have HB23:=Lib.hid hb3
 have HS3:=Lib.hid hs3
 clear h3 hs3 hb3
 go_wp2_with fail
 refine (a9A _ _ _ w3 (HS2.out.below HB23.out).row bx777 (by decide) HS2.out.cap HS2.out.nil c5v).mono ?_
 rintro e w4 ⟨Am,cm,Ap,cp,rfl,hm,hv,hb4⟩
 have HM:=Lib.hid (MAt.new (lg:=5) (one:=true) (qs:=[awQ]) hm)
 have hs4 : BSl w4 Ap cp [0,4]:=BSl.of hv (by intro x hx; simp at hx; omega)
 obtain ⟨w5,hw5⟩ : ∃ w5,w5 = w4.alloc (.cells #[.int .i64 5,.bool true,.slice Am 1 cm] 31):=⟨_,rfl⟩
 have hb45 : Below w4.heap.size w4 w5:=by rw [hw5]; exact (Below.refl _ _).alloc (Nat.le_refl _) _
 have HB5:=Lib.hid (a0g (a0g HB3.out hb4) hb45)
 have h35:=a0g hb4 hb45
 have h25:=a0g HB23.out h35
 have h15:=a0g HB12.out h25
 have v1 : (convert 22 9 (.slice (some ⟨w.heap.size,0,none⟩) 3 3)).run Tryz.prog w5 = .ok (.string ⟨#[7,7,7]⟩) w5:=(HS1.out.below h15).str
 have v2 : (convert 22 9 (.slice A2 6 c2)).run Tryz.prog w5 = .ok (.string ⟨#[5,192,3,2,0,4]⟩) w5:=(HS2.out.below h25).str
 have v3 : (convert 22 9 (.slice A3 3 c3)).run Tryz.prog w5 = .ok (.string ⟨#[7,7,7]⟩) w5:=(HS3.out.below h35).str
 have v4 : (convert 22 9 (.slice Ap 2 cp)).run Tryz.prog w5 = .ok (.string ⟨#[0,4]⟩) w5:=(hs4.below hb45).str
 have hm2:=HM.out.blk
 rw [show w4.alloc (.cells #[.int .i64 5,.bool true,.slice Am ([awQ] : List (List Int)).length cm] 31) = w5 from hw5.symm] at hm2
 obtain ⟨⟨m0,m1,m2⟩,_⟩:=cell3 hm2
 clear hm hv hb4 hb45 h35 h25 h15 hs4 hm2
 subst hw5
 go_wp2_with fail
 go_ret
 exact ⟨rfl,HB5.out⟩
theorem b5m {κ : IntKind} {w : World} {A : Option Addr} {xs : List Int} (h : (Kd.int κ).C w A xs.length xs) (k : Nat) (hk : k <= xs.length) : (Kd.int κ).C w A k (xs.take k):=by
 obtain ⟨h1,h2,h3⟩:=h
 refine ⟨by rw [List.length_take]; omega,by omega,λ h0=>?_⟩
 obtain ⟨ad,e,hc⟩:=h3 (by omega)
 refine ⟨ad,e,λ j p hj=>hc j p ?_⟩
 rw [List.getElem?_take] at hj
 split at hj
 · exact hj
 · cases hj
theorem b5n {lg : Int} {one : Bool} {qs : List (List Int)} {ps : List Int} {n : Int} (hps : ∀ x ∈ ps,0 <= x /\ x < 256) : Bytes (decM lg one qs ps n).2:=by
 by_cases h : (decM lg one qs ps n).1 = 0
 · exact (a6C (z:=(decM lg one qs ps n).2) hps (by rw [<- h])).2.1
 · rw [a8V h]; intro x hx; cases hx
theorem a9C {ps : List Int} {n : Int} (hps : Bytes ps) : Bytes (dec0M ps n).2:=by
 unfold dec0M
 split
 · intro x hx; cases hx
 · exact b5n (a5t hps)
theorem BSl.cut {w : World} {A : Option Addr} {c : Nat} {p : List Int} (h : BSl w A c p) {k : Nat} (hk : k <= p.length) : BSl w A c (p.take k):=
 ⟨by have:=b5m h.row k hk; rwa [List.length_take,Nat.min_eq_left hk],by rw [List.length_take]; have:=h.cap; omega,h.nil,λ x hx=>h.by' x (List.mem_of_mem_take hx)⟩
end Go.Proofs.YtipjlneepponpaaGreat
namespace Go.Proofs.YtipjlneepponpaaGreat
open Go.RowKit Go.IntWalk Go.Proofs.YtipjlneepponpaaGreatW.PrintWords
attribute [local go_sem] Oper.semAt_some
theorem a3x {W : World} {B : Nat} {e : TypeId} {v : Value} {n : Nat} {xs : List Value} (h : W.ownsRow B e 1 v n xs) : ∃ A c,v = .slice A n c:=by
 rcases h.2 with ⟨rfl,rfl⟩ | ⟨g,cap,cur,rfl,_⟩
 · exact ⟨_,_,rfl⟩
 · exact ⟨_,_,rfl⟩
theorem RfAt.only {w w' : World} {base p : Nat} {ps : List Int} {at_ : Nat} {S : Nat -> Prop} (h : RfAt w base p ps at_) (ho : Only S w w') (hp : ¬ S p) (hs : ∀ k,base <= k -> k < p -> ¬ S k) : RfAt w' base p ps at_:=by
 obtain ⟨A,c,h1,h2⟩:=h.ex
 have hb:=λ k hk=>(Kd.R_bound h2).1 k hk
 refine ⟨A,c,(ho.block p (a0f h1) hp).trans h1,Kd.R_mono (Kd.R_step (Kd.R_tight (d:=Kd.int .u8) rfl h2) (λ k hk hlt=>ho.block k hlt ?_)) (λ k hk=>(hb k hk.symm).1)⟩
 have:=hb k hk.symm
 exact hs k this.2.1 this.1
theorem Only.grown {S : Nat -> Prop} {a b c : World} {row : Option Nat} (h : Only S a b) (hg : b.grownBy c row) (hs : ∀ k,row = some k -> S k) : Only S a c:=h.trans (Only.of_grown hg hs)
end Go.Proofs.YtipjlneepponpaaGreat
namespace Go.Proofs.YtipjlneepponpaaGreat
open Go.RowKit Go.IntWalk Go.Proofs.YtipjlneepponpaaGreatW.PrintWords
structure S1 (rbx mb mc p B r n0 : Nat) (ps : List Int) (qs : List (List Int)) (at_ : Nat) (w0 W : World) : Prop where
 rd : RfAt W B p ps at_
 kb : W.heap[rbx]? = some (.cells #[.pointer (some ⟨p,0,none⟩)] 48 (0,0))
 km : W.heap[mb]? = some (.cells #[.int .i64 r,.bool false,.slice (some ⟨mc,0,none⟩) 256 256] 31 (0,0))
 row : kq.R 47 W n0 (λ k=>k ≠ p /\ k ≠ rbx /\ k ≠ mb) (.slice (some ⟨mc,0,none⟩) 256 256) qs
 on : Below n0 w0 W
theorem Told.nil (k : Int) {w w' : World} (hb : Below w.heap.size w w') : Told k [] w (.returned (.tuple #[.slice none 0 0,.int .i64 k])) w':=⟨none,0,rfl,Kd.R_nil _ _ _ _ _,hb⟩
open Go.Proofs.YtipjlneepponpaaGreat.PRef
theorem b6e (A : Option Addr) (cp n : Nat) (l : List Bool) (w : World) (hr : Kd.bool.C w A n l) (hn : l.length = n) (hc : l.length <= cp) (hl : l.length <= 1000000) : Calls Tryz.prog 28 #[.slice A n cp] w (MadeU (packB l) w):=by
 subst hn
 obtain ⟨k,hk⟩:=(b3t l hl).rounds
 exact puncheonref01_Bytes.calls k A cp l _ w hr hc hk
end Go.Proofs.YtipjlneepponpaaGreat
namespace Go.Proofs.YtipjlneepponpaaGreat
open Go.RowKit Go.Proofs.YtipjlneepponpaaGreat.PRef Go.Proofs.YtipjlneepponpaaGreatW.PrintWords Go.Proofs.YtipjlneepponpaaGreatW.PrintLast Go.Proofs.YtipjlneepponpaaGreatW.PrintMore
def a0M (ps : List Int) (n : Nat) : List Bool:=(List.range n).map (λ i=>decide (bitI ps i = 1))
theorem a1L (ps : List Int) (n : Nat) : (a0M ps n).length = n:=by simp [a0M]
theorem c6V (ps : List Int) (n : Nat) : a0M ps (n + 1) = a0M ps n ++ [decide (bitI ps n = 1)]:=by simp [a0M,List.range_succ]
theorem c6W (y k : Nat) (hy : y < 256) (hk : k < 8) : ((Go.bits .and .u8 (shr .u8 (y : Int) (k : Int)) 1) == 1) = decide (y / 2 ^ k % 2 = 1):=by
 have e1 : shr .u8 (y : Int) (k : Int) = ((y / 2 ^ k : Nat) : Int):=by
  unfold shr
  have : min (k : Int).toNat IntKind.u8.bits = k:=by
   have : IntKind.u8.bits = 8:=rfl
   rw [this,Int.toNat_natCast]; omega
  rw [this]; simp
 rw [e1]
 have h2:=Nat.div_le_self y (2 ^ k)
 obtain ⟨z,hz⟩ : ∃ z,z = y / 2 ^ k:=⟨_,rfl⟩
 rw [<- hz] at h2 ⊢
 have h:=bits_mask .u8 8 (by decide) (λ n h0 h1=>by rw [IntKind.wrap_u8]; omega) 1 (by decide) (z : Int) (by omega) (by omega)
 have e : ((2 : Int) ^ 1 - 1) = 1:=by decide
 rw [e] at h
 rw [h]
 by_cases hh : z % 2 = 1
 · rw [decide_eq_true hh,beq_iff_eq]; omega
 · rw [decide_eq_false hh,beq_eq_false_iff_ne]; omega
theorem c6X (ps : List Int) (hps : ∀ x ∈ ps,0 <= x /\ x < 256) (hl : ps.length <= 1000000) : ∀ (d i k : Nat),8 * i + k + d = 8 * ps.length -> i < ps.length -> k <= 8 -> Ev (λ f=>puncheonref01_Bits.l1 f ps (a0M ps (8 * i + k)) (i : Int) (k : Int)) (a0M ps (8 * ps.length)):=by
 intro d
 induction d with
 | zero=>
  intro i k h1 h2 h3
  refine Ev.step (λ f=>(show puncheonref01_Bits.l1 (f + 1) _ _ _ _ = _ by simp only [puncheonref01_Bits.l1]; rw [if_neg (by omega),wS i (by omega)])) ?_
  refine Ev.step (λ f=>(show puncheonref01_Bits.l0 (f + 1) _ _ _ = _ by simp only [puncheonref01_Bits.l0]; rw [if_neg (by omega)])) ?_
  rw [show 8 * i + k = 8 * ps.length by omega]; exact Ev.now _
 | succ d ih=>
  intro i k h1 h2 h3
  have c1 : (0 : Int) <= i:=by omega
  have c2 : (i : Int) < (ps.length : Int):=by omega
  have one : ∀ (i k : Nat),8 * i + k + (d + 1) = 8 * ps.length -> i < ps.length -> k < 8 -> Ev (λ f=>puncheonref01_Bits.l1 f ps (a0M ps (8 * i + k)) (i : Int) (k : Int)) (a0M ps (8 * ps.length)):=by
   intro i k h1 h2 h3
   have hx:=hps _ (a1S h2)
   obtain ⟨y,hy⟩ : ∃ y : Nat,ps.getD i 0 = y:=⟨(ps.getD i 0).toNat,by omega⟩
   have hb : bitI ps (8 * i + k) = y / 2 ^ k % 2:=by
    unfold bitI
    rw [show (8 * i + k) / 8 = i by omega,show (8 * i + k) % 8 = k by omega,hy,Int.toNat_natCast]
   have c1 : (0 : Int) <= i:=by omega
   have c2 : (i : Int) < (ps.length : Int):=by omega
   have c3 : (k : Int) < 8:=by omega
   have c4 : (0 : Int) <= k:=by omega
   have c5 : (a0M ps (8 * i + k)).length < 140737488355328:=by rw [a1L]; omega
   refine Ev.step (λ f=>(show puncheonref01_Bits.l1 (f + 1) _ _ _ _ = _ by simp only [puncheonref01_Bits.l1]; rw [if_pos c3,if_pos c1,if_pos c2,if_pos c4,if_pos c5,a0A,hy,c6W y k (by omega) h3,wS k (by omega),<- hb,<- c6V])) ?_
   have:=ih i (k + 1) (by omega) h2 (by omega)
   rw [show 8 * i + (k + 1) = 8 * i + k + 1 by omega] at this
   exact this
  by_cases h4 : k < 8
  · exact one i k h1 h2 h4
  · have h5 : i + 1 < ps.length:=by omega
    have c3 : ((i + 1 : Nat) : Int) < (ps.length : Int):=by omega
    refine Ev.step (λ f=>(show puncheonref01_Bits.l1 (f + 1) _ _ _ _ = _ by simp only [puncheonref01_Bits.l1]; rw [if_neg (by omega),wS i (by omega)])) ?_
    refine Ev.step (λ f=>(show puncheonref01_Bits.l0 (f + 1) _ _ _ = _ by simp only [puncheonref01_Bits.l0]; rw [if_pos c3])) ?_
    have:=one (i + 1) 0 (by omega) h5 (by omega)
    rw [show 8 * (i + 1) + 0 = 8 * i + k by omega] at this
    exact this
theorem b6f (ps : List Int) (hps : ∀ x ∈ ps,0 <= x /\ x < 256) (hl : ps.length <= 1000000) : Ev (λ f=>puncheonref01_Bits.f f ps) (a0M ps (8 * ps.length)):=by
 by_cases h0 : ps.length = 0
 · refine Ev.step (g:=λ f=>puncheonref01_Bits.l0 f ps [] 0) (λ f=>(show puncheonref01_Bits.l0 (f + 1) _ _ _ = _ by simp only [puncheonref01_Bits.l0]; rw [if_neg (by omega)])) ?_
   rw [h0]; exact Ev.now _
 · have c3 : (0 : Int) < (ps.length : Int):=by omega
   refine Ev.step (g:=λ f=>puncheonref01_Bits.l0 f ps [] 0) (λ f=>(show puncheonref01_Bits.l0 (f + 1) _ _ _ = _ by simp only [puncheonref01_Bits.l0]; rw [if_pos c3])) ?_
   exact c6X ps hps hl (8 * ps.length) 0 0 (by omega) (by omega) (by omega)
theorem b6g {ps : List Int} (hps : ∀ x ∈ ps,0 <= x /\ x < 256) (h : ¬ (ps.length = 0 \/ lastB ps = 0)) : a0C ps < 8 * ps.length /\ bitI ps (a0C ps) = 1 /\ ∀ i,a0C ps < i -> i < 8 * ps.length -> bitI ps i = 0:=by
 have hm : lastB ps ∈ ps:=a1S (by omega)
 have hx:=hps _ hm
 obtain ⟨y,hy⟩ : ∃ y : Nat,lastB ps = y:=⟨(lastB ps).toNat,by omega⟩
 obtain ⟨a,b,c⟩:=a2U y (by omega) (by omega)
 have hb8 : Lib.bitLen y <= 8:=by
  have : ¬ 9 <= Lib.bitLen y:=λ e=>by
   have h2 : 2 ^ 8 <= 2 ^ (Lib.bitLen y - 1):=Nat.pow_le_pow_right (by omega) (by omega)
   omega
  omega
 have hbi : ∀ j,j < 8 -> bitI ps (8 * (ps.length - 1) + j) = y / 2 ^ j % 2:=by
  intro j hj
  unfold bitI
  rw [show (8 * (ps.length - 1) + j) / 8 = ps.length - 1 by omega,show (8 * (ps.length - 1) + j) % 8 = j by omega]
  have : ps.getD (ps.length - 1) 0 = (y : Int):=hy
  rw [this,Int.toNat_natCast]
 have hB : a0C ps = 8 * (ps.length - 1) + (Lib.bitLen y - 1):=by unfold a0C; rw [hy,Int.toNat_natCast]; omega
 refine ⟨by omega,?_,λ i h1 h2=>?_⟩
 · rw [hB,hbi _ (by omega)]
   have h3 : y / 2 ^ (Lib.bitLen y - 1) = 1:=by
    rw [Nat.div_eq_iff (Nat.two_pow_pos _)]
    have : 2 ^ Lib.bitLen y = 2 * 2 ^ (Lib.bitLen y - 1):=by rw [<- Nat.pow_succ']; congr 1; omega
    omega
   rw [h3]
 · obtain ⟨j,rfl⟩ : ∃ j,i = 8 * (ps.length - 1) + j:=⟨i - 8 * (ps.length - 1),by omega⟩
   rw [hbi _ (by omega)]
   have h3 : y < 2 ^ j:=Nat.lt_of_lt_of_le (by first | exact b | exact c) (Nat.pow_le_pow_right (by omega) (by omega))
   rw [Nat.div_eq_of_lt h3]
theorem b6h (ps : List Int) (n i : Nat) (h : i < n) : rdOf false (a0M ps n) (i : Int) = decide (bitI ps i = 1):=by
 unfold rdOf a0M
 rw [Int.toNat_natCast,List.getD_eq_getElem?_getD,List.getElem?_map,List.getElem?_range h]; rfl
theorem c6Y {ps : List Int} (hps : ∀ x ∈ ps,0 <= x /\ x < 256) (hl : ps.length <= 1000000) (h : ¬ (ps.length = 0 \/ lastB ps = 0)) : ∀ (d n : Nat),n = a0C ps + d -> n < 8 * ps.length -> Ev (λ f=>puncheonref02_Open.l0 f (a0M ps (8 * ps.length)) (n : Int)) (bitsL ps,0):=by
 obtain ⟨m1,m2,m3⟩:=b6g hps h
 have hlen:=a1L ps (8 * ps.length)
 intro d
 induction d with
 | zero=>
  intro n hn h2
  have hb:=b6h ps _ n h2
  rw [show n = a0C ps by omega] at hb ⊢
  rw [m2] at hb
  have hb' : rdOf false (a0M ps (8 * ps.length)) ((a0C ps : Nat) : Int) = true:=by rw [hb]; decide
  refine Ev.step (λ f=>(show puncheonref02_Open.l0 (f + 1) _ _ = _ by simp only [puncheonref02_Open.l0]; rw [if_pos (by omega),if_pos (by rw [hlen]; omega),if_pos hb',if_pos (by rw [hlen]; omega),Int.toNat_natCast])) ?_
  have e : (a0M ps (8 * ps.length)).take (a0C ps) = bitsL ps:=by
   unfold a0M bitsL
   rw [<- List.map_take,List.take_range,Nat.min_eq_left (by omega)]
  rw [e]; exact Ev.now _
 | succ d ih=>
  intro n hn h2
  have hb:=b6h ps _ n h2
  rw [m3 n (by omega) h2] at hb
  have hb' : ¬ rdOf false (a0M ps (8 * ps.length)) (n : Int) = true:=by rw [hb]; decide
  have e : wrap64 ((n : Int) - 1) = ((n - 1 : Nat) : Int):=by rw [w64 (by omega)]; omega
  refine Ev.step (λ f=>(show puncheonref02_Open.l0 (f + 1) _ _ = _ by simp only [puncheonref02_Open.l0]; rw [if_pos (by omega),if_pos (by rw [hlen]; omega),if_neg hb',e])) ?_
  exact ih (n - 1) (by omega) (by omega)
def openR (ps : List Int) : List Bool × Int:=if ps.length = 0 \/ lastB ps = 0 then ([],2) else (bitsL ps,0)
theorem c6Z (ps : List Int) (hps : ∀ x ∈ ps,0 <= x /\ x < 256) (hl : ps.length <= 1000000) : Ev (λ f=>puncheonref02_Open.f f ps) (openR ps):=by
 have hj : ∀ b : Bool,b = decide (ps.length = 0 \/ lastB ps = 0) -> Ev (λ f=>puncheonref02_Open.j0 f ps b) (openR ps):=by
  intro b hb
  cases b with
  | true=>
   have:=of_decide_eq_true hb.symm
   refine Ev.step (λ f=>(show puncheonref02_Open.j0 (f + 1) _ _ = _ by simp only [puncheonref02_Open.j0]; rw [if_pos trivial])) ?_
   unfold openR; rw [if_pos this]; exact Ev.now _
  | false=>
   have h0:=of_decide_eq_false hb.symm
   refine Ev.step (λ f=>(show puncheonref02_Open.j0 (f + 1) _ _ = _ by simp only [puncheonref02_Open.j0]; rw [if_neg (by decide)])) ?_
   refine Ev.bind (b6f ps hps hl) ?_
   have e : wrap64 (((a0M ps (8 * ps.length)).length : Int) - 1) = ((8 * ps.length - 1 : Nat) : Int):=by rw [a1L,w64 (by omega)]; omega
   refine Ev.congr (f:=λ f=>puncheonref02_Open.l0 f (a0M ps (8 * ps.length)) ((8 * ps.length - 1 : Nat) : Int)) (λ f=>by rw [e]) ?_
   have hm:=(b6g hps h0).1
   unfold openR; rw [if_neg h0]
   exact c6Y hps hl h0 (8 * ps.length - 1 - a0C ps) _ (by omega) (by omega)
 by_cases h0 : ps.length = 0
 · refine Ev.congr (λ f=>(show puncheonref02_Open.f f ps = _ by unfold puncheonref02_Open.f; rw [if_pos (by omega)])) ?_
   exact hj true (by rw [decide_eq_true (.inl h0)])
 · have e : wrap64 ((ps.length : Int) - 1) = ((ps.length - 1 : Nat) : Int):=by rw [w64 (by omega)]; omega
   refine Ev.congr (λ f=>(show puncheonref02_Open.f f ps = _ by unfold puncheonref02_Open.f; rw [if_neg (by omega),e,if_pos (by omega),if_pos (by omega),a0A])) ?_
   refine hj _ ?_
   by_cases h1 : lastB ps = 0
   · rw [decide_eq_true (.inr h1),beq_iff_eq]; exact h1
   · rw [decide_eq_false (λ h=>by rcases h with h | h; exact h0 h; exact h1 h),beq_eq_false_iff_ne]; exact h1
open Go.IntWalk
theorem b6i {w : World} {A : Option Addr} {n : Nat} {xs : List Bool} (h : Kd.bool.C w A n xs) (i : Nat) (hi : i < n) : ∃ ad,A = some ad /\ w.cell? (ad.add i) = some (.bool (xs.getD i false)):=by
 obtain ⟨ad,e,hc⟩:=Kd.at_bool h (i : Int) (by omega) (by omega)
 exact ⟨ad,e,hc⟩
theorem c7a {l : List Bool} {i : Nat} (h : i < l.length) : byteL (l.drop i) = (l.getD i false).toNat + 2 * byteL (l.drop (i + 1)):=by
 rw [List.drop_eq_getElem_cons h,List.getD_eq_getElem?_getD,List.getElem?_eq_getElem h]; rfl
set_option maxRecDepth 100000 in
set_option maxHeartbeats 1000000 in
theorem b6j (A : Option Addr) (m cp : Nat) (l : List Bool) (w : World) (hm : m = l.length) (hr : Kd.bool.C w A m l) (hl : m <= 24) : Calls Tryz.prog 143 #[.slice A m cp] w λ e w'=>e = .returned (.int .u32 (byteL l)) /\ w = w':=by
 have HR:=Lib.hid (And.intro hm hr)
 clear hm hr
 go_enter Tryz.func143,Tryz.ntmps143
 go_wp2_with fail
 go_loop [3,4] (λ vv kv=>∃ (k v : Nat),kv = .int .i64 ((m : Int) - 1 - k) /\ vv = .int .u32 v /\ k <= m /\ Hid (v = byteL (l.drop (m - k)))) (λ _ kv=>((intOf kv) + 1).toNat)
 case atStart=>exact ⟨0,0,by go_num,rfl,by omega,Lib.hid (by rw [Nat.sub_zero,HR.out.1,List.drop_length]; rfl)⟩
 case round=>
  obtain ⟨k,v,rfl,rfl,hk,H⟩:=hrel
  by_cases hlt : k < m
  · obtain ⟨i,hi⟩ : ∃ i,i = m - 1 - k:=⟨_,rfl⟩
    rw [show ((m : Int) - 1 - (k : Int)) = (i : Int) by omega]
    have him : i < m:=by omega
    have hbd:=c7a (l:=l) (i:=i) (by have:=HR.out.1; omega)
    have hv:=a3q (l.drop (m - k))
    rw [<- H.out,List.length_drop] at hv
    have hv2 : 2 ^ (l.length - (m - k)) <= 2 ^ 23:=Nat.pow_le_pow_right (by omega) (by have:=HR.out.1; omega)
    have hv3 : v < 8388608:=by omega
    rw [show i + 1 = m - k by omega,<- H.out] at hbd
    obtain ⟨ad,rfl,hc⟩:=b6i HR.out.2 i him
    obtain ⟨b,hb⟩ : ∃ b,b = l.getD i false:=⟨_,rfl⟩
    rw [<- hb] at hc hbd
    have HN:=Lib.hid (And.intro hbd hi)
    have hiI : (i : Int) < (m : Int):=by omega
    clear hbd hi hv hv2 hb
    cases b
    all_goals
     go_wp2_with fail
     go_round
     case rel=>exact ⟨k + 1,_,by rw [show ((m : Int) - 1 - ((k + 1 : Nat) : Int)) = (i : Int) - 1 by have:=HN.out.2; omega],by first | rfl | go_num,by omega,Lib.hid (by rw [show m - (k + 1) = i by have:=HN.out.2; omega,HN.out.1]; simp; try omega)⟩
     case measure=>first | (simp [intOf]; done) | (simp [intOf]; omega)
  · obtain rfl : k = m:=by omega
    rw [show ((k : Int) - 1 - (k : Int)) = (-1 : Int) by omega]
    go_wp2_with fail
    go_ret
    have h:=H.out
    rw [Nat.sub_self,List.drop_zero] at h
    subst h
    exact ⟨rfl,rfl⟩
theorem a9X : (Tryz.prog.info? 4).map (·.size) = some 1:=by kernel_rfl
set_option maxRecDepth 100000 in
set_option maxHeartbeats 1000000 in
theorem a9Y (A : Option Addr) (m cp n : Nat) (l : List Bool) (w : World) (hm : m = l.length) (hcp : m <= cp) (hr : Kd.bool.C w A m l) (hn : n <= 24) (hl : n <= m) (hm2 : m <= 1000000) : Calls Tryz.prog 93 #[.slice A m cp,.int .i64 n] w (Ret (.tuple #[.slice A (m - n : Nat) cp,.int .u32 (byteL (l.drop (m - n))),.bool true]) w):=by
 obtain ⟨k,hk⟩ : ∃ k,k = m - n:=⟨_,rfl⟩
 rw [<- hk]
 obtain ⟨i0,hi0,hsz⟩:=Option.map_eq_some_iff.1 a9X
 have hcut1 : ∀ W : World,(Instr.slice 42 (.slice A m cp) none (some (.int .i64 (k : Int))) none).run Tryz.prog W = .ok (.slice A k cp) W:=by
  have:=a7D (P:=Tryz.prog) 42 4 .i64 Tryz.underlying42 hi0 A m cp (k : Int) (by omega) (by omega) hcp
  simpa using this
 obtain ⟨A2,hA2⟩ : ∃ A2,A2 = (if cp = k then A else A.map (·.add (k * 1))):=⟨_,rfl⟩
 have hcut2 : ∀ W : World,(Instr.slice 42 (.slice A m cp) (some (.int .i64 (k : Int))) none none).run Tryz.prog W = .ok (.slice A2 n (cp - k)) W:=by
  have:=a5E (P:=Tryz.prog) 42 4 .i64 Tryz.underlying42 hi0 1 hsz A m cp (k : Int) (by omega) (by omega)
  simp only [Int.toNat_natCast] at this
  rw [<- hA2,show m - k = n by omega] at this
  exact this
 have hC : Kd.bool.C w A2 n (l.drop k):=by
  have h2:=Kd.C_drop (c:=cp) (m:=k) (by rw [<- hm]; exact hr) (by omega) (by omega)
  have e : (l.drop k).length = n:=by rw [List.length_drop]; omega
  rw [e] at h2
  rw [hA2]; exact h2
 have HN:=Lib.hid (λ W (h : Below w.heap.size w W)=>b6j A2 n (cp - k) (l.drop k) W (by rw [List.length_drop]; omega) (Kd.C_below hC h) hn)
 have d1 : decide ((n : Int) < 0) = false:=decide_eq_false (by omega)
 have d2 : decide ((24 : Int) < (n : Int)) = false:=decide_eq_false (by omega)
 have d3 : decide ((m : Int) < (n : Int)) = false:=decide_eq_false (by omega)
 have d3n : decide (m < n) = false:=decide_eq_false (by omega)
 have hmk : (m : Int) - (n : Int) = (k : Int):=by omega
 have HX:=Lib.hid (And.intro hm hr)
 have hk0 : (0 : Int) <= k:=by omega
 have hkm : (k : Int) <= (m : Int):=by omega
 have hkc : (k : Int) <= (cp : Int):=by omega
 have hwk : IntKind.i64.wrap (k : Int) = k:=i64_in _ (by omega)
 clear hk hA2 hC hm hr hi0 hsz
 go_enter Tryz.func93,Tryz.ntmps93
 go_wp2_with fail
 go_quiet ((go_at_call 143; refine Calls.quiet_of_same ((HN.out _ (a0b (Below.refl _ _) _)).mono λ e w' h=>⟨h.1,h.2.symm⟩)))
 all_goals
  go_wp2_with fail
  go_ret3
  exact ⟨rfl,by first | exact Below.refl _ _ | exact a0b (Below.refl _ _) _⟩
set_option maxRecDepth 100000 in
set_option maxHeartbeats 1000000 in
theorem a7x (A : Option Addr) (m cp n : Nat) (w : World) (hn : n <= 24) (hl : m < n) : Calls Tryz.prog 93 #[.slice A m cp,.int .i64 n] w (Ret (.tuple #[.slice A m cp,.int .u32 0,.bool false]) w):=by
 have d1 : decide ((n : Int) < 0) = false:=decide_eq_false (by omega)
 have d2 : decide ((24 : Int) < (n : Int)) = false:=decide_eq_false (by omega)
 have d3 : decide ((m : Int) < (n : Int)) = true:=decide_eq_true (by omega)
 have d3n : decide (m < n) = true:=decide_eq_true (by omega)
 go_enter Tryz.func93,Tryz.ntmps93
 go_wp2_with fail
 go_ret3
 exact ⟨rfl,Below.refl _ _⟩
end Go.Proofs.YtipjlneepponpaaGreat
