/- Plain: what the printed references of counts answer (right, total, log). -/
import Derived.Test.YtipjlneepponpaaGreatXM1
import Derived.Test.YtipjlneepponpaaGreatXS1
import Derived.Test.YtipjlneepponpaaGreatXR1
import Derived.Test.YtipjlneepponpaaGreatXM2
import Derived.Test.YtipjlneepponpaaGreatXM0
import Derived.Deep.LoopGhost
import Derived.Laws.Rows
import Derived.Deep.DeepCutAuto
import Derived.Deep.RegionHeld3
namespace Go.Proofs.YtipjlneepponpaaGreat
open Go.RowKit Go.Proofs.YtipjlneepponpaaGreat.PRef Go.Proofs.YtipjlneepponpaaGreatW.PrintWords Go.Proofs.YtipjlneepponpaaGreatW.PrintLast Go.Proofs.YtipjlneepponpaaGreatW.PrintMore
theorem a0E (xs : List Int) (i : Nat) : rd xs (i : Int) = xs.getD i 0:=rfl
theorem wS (i : Nat) (h : i <= 1000000000) : wrap64 ((i : Int) + 1) = ((i + 1 : Nat) : Int):=by rw [w64 (by omega)]; simp
theorem b8a {c : List Int} {i : Nat} (h : i < c.length) {P : Int -> Prop} (h1 : ∀ x ∈ c.take i,P x) (h2 : P (c.getD i 0)) : ∀ x ∈ c.take (i + 1),P x:=by
 intro x hx
 rw [List.take_succ_eq_append_getElem h] at hx
 rcases List.mem_append.1 hx with hx | hx
 · exact h1 x hx
 · rw [List.mem_singleton.1 hx]
   rw [List.getD_eq_getElem?_getD,List.getElem?_eq_getElem h] at h2; exact h2
theorem a2a {c : List Int} {i : Nat} (h : i < c.length) : c.getD i 0 ∈ c:=by
 rw [List.getD_eq_getElem?_getD,List.getElem?_eq_getElem h]; exact List.getElem_mem h
theorem b8b (c : List Int) (hl : c.length = 256) : ∀ (d i : Nat) (s : Int),i + d = 256 -> i <= 256 -> s = (c.take i).sum -> (∀ x ∈ c.take i,0 <= x /\ x <= 1073741824) -> 0 <= s -> s <= i * 1073741824 ->
    Ev (λ k=>puncheonref05_Right.l0 k c s (i : Int)) (a0N c):=by
 intro d
 induction d with
 | zero=>
  intro i s hd hi hs ha h0 h1
  refine Ev.step (λ k=>(show puncheonref05_Right.l0 (k + 1) c s (i : Int) = _ by simp only [puncheonref05_Right.l0]; rw [if_neg (by omega)])) ?_
  rw [List.take_of_length_le (by omega)] at hs ha
  have e : a0N c = decide (s <= 1073741824):=by
   unfold a0N; rw [hs]; exact decide_eq_decide.2 ⟨λ h=>h.2.2,λ h=>⟨hl,λ x hx=>(ha x hx).1,h⟩⟩
  rw [e]; exact Ev.now _
 | succ d ih=>
  intro i s hd hi hs ha h0 h1
  have hlt : i < c.length:=by omega
  have hts:=a3H hlt
  by_cases hn : c.getD i 0 < 0
  · refine Ev.step (λ k=>(show puncheonref05_Right.l0 (k + 1) c s (i : Int) = _ by simp only [puncheonref05_Right.l0]; rw [if_pos (by omega),if_pos (by omega),if_pos (by omega),a0E,if_pos hn])) ?_
    have e : a0N c = false:=by
     rw [<- Bool.not_eq_true,rightC_iff]; intro h
     have:=h.2.1 _ (a2a hlt); omega
    rw [e]; exact Ev.now _
  · by_cases hb : c.getD i 0 > 1073741824
    · refine Ev.step (λ k=>(show puncheonref05_Right.l0 (k + 1) c s (i : Int) = _ by simp only [puncheonref05_Right.l0]; rw [if_pos (by omega),if_pos (by omega),if_pos (by omega),a0E,if_neg hn,if_pos hb])) ?_
      have e : a0N c = false:=by
       rw [<- Bool.not_eq_true,rightC_iff]; intro h
       have:=a5D h.2.1 (a2a hlt); omega
      rw [e]; exact Ev.now _
    · refine Ev.step (λ k=>(show puncheonref05_Right.l0 (k + 1) c s (i : Int) = _ by simp only [puncheonref05_Right.l0]; rw [if_pos (by omega),if_pos (by omega),if_pos (by omega),a0E,if_neg hn,if_neg hb,wS i (by omega),w64 (n:=s + c.getD i 0) (by omega)])) ?_
      exact ih (i + 1) _ (by omega) (by omega) (by rw [hts,hs]) (b8a hlt ha (by omega)) (by omega) (by omega)
theorem b1m (c : List Int) : Ev (λ k=>puncheonref05_Right.f k c) (a0N c):=by
 by_cases hl : c.length = 256
 · refine Ev.congr (λ k=>(show puncheonref05_Right.f k c = _ by unfold puncheonref05_Right.f; rw [if_pos (by omega)])) ?_
   exact b8b c hl 256 0 0 (by omega) (by omega) (by simp) (by simp) (by omega) (by omega)
 · refine Ev.congr (λ k=>(show puncheonref05_Right.f k c = _ by unfold puncheonref05_Right.f; rw [if_neg (by omega)])) ?_
   have e : a0N c = false:=by rw [<- Bool.not_eq_true,rightC_iff]; exact λ h=>hl h.1
   rw [e]; exact Ev.now _
theorem b1n (c : List Int) (hr : a0N c = true) : ∀ (d i : Nat) (s : Int),c.length - i = d -> i <= c.length -> s = (c.take i).sum -> Ev (λ k=>puncheonref05_Total.l0 k c s true (i : Int)) c.sum
 | 0,i,s,hd,hi,hs=>by
  refine Ev.step (λ k=>(show puncheonref05_Total.l0 (k + 1) c s true (i : Int) = _ by simp only [puncheonref05_Total.l0]; rw [if_neg (by omega)])) ?_
  rw [List.take_of_length_le (by omega)] at hs
  rw [<- hs]; exact Ev.now _
 | d + 1,i,s,hd,hi,hs=>by
  have hlt : i < c.length:=by omega
  have hts:=a3H hlt
  have hR:=rightC_iff.1 hr
  have h1:=a7D hR.2.1 (i + 1)
  have h2 : 0 <= (c.take (i + 1)).sum:=a2y (λ x hx=>hR.2.1 x (List.mem_of_mem_take hx))
  refine Ev.step (λ k=>(show puncheonref05_Total.l0 (k + 1) c s true (i : Int) = _ by simp only [puncheonref05_Total.l0]; rw [if_pos (by omega),if_pos trivial,if_pos (by omega),a0E,wS i (by omega),w64 (n:=s + c.getD i 0) (by omega)])) ?_
  exact b1n c hr d (i + 1) _ (by omega) (by omega) (by rw [hts,hs])
theorem b1o (c : List Int) : Ev (λ k=>puncheonref05_Total.f k c) (a0Y c):=by
 unfold puncheonref05_Total.f
 refine Ev.bind (b1m c) ?_
 unfold a0Y
 cases hr : a0N c with
 | true=>rw [if_pos rfl]; exact b1n c hr _ 0 0 rfl (by omega) (by simp)
 | false=>
  rw [if_neg (by decide)]
  refine Ev.step (λ k=>(show puncheonref05_Total.l0 (k + 1) c 0 false 0 = some 0 by simp only [puncheonref05_Total.l0]; split <;> simp)) (Ev.now _)
theorem b1p (r : Nat) (hr : r <= 30) : ∀ (d i : Nat),r - i = d -> i <= r -> Ev (λ k=>puncheonref08_power.l0 k (r : Int) ((2 ^ i : Nat) : Int) (i : Int)) ((2 ^ r : Nat) : Int)
 | 0,i,hd,hi=>by
  obtain rfl : i = r:=by omega
  exact Ev.step (λ k=>(show puncheonref08_power.l0 (k + 1) (i : Int) _ (i : Int) = _ by simp only [puncheonref08_power.l0]; rw [if_neg (by omega)])) (Ev.now _)
 | d + 1,i,hd,hi=>by
  have hp : 2 ^ (i + 1) <= 2 ^ 30:=Nat.pow_le_pow_right (by omega) (by omega)
  have e : (2 : Int) * ((2 ^ i : Nat) : Int) = ((2 ^ (i + 1) : Nat) : Int):=by rw [Nat.pow_succ]; omega
  have e2 : wrap64 ((2 ^ (i + 1) : Nat) : Int) = ((2 ^ (i + 1) : Nat) : Int):=by
   generalize 2 ^ (i + 1) = P at hp ⊢
   exact w64 (by omega)
  refine Ev.step (λ k=>(show puncheonref08_power.l0 (k + 1) (r : Int) _ (i : Int) = _ by simp only [puncheonref08_power.l0]; rw [if_pos (by omega),wS i (by omega),e,e2])) ?_
  exact b1p r hr d (i + 1) (by omega) (by omega)
theorem b1q (r : Nat) (hr : r <= 30) : Ev (λ k=>puncheonref08_power.f k (r : Int)) ((2 ^ r : Nat) : Int):=by
 unfold puncheonref08_power.f; exact b1p r hr r 0 (by omega) (by omega)
theorem b1r (t : Int) : ∀ (d i : Nat),i + d = 13 -> 1 <= i -> i <= 13 -> (∀ r,1 <= r -> r < i -> t ≠ 2 ^ r) -> Ev (λ k=>puncheonref08_Log.l0 k t (i : Int)) ((logT t : Nat) : Int)
 | 0,i,hd,h1,hi,hn=>by
  obtain rfl : i = 13:=by omega
  rw [b1k (λ r a b=>hn r a (by omega))]
  exact Ev.step (λ k=>(show puncheonref08_Log.l0 (k + 1) t ((13 : Nat) : Int) = _ by simp only [puncheonref08_Log.l0]; rw [if_neg (by decide)]; rfl)) (Ev.now _)
 | d + 1,i,hd,h1,hi,hn=>by
  refine Ev.step (λ k=>(show puncheonref08_Log.l0 (k + 1) t (i : Int) = _ by simp only [puncheonref08_Log.l0]; rw [if_pos (by omega)])) ?_
  refine Ev.bind (b1q i (by omega)) ?_
  have e : ((2 ^ i : Nat) : Int) = 2 ^ i:=by simp
  by_cases ht : t = 2 ^ i
  · refine Ev.congr (λ k=>if_pos (by rw [e]; exact ht)) ?_
    rw [a5E h1 (by omega) ht]; exact Ev.now _
  · refine Ev.congr (λ k=>(if_neg (by rw [e]; exact ht)).trans (by rw [wS i (by omega)])) ?_
    refine b1r t d (i + 1) (by omega) (by omega) (by omega) (λ r a b=>?_)
    by_cases hri : r = i
    · rw [hri]; exact ht
    · exact hn r a (by omega)
theorem a5G (c : List Int) : Ev (λ k=>puncheonref08_Log.f k c) ((logC c : Nat) : Int):=by
 unfold puncheonref08_Log.f
 exact Ev.bind (b1o c) (b1r _ 12 1 (by omega) (by omega) (by omega) (λ r a b=>by omega))
theorem c0U (n : Nat) (hn : n <= 64) : ∀ (d i v : Nat) (l : List Bool),i + d = n -> v < 4294967296 -> l.length + d <= 1000000000 -> Ev (λ k=>puncheonref01_Put.l0 k v n l i) (l ++ a0i v d):=by
 intro d
 induction d with
 | zero=>
  intro i v l hi _ _
  refine Ev.step (λ k=>(show puncheonref01_Put.l0 (k + 1) _ _ _ _ = _ by simp only [puncheonref01_Put.l0]; rw [if_neg (by omega)])) ?_
  have : a0i v 0 = []:=rfl
  rw [this,List.append_nil]; exact Ev.now _
 | succ d ih=>
  intro i v l hi hv hl
  have h1 : (i : Int) < (n : Int):=by omega
  have h2 : l.length < 140737488355328:=by omega
  have e1 : (Int.tdiv (v : Int) 2) % 4294967296 = ((v / 2 : Nat) : Int):=by
   rw [Int.tdiv_eq_ediv_of_nonneg (by omega)]
   have : ((v : Int) / 2) = ((v / 2 : Nat) : Int):=by simp
   rw [this]; omega
  have e2 : ((Int.tmod (v : Int) 2) == 1) = decide (v % 2 = 1):=by
   rw [Int.tmod_eq_emod_of_nonneg (by omega)]
   by_cases h : v % 2 = 1
   · rw [decide_eq_true h,beq_iff_eq]; omega
   · rw [decide_eq_false h,beq_eq_false_iff_ne]; omega
  refine Ev.step (λ k=>(show puncheonref01_Put.l0 (k + 1) _ _ _ _ = _ by simp only [puncheonref01_Put.l0]; rw [if_pos h1,if_pos h2,e1,e2,wS i (by omega)])) ?_
  have:=ih (i + 1) (v / 2) (l ++ [decide (v % 2 = 1)]) (by omega) (by omega) (by rw [List.length_append,List.length_singleton]; omega)
  rw [b2H,show l ++ decide (v % 2 = 1) :: a0i (v / 2) d = (l ++ [decide (v % 2 = 1)]) ++ a0i (v / 2) d by simp]
  exact this
theorem c0V (l : List Bool) (v n : Nat) (hn : n <= 64) (hv : v < 4294967296) (hl : l.length <= 1000000) : Ev (λ k=>puncheonref01_Put.f k l v n) (l ++ a0i v n):=by
 have h:=c0U n hn n 0 v l (by omega) hv (by omega)
 refine Ev.congr (λ k=>(show puncheonref01_Put.f k l v n = puncheonref01_Put.l0 k v n ([] ++ l) 0 by unfold puncheonref01_Put.f; rw [Option.bind_some,if_pos (by simp; omega)])) ?_
 rw [List.nil_append]; exact h
def packT (l : List Bool) (i : Nat) : List Int:=(List.range ((l.length + 7) / 8)).map (λ j=>(byteL (((l.take i).drop (8 * j)).take 8) : Int))
theorem a3M (l : List Bool) (i : Nat) : (packT l i).length = (l.length + 7) / 8:=by simp [packT]
theorem a3N (l : List Bool) (i j : Nat) (h : j < (packT l i).length) : (packT l i)[j] = (byteL (((l.take i).drop (8 * j)).take 8) : Int):=by simp [packT]
theorem c0W (l : List Bool) : packT l 0 = List.replicate ((l.length + 7) / 8) 0:=by
 refine List.ext_getElem (by rw [a3M,List.length_replicate]) λ j h1 h2=>?_
 rw [a3N,List.getElem_replicate]; simp [byteL]
theorem c0X (l : List Bool) : packT l l.length = packB l:=by
 unfold packT packB; rw [List.take_length]
theorem a6j {l : List Bool} {i : Nat} (hi : i < l.length) : (((l.take (i + 1)).drop (8 * (i / 8))).take 8) = (((l.take i).drop (8 * (i / 8))).take 8) ++ [l[i]] /\ (((l.take i).drop (8 * (i / 8))).take 8).length = i % 8:=by
 have hl : (l.take i).length = i:=by rw [List.length_take]; omega
 rw [List.take_succ_eq_append_getElem hi,List.drop_append_of_le_length (by omega)]
 have h2 : ((l.take i).drop (8 * (i / 8))).length = i % 8:=by rw [List.length_drop,hl]; omega
 rw [List.take_of_length_le (by rw [List.length_append,h2,List.length_singleton]; omega),List.take_of_length_le (i:=8) (l:=(l.take i).drop (8 * (i / 8))) (by omega)]
 exact ⟨rfl,h2⟩
theorem b2T {l : List Bool} {i j : Nat} (hi : i < l.length) (hj : j ≠ i / 8) : (((l.take (i + 1)).drop (8 * j)).take 8) = (((l.take i).drop (8 * j)).take 8):=by
 have hl : (l.take i).length = i:=by rw [List.length_take]; omega
 rw [List.take_succ_eq_append_getElem hi]
 by_cases h : 8 * j + 8 <= i
 · exact a7S _ _ _ (by omega)
 · rw [List.drop_of_length_le (by rw [List.length_append,hl,List.length_singleton]; omega),List.drop_of_length_le (by omega)]
theorem c0Y {l : List Bool} {i : Nat} (hi : i < l.length) (h : l[i] = false) : packT l (i + 1) = packT l i:=by
 refine List.ext_getElem (by rw [a3M,a3M]) λ j h1 h2=>?_
 rw [a3N,a3N]
 by_cases hj : j = i / 8
 · subst hj
   rw [(a6j hi).1,h,a2T]; simp
 · rw [b2T hi hj]
theorem c0Z {l : List Bool} {i : Nat} (hi : i < l.length) (h : l[i] = true) : packT l (i + 1) = (packT l i).set (i / 8) ((packT l i).getD (i / 8) 0 + 2 ^ (i % 8)):=by
 have hlen : i / 8 < (packT l i).length:=by rw [a3M]; omega
 refine List.ext_getElem (by rw [a3M,List.length_set,a3M]) λ j h1 h2=>?_
 rw [List.getElem_set,a3N]
 by_cases hj : i / 8 = j
 · subst hj
   rw [if_pos rfl,List.getD_eq_getElem?_getD,List.getElem?_eq_getElem hlen,Option.getD_some,a3N,(a6j hi).1,h,a2T,(a6j hi).2]; simp
 · rw [if_neg hj,a3N,b2T hi (λ e=>hj e.symm)]
theorem c1a (l : List Bool) (i j : Nat) (hj : j < (packT l i).length) : 0 <= (packT l i).getD j 0 /\ (packT l i).getD j 0 < 2 ^ ((((l.take i).drop (8 * j)).take 8).length):=by
 rw [List.getD_eq_getElem?_getD,List.getElem?_eq_getElem hj,Option.getD_some,a3N]
 have:=a3J (((l.take i).drop (8 * j)).take 8)
 have e : (2 : Int) ^ ((((l.take i).drop (8 * j)).take 8).length) = ((2 ^ ((((l.take i).drop (8 * j)).take 8).length) : Nat) : Int):=by simp
 rw [e]; omega
theorem c1b (k : Nat) (h : k < 8) : shl .u8 1 (k : Int) = 2 ^ k:=by
 have : k = 0 \/ k = 1 \/ k = 2 \/ k = 3 \/ k = 4 \/ k = 5 \/ k = 6 \/ k = 7:=by omega
 rcases this with rfl | rfl | rfl | rfl | rfl | rfl | rfl | rfl <;> decide
theorem c1c (l : List Bool) (hl : l.length <= 1000000) : ∀ (d i : Nat),i + d = l.length -> Ev (λ k=>puncheonref01_Bytes.l0 k l (packT l i) i) (packB l):=by
 intro d
 induction d with
 | zero=>
  intro i hi
  refine Ev.step (λ k=>(show puncheonref01_Bytes.l0 (k + 1) _ _ _ = _ by simp only [puncheonref01_Bytes.l0]; rw [if_neg (by omega)])) ?_
  rw [show i = l.length by omega,c0X]; exact Ev.now _
 | succ d ih=>
  intro i hi
  have hlt : i < l.length:=by omega
  have c1 : (i : Int) < (l.length : Int):=by omega
  have c2 : (0 : Int) <= i:=by omega
  have ih':=ih (i + 1) (by omega)
  have hr : rdOf false l (i : Int) = l[i]:=by
   unfold rdOf; rw [Int.toNat_natCast,List.getD_eq_getElem?_getD,List.getElem?_eq_getElem hlt]; rfl
  cases hb : l[i] with
  | false=>
   rw [c0Y hlt hb] at ih'
   refine Ev.step (λ k=>(show puncheonref01_Bytes.l0 (k + 1) _ _ _ = _ by simp only [puncheonref01_Bytes.l0]; rw [if_pos c1,if_pos c2,hr,hb,if_neg (by simp),wS i (by omega)])) ?_
   exact ih'
  | true=>
   rw [c0Z hlt hb] at ih'
   have hlen : i / 8 < (packT l i).length:=by rw [a3M]; omega
   have e1 : wrap64 (Int.tdiv (i : Int) 8) = ((i / 8 : Nat) : Int):=by
    rw [Int.tdiv_eq_ediv_of_nonneg (by omega),w64 (by omega)]; simp
   have e2 : Int.tmod (i : Int) 8 = ((i % 8 : Nat) : Int):=by rw [Int.tmod_eq_emod_of_nonneg (by omega)]; simp
   have hrg:=c1a l i (i / 8) hlen
   rw [(a6j hlt).2] at hrg
   have e3 : ((packT l i).getD (i / 8) 0 + 2 ^ (i % 8)) % 256 = (packT l i).getD (i / 8) 0 + 2 ^ (i % 8):=by
    have h1 : (2 : Nat) ^ (i % 8) <= 2 ^ 7:=Nat.pow_le_pow_right (by omega) (by omega)
    have e : (2 : Int) ^ (i % 8) = ((2 ^ (i % 8) : Nat) : Int):=by simp
    rw [e] at hrg ⊢
    omega
   have c3 : (0 : Int) <= ((i / 8 : Nat) : Int):=by omega
   have c4 : ((i / 8 : Nat) : Int) < ((packT l i).length : Int):=by omega
   have c5 : (0 : Int) <= ((i % 8 : Nat) : Int):=by omega
   refine Ev.step (λ k=>(show puncheonref01_Bytes.l0 (k + 1) _ _ _ = _ by simp only [puncheonref01_Bytes.l0]; rw [if_pos c1,if_pos c2,hr,hb,if_pos rfl,e1,e2,if_pos c3,if_pos c4,if_pos c5,a0E,c1b _ (by omega),e3,Int.toNat_natCast,wS i (by omega)])) ?_
   exact ih'
theorem b2U (l : List Bool) (hl : l.length <= 1000000) : Ev (λ k=>puncheonref01_Bytes.f k l) (packB l):=by
 have h:=c1c l hl l.length 0 (by omega)
 rw [c0W] at h
 have e : wrap64 (Int.tdiv (wrap64 ((l.length : Int) + 7)) 8) = (((l.length + 7) / 8 : Nat) : Int):=by
  rw [w64 (n:=(l.length : Int) + 7) (by omega),Int.tdiv_eq_ediv_of_nonneg (by omega),w64 (by omega)]; simp
 have c1 : (0 : Int) <= (((l.length + 7) / 8 : Nat) : Int):=by omega
 have c2 : (((l.length + 7) / 8 : Nat) : Int).toNat <= 281474976710656:=by omega
 refine Ev.congr (λ k=>(show puncheonref01_Bytes.f k l = puncheonref01_Bytes.l0 k l (List.replicate ((l.length + 7) / 8) 0) 0 by unfold puncheonref01_Bytes.f; rw [e,if_pos c1,if_pos c2,Int.toNat_natCast])) ?_
 exact h
theorem c1d (l : List Bool) (hl : l.length <= 100000) : Ev (λ k=>puncheonref01_Close.f k l) (packB (l ++ [true])):=by
 have h:=b2U (l ++ [true]) (by rw [List.length_append,List.length_singleton]; omega)
 refine Ev.congr (f:=λ k=>(puncheonref01_Bytes.f k (l ++ [true])).bind λ t=>some t) (λ k=>?_) ?_
 · unfold puncheonref01_Close.f
   have c1 : ([] : List Bool).length + l.length < 140737488355328:=by simp; omega
   have c2 : ([] ++ l : List Bool).length < 140737488355328:=by simp; omega
   rw [Option.bind_some,if_pos c1,Option.bind_some,if_pos c2,List.nil_append]
 · exact Ev.bind h (Ev.now _)
theorem a8m (qs : List (List Int)) (i : Nat) : rd_L3 qs (i : Int) = qs.getD i []:=rfl
def okQ (lg : Int) (one : Bool) (q : List Int) : Bool:=(decide (q.length = 0) && !one) || decide ((logC q : Int) = lg)
theorem c1e (lg : Int) (one : Bool) (qs : List (List Int)) (hl : qs.length <= 1000000) : ∀ (d i : Nat),i + d = qs.length -> Ev (λ k=>puncheonref16_Right.l0 k (i : Int) lg one qs) ((qs.drop i).all (okQ lg one)):=by
 intro d
 induction d with
 | zero=>
  intro i hi
  refine Ev.step (λ k=>(show puncheonref16_Right.l0 (k + 1) _ _ _ _ = _ by simp only [puncheonref16_Right.l0]; rw [if_neg (by omega)])) ?_
  rw [List.drop_of_length_le (by omega)]; exact Ev.now _
 | succ d ih=>
  intro i hi
  have hlt : i < qs.length:=by omega
  have c1 : (i : Int) < (qs.length : Int):=by omega
  have c2 : (0 : Int) <= i:=by omega
  have hd : qs.drop i = qs.getD i [] :: qs.drop (i + 1):=by rw [List.drop_eq_getElem_cons hlt,List.getD_eq_getElem?_getD,List.getElem?_eq_getElem hlt,Option.getD_some]
  rw [hd,List.all_cons]
  have ih':=ih (i + 1) (by omega)
  have hj : ∀ b : Bool,b = (decide ((qs.getD i []).length = 0) && !one) -> Ev (λ k=>puncheonref16_Right.j2 k (i : Int) b lg one qs) (okQ lg one (qs.getD i []) && (qs.drop (i + 1)).all (okQ lg one)):=by
   intro b hb
   unfold okQ
   rw [<- hb]
   cases b with
   | true=>
    refine Ev.step (λ k=>(show puncheonref16_Right.j2 (k + 1) _ _ _ _ _ = _ by simp only [puncheonref16_Right.j2]; rw [if_pos trivial,wS i (by omega)])) ?_
    rw [Bool.true_or,Bool.true_and]; exact ih'
   | false=>
    refine Ev.step (λ k=>(show puncheonref16_Right.j2 (k + 1) _ _ _ _ _ = _ by simp only [puncheonref16_Right.j2]; rw [if_neg (by decide),if_pos c2,if_pos c1,a8m])) ?_
    refine Ev.bind (a5G _) ?_
    by_cases h : (logC (qs.getD i []) : Int) = lg
    · refine Ev.congr (f:=λ k=>puncheonref16_Right.l0 k ((i + 1 : Nat) : Int) lg one qs) (λ k=>by rw [if_pos h,wS i (by omega)]) ?_
      rw [Bool.false_or,decide_eq_true h,Bool.true_and]; exact ih'
    · refine Ev.congr (f:=λ k=>some false) (λ k=>by rw [if_neg h]) ?_
      rw [Bool.false_or,decide_eq_false h,Bool.false_and]; exact Ev.now _
  by_cases h0 : (qs.getD i []).length = 0
  · refine Ev.step (λ k=>(show puncheonref16_Right.l0 (k + 1) _ _ _ _ = _ by simp only [puncheonref16_Right.l0]; rw [if_pos c1,if_pos c2,a8m,if_pos (by omega)])) ?_
    exact hj (!one) (by rw [decide_eq_true h0,Bool.true_and])
  · refine Ev.step (λ k=>(show puncheonref16_Right.l0 (k + 1) _ _ _ _ = _ by simp only [puncheonref16_Right.l0]; rw [if_pos c1,if_pos c2,a8m,if_neg (by omega)])) ?_
    exact hj false (by rw [decide_eq_false h0,Bool.false_and])
theorem c1f {lg : Int} (h1 : 1 <= lg) (q : List Int) : okQ lg false q = !badQ lg q:=by
 unfold okQ badQ
 by_cases h0 : q.length = 0
 · have h2 : ¬ (0 < q.length /\ ¬ (logC q ≠ 0 /\ (logC q : Int) = lg)):=by omega
   rw [decide_eq_true h0,decide_eq_false h2]; simp
 · rw [decide_eq_false h0,Bool.false_and,Bool.false_or]
   by_cases h : (logC q : Int) = lg
   · have h2 : ¬ (0 < q.length /\ ¬ (logC q ≠ 0 /\ (logC q : Int) = lg)):=by omega
     rw [decide_eq_true h,decide_eq_false h2]; rfl
   · have h2 : (0 < q.length /\ ¬ (logC q ≠ 0 /\ (logC q : Int) = lg)):=by omega
     rw [decide_eq_false h,decide_eq_true h2]; rfl
theorem b2V {lg : Int} {one : Bool} {qs : List (List Int)} (h : 1 <= lg /\ lg <= 12) (hl : qs.length = (if one then 1 else 256)) : qs.all (okQ lg one) = a0u lg one qs:=by
 unfold a0u
 rw [if_neg (by omega)]
 have e : ∀ l : List (List Int),l.all (okQ lg false) = !l.any (badQ lg):=λ l=>by
  induction l with
  | nil=>rfl
  | cons a l ih=>rw [List.all_cons,List.any_cons,ih,c1f h.1,Bool.not_or]
 cases one with
 | false=>
  rw [e]
  cases hb : qs.any (badQ lg) with
  | true=>rfl
  | false=>
   simp only [Bool.false_eq_true,if_false] at hl ⊢
   rw [decide_eq_true hl]; rfl
 | true=>
  simp only [if_true] at hl
  obtain ⟨q,rfl⟩:=List.length_eq_one_iff.1 hl
  simp only [List.all_cons,List.all_nil,List.any_cons,List.any_nil,Bool.and_true,Bool.or_false,List.length_singleton,List.getD_cons_zero,true_and,if_true]
  unfold okQ badQ
  by_cases h0 : q.length = 0
  · have h3:=b2u h0
    have h2 : ¬ (0 < q.length /\ ¬ (logC q ≠ 0 /\ (logC q : Int) = lg)):=by omega
    have h4 : ¬ ((logC q : Int) = lg):=by omega
    have h5 : ¬ (0 < q.length):=by omega
    rw [decide_eq_true h0,Bool.not_true,Bool.and_false,Bool.false_or,decide_eq_false h4,decide_eq_false h2,decide_eq_false h5]; rfl
  · rw [decide_eq_false h0,Bool.false_and,Bool.false_or]
    have h5 : 0 < q.length:=by omega
    by_cases h : (logC q : Int) = lg
    · have h2 : ¬ (0 < q.length /\ ¬ (logC q ≠ 0 /\ (logC q : Int) = lg)):=by omega
      rw [decide_eq_true h,decide_eq_false h2,decide_eq_true h5]; rfl
    · have h2 : (0 < q.length /\ ¬ (logC q ≠ 0 /\ (logC q : Int) = lg)):=by omega
      rw [decide_eq_false h,decide_eq_true h2]; rfl
theorem c1g (lg : Int) (one : Bool) (qs : List (List Int)) (hl : qs.length <= 1000000) : Ev (λ k=>puncheonref16_Right.f k lg one qs) (a0u lg one qs):=by
 have hj : ∀ b : Bool,(b = true -> a0u lg one qs = false) -> (b = false -> qs.all (okQ lg one) = a0u lg one qs) -> Ev (λ k=>puncheonref16_Right.j0 k b lg one qs) (a0u lg one qs):=by
  intro b h1 h2
  cases b with
  | true=>
   refine Ev.step (λ k=>(show puncheonref16_Right.j0 (k + 1) _ _ _ _ = _ by simp only [puncheonref16_Right.j0]; rw [if_pos trivial])) ?_
   rw [h1 rfl]; exact Ev.now _
  | false=>
   refine Ev.step (λ k=>(show puncheonref16_Right.j0 (k + 1) _ _ _ _ = _ by simp only [puncheonref16_Right.j0]; rw [if_neg (by decide)])) ?_
   have:=c1e lg one qs hl qs.length 0 (by omega)
   rw [List.drop_zero,h2 rfl] at this
   exact this
 by_cases h1 : lg < 1
 · refine Ev.congr (λ k=>(show puncheonref16_Right.f k lg one qs = _ by unfold puncheonref16_Right.f; rw [if_pos h1])) ?_
   exact hj true (λ _=>by unfold a0u; rw [if_pos (.inl h1)]) (λ h=>by cases h)
 · by_cases h2 : lg > 12
   · refine Ev.congr (λ k=>(show puncheonref16_Right.f k lg one qs = _ by unfold puncheonref16_Right.f; rw [if_neg h1,if_pos h2])) ?_
     exact hj true (λ _=>by unfold a0u; rw [if_pos (.inr h2)]) (λ h=>by cases h)
   · have no : qs.length ≠ (if one then 1 else 256) -> a0u lg one qs = false:=λ hne=>by
       cases hr : a0u lg one qs with
       | false=>rfl
       | true=>exact absurd (a1O hr).2.2.1 hne
     cases one with
     | true=>
      by_cases h3 : (qs.length : Int) = 1
      · refine Ev.congr (λ k=>(show puncheonref16_Right.f k lg true qs = _ by unfold puncheonref16_Right.f; rw [if_neg h1,if_neg h2,if_pos rfl,if_pos h3])) ?_
        exact hj false (λ h=>by cases h) (λ _=>b2V (by omega) (by simp only [if_true]; omega))
      · refine Ev.congr (λ k=>(show puncheonref16_Right.f k lg true qs = _ by unfold puncheonref16_Right.f; rw [if_neg h1,if_neg h2,if_pos rfl,if_neg h3])) ?_
        exact hj true (λ _=>no (by simp only [if_true]; omega)) (λ h=>by cases h)
     | false=>
      refine Ev.congr (λ k=>(show puncheonref16_Right.f k lg false qs = _ by unfold puncheonref16_Right.f; rw [if_neg h1,if_neg h2,if_neg (by decide)])) ?_
      by_cases h3 : (qs.length : Int) = 256
      · have e : ((qs.length : Int) != 256) = false:=by simp; omega
        rw [e]
        exact hj false (λ h=>by cases h) (λ _=>b2V (by omega) (by simp only [Bool.false_eq_true,if_false]; omega))
      · have e : ((qs.length : Int) != 256) = true:=by simp; omega
        rw [e]
        exact hj true (λ _=>no (by simp only [Bool.false_eq_true,if_false]; omega)) (λ h=>by cases h)
section
variable (A : Option Addr) (c : Nat) (w : World)
theorem c1h (lg : Int) (one : Bool) (qs : List (List Int)) (hr : kq.C w A qs.length qs) (hc : qs.length <= c) (hl : qs.length <= 1000000) : Calls Tryz.prog 91 #[.agg #[.int .i64 lg,.bool one,.slice A qs.length c]] w (Ret (.bool (a0u lg one qs)) w):=by
 obtain ⟨k,hk⟩:=(c1g lg one qs hl).rounds
 exact puncheonref16_Right.calls k lg one A c qs _ w hr hc hk
end
def mapR (f : Nat -> Int) : List Int:=(List.range 256).map f
theorem a1s (f : Nat -> Int) : (mapR f).length = 256:=by simp [mapR]
theorem a3O (f : Nat -> Int) {v : Nat} (h : v < 256) : (mapR f).getD v 0 = f v:=by
 unfold mapR; rw [List.getD_eq_getElem?_getD,List.getElem?_map,List.getElem?_range h]; rfl
theorem a2V {f g : Nat -> Int} (h : ∀ v,v < 256 -> f v = g v) : mapR f = mapR g:=by
 unfold mapR; exact List.map_congr_left (λ v hv=>h v (List.mem_range.1 hv))
theorem a6k (f : Nat -> Int) {v : Nat} (_ : v < 256) (y : Int) : (mapR f).set v y = mapR (λ u=>if u = v then y else f u):=by
 apply List.ext_getElem
 · simp [mapR]
 · intro i h1 h2
   rw [List.getElem_set]
   simp only [mapR,List.getElem_map,List.getElem_range]
   by_cases e : v = i
   · rw [if_pos e,if_pos e.symm]
   · rw [if_neg e,if_neg (λ x=>e x.symm)]
theorem a6l {f : Nat -> Int} {x : Int} (h : x ∈ mapR f) : ∃ v,v < 256 /\ x = f v:=by
 unfold mapR at h
 obtain ⟨v,hv,rfl⟩:=List.mem_map.1 h
 exact ⟨v,List.mem_range.1 hv,rfl⟩
def histL (b : List Int) : List Int:=mapR (λ v=>(b.count (v : Int) : Int))
def posC (c : List Int) (k : Nat) : Nat:=(c.take k).countP (λ x=>decide (0 < x))
def manyC (c : List Int) : Nat:=if a0N c then c.countP (λ x=>decide (0 < x)) else 0
theorem a6m (c : List Int) (i : Nat) (h : i < c.length) : posC c (i + 1) = posC c i + (if 0 < c.getD i 0 then 1 else 0):=by
 unfold posC
 rw [List.take_succ_eq_append_getElem h,List.countP_append,List.getD_eq_getElem?_getD,List.getElem?_eq_getElem h,Option.getD_some]
 congr 1
 by_cases e : 0 < c[i] <;> simp [e]
theorem c1l (c : List Int) (i : Nat) : posC c i <= i:=by
 unfold posC; have:=List.countP_le_length (p:=λ x=>decide (0 < x)) (l:=c.take i); rw [List.length_take] at this; omega
theorem c1m (c : List Int) (hl : c.length <= 1000000) : ∀ (d i : Nat),i + d = c.length -> Ev (λ k=>puncheonref05_Many.l0 k c (posC c i : Int) true (i : Int)) ((c.countP (λ x=>decide (0 < x)) : Nat) : Int):=by
 intro d
 induction d with
 | zero=>
  intro i hi
  refine Ev.step (λ k=>(show puncheonref05_Many.l0 (k + 1) c _ true (i : Int) = _ by simp only [puncheonref05_Many.l0]; rw [if_neg (by omega)])) ?_
  refine Ev.step (λ k=>(show puncheonref05_Many.j1 (k + 1) c _ true (i : Int) false = _ by simp only [puncheonref05_Many.j1]; rw [if_neg (by decide)])) ?_
  have e : posC c i = c.countP (λ x=>decide (0 < x)):=by unfold posC; rw [List.take_of_length_le (by omega)]
  rw [e]; exact Ev.now _
 | succ d ih=>
  intro i hi
  have hlt : i < c.length:=by omega
  have hs:=a6m c i hlt
  have hle:=c1l c i
  refine Ev.step (λ k=>(show puncheonref05_Many.l0 (k + 1) c _ true (i : Int) = _ by simp only [puncheonref05_Many.l0]; rw [if_pos (by omega)])) ?_
  by_cases e : c.getD i 0 > 0
  · refine Ev.step (λ k=>(show puncheonref05_Many.j1 (k + 1) c _ true (i : Int) true = _ by simp only [puncheonref05_Many.j1]; rw [if_pos trivial,if_pos (by omega),if_pos (by omega),a0E,if_pos e,wS i (by omega),wS (posC c i) (by omega)])) ?_
    rw [if_pos (by omega)] at hs
    rw [<- hs]; exact ih (i + 1) (by omega)
  · refine Ev.step (λ k=>(show puncheonref05_Many.j1 (k + 1) c _ true (i : Int) true = _ by simp only [puncheonref05_Many.j1]; rw [if_pos trivial,if_pos (by omega),if_pos (by omega),a0E,if_neg e,wS i (by omega)])) ?_
    rw [if_neg (by omega)] at hs
    have:=ih (i + 1) (by omega)
    rw [hs] at this; exact this
theorem b2X (c : List Int) (hl : c.length <= 1000000) : Ev (λ k=>puncheonref05_Many.f k c) ((manyC c : Nat) : Int):=by
 unfold puncheonref05_Many.f
 refine Ev.bind (b1m c) ?_
 unfold manyC
 cases hr : a0N c with
 | true=>rw [if_pos rfl]; exact c1m c hl c.length 0 (by omega)
 | false=>
  rw [if_neg (by decide)]
  by_cases h : (0 : Int) < (c.length : Int)
  · refine Ev.step (λ k=>(show puncheonref05_Many.l0 (k + 1) c 0 false 0 = _ by simp only [puncheonref05_Many.l0]; rw [if_pos h])) ?_
    exact Ev.step (λ k=>(show puncheonref05_Many.j1 (k + 1) c 0 false 0 false = some 0 by simp [puncheonref05_Many.j1])) (Ev.now _)
  · refine Ev.step (λ k=>(show puncheonref05_Many.l0 (k + 1) c 0 false 0 = _ by simp only [puncheonref05_Many.l0]; rw [if_neg h])) ?_
    exact Ev.step (λ k=>(show puncheonref05_Many.j1 (k + 1) c 0 false 0 false = some 0 by simp [puncheonref05_Many.j1])) (Ev.now _)
theorem a8n (b : List Int) (hb : Bytes b) (hl : b.length <= 1000000) (i : Int) : puncheonref06_At.f b i = some (ctxI b i):=by
 unfold puncheonref06_At.f ctxI
 by_cases h1 : i < 0
 · rw [if_pos h1,if_pos (.inl h1)]
 · by_cases h2 : i >= (b.length : Int)
   · rw [if_neg h1,if_pos h2,if_pos (.inr h2)]
   · rw [if_neg h1,if_neg h2,if_neg (by omega)]
     simp only [Option.bind_some]
     rw [if_pos (by simp; omega),if_pos (by omega),if_pos (by simp; omega)]
     have hw : ∀ x : Int,0 <= x /\ x < 256 -> wrap64 x = x:=λ x hx=>w64 (by omega)
     by_cases h3 : i = 0
     · subst h3; rw [if_pos rfl]; exact congrArg some (hw 0 (by decide))
     · rw [if_neg h3]
       have e : rd ([0] ++ b) i = b.getD (i - 1).toNat 0:=by
        unfold rd
        rw [show i.toNat = (i - 1).toNat + 1 by omega]; rfl
       rw [e,hw _ (hb.get _)]
end Go.Proofs.YtipjlneepponpaaGreat
namespace Go.Proofs.YtipjlneepponpaaGreat
def symP (s : Int) (x : K3) : Bool:=decide (x.2.2 = s)
theorem b2Y (l : List Int) (s : Int) : ∀ k,k <= l.length -> (posN l s k).length = (l.take k).countP (λ x=>decide (x = s)):=by
 intro k
 induction k with
 | zero=>intro _; simp [a7O]
 | succ k ih=>
  intro h
  have e : l.getD k (-1) = l[k]:=by rw [List.getD_eq_getElem?_getD,List.getElem?_eq_getElem (by omega),Option.getD_some]
  rw [List.take_succ_eq_append_getElem (by omega),List.countP_append]
  by_cases h1 : l.getD k (-1) = s
  · rw [a2p h1,List.length_append,ih (by omega)]; rw [e] at h1; simp [h1]
  · rw [a3l h1,ih (by omega)]; rw [e] at h1; simp [h1]
theorem b2Z (l : List Int) (s : Int) : ∀ (k d : Nat),d < (posN l s k).length -> ∃ P : Nat,(posN l s k).getD d 0 = P /\ P < k /\ l.getD P (-1) = s /\ (posN l s P).length = d:=by
 intro k
 induction k with
 | zero=>intro d h; simp [a7O] at h
 | succ k ih=>
  intro d h
  by_cases h1 : l.getD k (-1) = s
  · rw [a2p h1] at h ⊢
    by_cases h2 : d < (posN l s k).length
    · obtain ⟨P,e1,e2,e3,e4⟩:=ih d h2
      refine ⟨P,?_,by omega,e3,e4⟩
      rw [<- e1,List.getD_eq_getElem?_getD,List.getElem?_append_left h2,<- List.getD_eq_getElem?_getD]
    · rw [List.length_append,List.length_singleton] at h
      have hd : d = (posN l s k).length:=by omega
      refine ⟨k,?_,by omega,h1,hd.symm⟩
      rw [List.getD_eq_getElem?_getD,hd,List.getElem?_append_right (Nat.le_refl _)]; simp
  · rw [a3l h1] at h ⊢
    obtain ⟨P,e1,e2,e3,e4⟩:=ih d h
    exact ⟨P,e1,by omega,e3,e4⟩
open Go.RowKit
theorem b3b (q : List Int) : (a0z q).Nodup:=by
 have h : ∀ k,k <= q.length -> (a0z (q.take k)).Nodup /\ ∀ x ∈ a0z (q.take k),x.2.2 < (k : Int):=by
  intro k
  induction k with
  | zero=>intro _; simp [a0z]
  | succ k ih=>
   intro hk
   obtain ⟨h1,h2⟩:=ih (by omega)
   rw [a2O (by omega)]
   have h3 : ∀ x ∈ a0V (q.getD k 0) k,x.2.2 = (k : Int):=λ x hx=>by
    unfold a0V at hx
    rw [List.mem_map] at hx
    obtain ⟨d,_,rfl⟩:=hx; rfl
   refine ⟨List.nodup_append.2 ⟨h1,?_,?_⟩,?_⟩
   · unfold a0V
     unfold List.Nodup
     rw [List.pairwise_map]
     have h4 : (List.range (q.getD k 0).toNat).Pairwise (· ≠ ·):=List.nodup_range
     refine h4.imp ?_
     intro a b hne e
     have:=congrArg Prod.fst e
     simp only at this
     omega
   · intro a ha b hb e
     have:=h2 a ha
     have:=h3 b hb
     rw [e] at *
     omega
   · intro x hx
     rcases List.mem_append.1 hx with h | h
     · have:=h2 x h; omega
     · have:=h3 x h; omega
 have:=(h q.length (Nat.le_refl _)).1
 rw [List.take_length] at this; exact this
theorem c1w {q : List Int} (hq : Good q) {P : Nat} (hP : P < (a0q q).length) : (a0z q).countP (λ x=>lessK x (a0q q)[P]) = P:=by
 have hperm:=a2P hq
 have hsort:=a5O hq
 have hnd : (a0q q).Nodup:=hperm.nodup_iff.2 (b3b q)
 have hgood : ∀ x ∈ a0q q,GK x:=λ x hx=>a3i hq x (hperm.mem_iff.1 hx)
 rw [<- hperm.countP_eq,show (a0q q).countP (λ x=>lessK x (a0q q)[P]) = ((a0q q).take P ++ (a0q q).drop P).countP (λ x=>lessK x (a0q q)[P]) by rw [List.take_append_drop],List.countP_append]
 have h1 : ((a0q q).take P).countP (λ x=>lessK x (a0q q)[P]) = ((a0q q).take P).length:=by
  rw [List.countP_eq_length]
  intro x hx
  rw [List.mem_take_iff_getElem] at hx
  obtain ⟨i,hi,rfl⟩:=hx
  have hle : leK (a0q q)[i] (a0q q)[P]:=List.pairwise_iff_getElem.1 hsort i P (by omega) hP (by omega)
  cases h : lessK (a0q q)[i] (a0q q)[P] with
  | true=>rfl
  | false=>
   have he:=b1M hq (hperm.mem_iff.1 (List.getElem_mem (by omega : i < (a0q q).length))) (hperm.mem_iff.1 (List.getElem_mem hP)) hle h
   have:=(List.getElem_inj (i:=i) (j:=P) (h₀:=by omega) (h₁:=hP) hnd).1 he
   omega
 have h2 : ((a0q q).drop P).countP (λ x=>lessK x (a0q q)[P]) = 0:=by
  rw [List.countP_eq_zero]
  intro x hx
  rw [List.mem_drop_iff_getElem] at hx
  obtain ⟨i,hi,rfl⟩:=hx
  by_cases h0 : i = 0
  · subst h0
    have:=a5L (hgood _ (List.getElem_mem hP))
    unfold leK at this
    simp only [Nat.add_zero]
    rw [this]; simp
  · have : leK (a0q q)[P] (a0q q)[P + i]:=List.pairwise_iff_getElem.1 hsort P (P + i) hP (by omega) (by omega)
    unfold leK at this
    rw [this]; simp
 rw [h1,h2,List.length_take]; omega
def lowS (c : Int) (s e : Nat) (x : K3) : Bool:=decide (x.2.2 = (s : Int) /\ x.1 < c + e)
theorem c1x (e N : Nat) (h : e <= N) : (List.range N).countP (λ j=>decide (j < e)) = e:=by
 induction N with
 | zero=>simp; omega
 | succ N ih=>
  rw [List.range_succ,List.countP_append]
  by_cases h2 : e <= N
  · rw [ih h2]; simp; omega
  · have : e = N + 1:=by omega
    subst this
    have h3 : (List.range N).countP (λ j=>decide (j < N + 1)) = (List.range N).length:=by
     rw [List.countP_eq_length]; intro x hx; rw [List.mem_range] at hx; simp; omega
    rw [h3]; simp
theorem c1y {q : List Int} {s e : Nat} (hs : s < q.length) (he : (e : Int) <= q.getD s 0) : (a0z q).countP (lowS (q.getD s 0) s e) = e:=by
 have h : ∀ k,k <= q.length -> (a0z (q.take k)).countP (lowS (q.getD s 0) s e) = if s < k then e else 0:=by
  intro k
  induction k with
  | zero=>intro _; simp [a0z]
  | succ k ih=>
   intro hk
   rw [a2O (by omega),List.countP_append,ih (by omega)]
   by_cases hsk : s = k
   · subst hsk
     rw [if_neg (by omega),if_pos (by omega)]
     unfold a0V
     rw [List.countP_map]
     have : (lowS (q.getD s 0) s e ∘ λ (d : Nat)=>((q.getD s 0 + (d : Int),q.getD s 0,(s : Int)) : K3)) = λ j=>decide (j < e):=by
      funext j; unfold lowS; simp [Function.comp]
     rw [this,c1x _ _ (by omega)]; omega
   · have h0 : (a0V (q.getD k 0) k).countP (lowS (q.getD s 0) s e) = 0:=by
       rw [List.countP_eq_zero]
       intro x hx
       unfold a0V at hx
       rw [List.mem_map] at hx
       obtain ⟨d,_,rfl⟩:=hx
       unfold lowS
       simp; omega
     rw [h0]
     by_cases h1 : s < k
     · rw [if_pos h1,if_pos (by omega),Nat.add_zero]
     · rw [if_neg h1,if_neg (by omega)]
 have:=h q.length (Nat.le_refl _)
 rw [List.take_length,if_pos hs] at this; exact this
theorem c1z {q : List Int} (hq : Good q) {s d : Nat} (hs : s < 256) (hd : (d : Int) < q.getD s 0) : ∃ P : Nat,(a1j q s).getD d 0 = P /\ ∃ h : P < (a0q q).length,(a0q q)[P] = (q.getD s 0 + d,q.getD s 0,(s : Int)):=by
 have hc:=a2z hq s
 have hlen : (posN (symsL q) s (symsL q).length).length = cntC q s:=rfl
 obtain ⟨P,e1,e2,e3,e4⟩:=b2Z (symsL q) s (symsL q).length d (by omega)
 have hsl : s < q.length:=by rw [hq.len]; exact hs
 have hP : P < (a0q q).length:=by unfold symsL at e2; rw [List.length_map] at e2; exact e2
 have hperm:=a2P hq
 have hsort:=a5O hq
 have hnd : (a0q q).Nodup:=hperm.nodup_iff.2 (b3b q)
 obtain ⟨t,e,ht,he,hx⟩:=mem_allKeys.1 (hperm.mem_iff.1 (List.getElem_mem hP))
 have hsy : (symsL q).getD P (-1) = (a0q q)[P].2.2:=by
  unfold symsL; rw [List.getD_eq_getElem?_getD,List.getElem?_map,List.getElem?_eq_getElem hP]; rfl
 rw [hsy,hx] at e3
 have hts : t = s:=Int.ofNat.inj e3
 subst hts
 refine ⟨P,e1,hP,?_⟩
 rw [hx]
 have hgood : ∀ x ∈ a0q q,GK x:=λ x hx=>a3i hq x (hperm.mem_iff.1 hx)
 have hdc : d = ((a0q q).take P).countP (symP t):=by
  rw [<- e4,b2Y _ _ _ (by omega)]
  unfold symsL
  rw [<- List.map_take,List.countP_map]; rfl
 have h1:=c1y hsl (e:=e) (by omega)
 rw [<- hperm.countP_eq,<- List.take_append_drop P (a0q q),List.countP_append] at h1
 have hkey:=hgood _ (List.getElem_mem hP)
 have h2 : ((a0q q).drop P).countP (lowS (q.getD t 0) t e) = 0:=by
  rw [List.countP_eq_zero]
  intro x hx'
  rw [List.mem_drop_iff_getElem] at hx'
  obtain ⟨i,hi,rfl⟩:=hx'
  have h3 : leK (a0q q)[P] (a0q q)[P + i]:=by
   by_cases h0 : i = 0
   · subst h0; exact a5L hkey
   · exact List.pairwise_iff_getElem.1 hsort P (P + i) hP (by omega) (by omega)
  have h4:=(a2b (hgood _ (List.getElem_mem _)) hkey).1 h3
  obtain ⟨t',f,_,hf,hxe⟩:=mem_allKeys.1 (hperm.mem_iff.1 (List.getElem_mem (by omega : P + i < (a0q q).length)))
  unfold lowS
  simp only [decide_eq_true_eq]
  rintro ⟨h5,h6⟩
  rw [hxe] at h5 h6 h4
  rw [hx] at h4
  have ht' : t' = t:=Int.ofNat.inj h5
  subst ht'
  simp only at h4 h6
  have h7 : (q.getD t' 0 + e) * q.getD t' 0 <= (q.getD t' 0 + f) * q.getD t' 0:=by omega
  have:=Int.le_of_mul_le_mul_right h7 (by omega)
  omega
 have h3 : ((a0q q).take P).countP (lowS (q.getD t 0) t e) = ((a0q q).take P).countP (symP t):=by
  refine List.countP_congr (λ x hx'=>?_)
  rw [List.mem_take_iff_getElem] at hx'
  obtain ⟨i,hi,rfl⟩:=hx'
  have hle : leK (a0q q)[i] (a0q q)[P]:=List.pairwise_iff_getElem.1 hsort i P (by omega) hP (by omega)
  have h4:=(a2b hkey (hgood _ (List.getElem_mem (by omega : i < (a0q q).length)))).1 hle
  obtain ⟨t',f,_,hf,hxe⟩:=mem_allKeys.1 (hperm.mem_iff.1 (List.getElem_mem (by omega : i < (a0q q).length)))
  have hne : (a0q q)[i] ≠ (a0q q)[P]:=λ he=>by
   have:=(List.getElem_inj (i:=i) (j:=P) (h₀:=by omega) (h₁:=hP) hnd).1 he
   omega
  unfold lowS symP
  simp only [decide_eq_true_eq]
  constructor
  · exact λ h=>h.1
  · intro h5
    refine ⟨h5,?_⟩
    rw [hxe] at h5 h4 hne ⊢
    rw [hx] at h4 hne
    have ht' : t' = t:=Int.ofNat.inj h5
    subst ht'
    simp only at h4 ⊢
    have h7 : (q.getD t' 0 + f) * q.getD t' 0 <= (q.getD t' 0 + e) * q.getD t' 0:=by omega
    have:=Int.le_of_mul_le_mul_right h7 (by omega)
    have hfe : f ≠ e:=λ h=>hne (by rw [h])
    omega
 have hde : d = e:=by omega
 rw [hde]
open Go.Proofs.YtipjlneepponpaaGreat.PRef Go.Proofs.YtipjlneepponpaaGreatW.PrintWords Go.Proofs.YtipjlneepponpaaGreatW.PrintLast Go.Proofs.YtipjlneepponpaaGreatW.PrintMore
def lessN (n : Int) (t : Nat) (x : K3) (d : Nat) : Nat:=(List.range d).countP (λ (j : Nat)=>lessK (n + j,n,(t : Int)) x)
theorem c1A (n : Int) (t : Nat) (x : K3) (d : Nat) : lessN n t x (d + 1) = lessN n t x d + (if lessK (n + d,n,(t : Int)) x = true then 1 else 0):=by
 unfold lessN; rw [List.range_succ,List.countP_append]; simp [List.countP_singleton]
theorem c1B (n : Int) (t : Nat) (x : K3) (d : Nat) : lessN n t x d <= d:=by
 unfold lessN
 have:=List.countP_le_length (p:=λ (j : Nat)=>lessK (n + j,n,(t : Int)) x) (l:=List.range d)
 rw [List.length_range] at this; exact this
theorem c1C {q : List Int} (hq : Good q) {t s : Nat} (ht : t < 256) (hs : s < 256) {i : Int} (hc : 0 < q.getD s 0) (hi : q.getD s 0 <= i /\ i < 2 * q.getD s 0) : ∀ (r d : Nat),(d + r : Int) = q.getD t 0 -> Ev (λ k=>puncheonref10_less.l0 k q t s i (lessN (q.getD t 0) t (i,q.getD s 0,(s : Int)) d : Nat) (q.getD t 0 + d)) (lessN (q.getD t 0) t (i,q.getD s 0,(s : Int)) (q.getD t 0).toNat : Nat):=by
 have hl:=hq.len
 have g1:=hq.get t
 have g2:=hq.get s
 have c1 : (0 : Int) <= t:=by omega
 have c2 : (t : Int) < (q.length : Int):=by omega
 have c3 : (0 : Int) <= s:=by omega
 have c4 : (s : Int) < (q.length : Int):=by omega
 obtain ⟨n,hn⟩ : ∃ n,n = q.getD t 0:=⟨_,rfl⟩
 obtain ⟨c,hcc⟩ : ∃ c,c = q.getD s 0:=⟨_,rfl⟩
 rw [<- hn] at g1 ⊢
 rw [<- hcc] at g2 hc hi ⊢
 intro r
 induction r with
 | zero=>
  intro d hd
  refine Ev.step (λ k=>(show puncheonref10_less.l0 (k + 1) q t s i _ _ = _ by simp only [puncheonref10_less.l0]; rw [if_pos c1,if_pos c2,a0E,<- hn,w64 (n:=2 * n) (by omega),if_neg (by omega)])) ?_
  rw [show n.toNat = d by omega]; exact Ev.now _
 | succ r ih=>
  intro d hd
  have hk : GK (n + d,n,(t : Int)):=rightB_iff.2 (by simp only []; omega)
  have hx : GK (i,c,(s : Int)):=rightB_iff.2 (by simp only []; omega)
  have m1:=a7K (x:=n + d) (y:=c) (by omega) (by omega) (by omega) (by omega)
  have m2:=a7K (x:=i) (y:=n) (by omega) (by omega) (by omega) (by omega)
  have hlt : n + (d : Int) < 2 * n:=by omega
  have w1 : wrap64 ((n + (d : Int)) * c) = (n + d) * c:=w64 (by omega)
  have w2 : wrap64 (i * n) = i * n:=w64 (by omega)
  have w3 : wrap64 (n + (d : Int) + 1) = n + ((d + 1 : Nat) : Int):=by rw [w64 (by omega)]; omega
  have hle:=c1B n t (i,c,(s : Int)) d
  have w4 : wrap64 (((lessN n t (i,c,(s : Int)) d : Nat) : Int) + 1) = ((lessN n t (i,c,(s : Int)) d + 1 : Nat) : Int):=wS _ (by omega)
  have hiff:=a7L hk hx
  simp only at hiff
  have ih':=ih (d + 1) (by omega)
  rw [c1A] at ih'
  by_cases e1 : (n + (d : Int)) * c < i * n
  · refine Ev.step (λ k=>(show puncheonref10_less.l0 (k + 1) q t s i _ _ = _ by simp only [puncheonref10_less.l0]; rw [if_pos c1,if_pos c2,a0E,<- hn,w64 (n:=2 * n) (by omega),if_pos hlt,if_pos c3,if_pos c4,a0E,<- hcc,w1,w2,if_pos e1,w3,w4])) ?_
    rw [if_pos (hiff.2 (.inl e1))] at ih'; exact ih'
  · by_cases e2 : (n + (d : Int)) * c = i * n
    · by_cases e3 : (t : Int) < s
      · refine Ev.step (λ k=>(show puncheonref10_less.l0 (k + 1) q t s i _ _ = _ by simp only [puncheonref10_less.l0]; rw [if_pos c1,if_pos c2,a0E,<- hn,w64 (n:=2 * n) (by omega),if_pos hlt,if_pos c3,if_pos c4,a0E,<- hcc,w1,w2,if_neg e1,if_pos e2,if_pos e3,w3,w4])) ?_
        rw [if_pos (hiff.2 (.inr ⟨e2,e3⟩))] at ih'; exact ih'
      · refine Ev.step (λ k=>(show puncheonref10_less.l0 (k + 1) q t s i _ _ = _ by simp only [puncheonref10_less.l0]; rw [if_pos c1,if_pos c2,a0E,<- hn,w64 (n:=2 * n) (by omega),if_pos hlt,if_pos c3,if_pos c4,a0E,<- hcc,w1,w2,if_neg e1,if_pos e2,if_neg e3,w3])) ?_
        rw [if_neg (λ h=>by rcases hiff.1 h with h | h; exact e1 h; exact e3 h.2)] at ih'; exact ih'
    · refine Ev.step (λ k=>(show puncheonref10_less.l0 (k + 1) q t s i _ _ = _ by simp only [puncheonref10_less.l0]; rw [if_pos c1,if_pos c2,a0E,<- hn,w64 (n:=2 * n) (by omega),if_pos hlt,if_pos c3,if_pos c4,a0E,<- hcc,w1,w2,if_neg e1,if_neg e2,w3])) ?_
      rw [if_neg (λ h=>by rcases hiff.1 h with h | h; exact e1 h; exact e2 h.1)] at ih'; exact ih'
theorem c1D {q : List Int} (hq : Good q) {t s : Nat} (ht : t < 256) (hs : s < 256) {i : Int} (hc : 0 < q.getD s 0) (hi : q.getD s 0 <= i /\ i < 2 * q.getD s 0) : Ev (λ k=>puncheonref10_less.f k q t s i) (lessN (q.getD t 0) t (i,q.getD s 0,(s : Int)) (q.getD t 0).toNat : Nat):=by
 have hl:=hq.len
 have h:=c1C hq ht hs hc hi (q.getD t 0).toNat 0 (by have:=hq.get t; omega)
 refine Ev.congr (λ k=>(show puncheonref10_less.f k q t s i = _ by unfold puncheonref10_less.f; rw [if_pos (by omega),if_pos (by omega),a0E])) ?_
 have e : lessN (q.getD t 0) t (i,q.getD s 0,(s : Int)) 0 = 0:=rfl
 rw [e] at h
 simpa using h
theorem b3c (n : Int) (t : Nat) (x : K3) : lessN n t x n.toNat = (a0V n t).countP (λ y=>lessK y x):=by
 unfold lessN a0V; rw [List.countP_map]; rfl
theorem c1E {q : List Int} (hq : Good q) {s : Nat} (hs : s < 256) {i : Int} (hc : 0 < q.getD s 0) (hi : q.getD s 0 <= i /\ i < 2 * q.getD s 0) : ∀ (d t : Nat),t + d = q.length -> Ev (λ k=>puncheonref10_Place.l0 k q s i ((a0z (q.take t)).countP (λ y=>lessK y (i,q.getD s 0,(s : Int))) : Nat) (t : Int)) ((a0z q).countP (λ y=>lessK y (i,q.getD s 0,(s : Int))) : Nat):=by
 have hl:=hq.len
 intro d
 induction d with
 | zero=>
  intro t ht
  refine Ev.step (λ k=>(show puncheonref10_Place.l0 (k + 1) q s i _ _ = _ by simp only [puncheonref10_Place.l0]; rw [if_neg (by omega)])) ?_
  rw [show t = q.length by omega,List.take_length]; exact Ev.now _
 | succ d ih=>
  intro t ht
  have hlt : (t : Int) < (q.length : Int):=by omega
  refine Ev.step (λ k=>(show puncheonref10_Place.l0 (k + 1) q s i _ _ = _ by simp only [puncheonref10_Place.l0]; rw [if_pos hlt])) ?_
  refine Ev.bind (c1D hq (by omega) hs hc hi) ?_
  have ih':=ih (t + 1) (by omega)
  rw [a2O (by omega),List.countP_append,<- b3c] at ih'
  have hb : (a0z (q.take t)).countP (λ y=>lessK y (i,q.getD s 0,(s : Int))) + lessN (q.getD t 0) t (i,q.getD s 0,(s : Int)) (q.getD t 0).toNat <= 4096:=by
   rw [b3c,<- List.countP_append,<- a2O (by omega)]
   refine Nat.le_trans List.countP_le_length ?_
   have h1:=a5M hq.nonneg
   have h2:=hq.sum
   have h3 : (a0z (q.take (t + 1))).length <= (a0z q).length:=by
    have h5 : ∀ a b : List Int,a0z (a ++ b) = a0z a ++ (b.zipIdx a.length).flatMap (λ p=>a0V p.1 p.2):=λ a b=>by simp [a0z,List.zipIdx_append]
    have h4:=h5 (q.take (t + 1)) (q.drop (t + 1))
    rw [List.take_append_drop] at h4
    rw [h4,List.length_append]; omega
   omega
  rw [w64 (n:=_ + _) (by omega),wS t (by omega)]
  rw [Int.natCast_add] at ih'
  exact ih'
theorem c1F {q : List Int} (hl : logC q ≠ 0) {s : Nat} (hs : s < 256) {i : Nat} (h1 : cntC q s <= i) (h2 : i < 2 * cntC q s) : Ev (λ k=>puncheonref10_Place.f k q s i) ((a1j q s).getD (i - cntC q s) 0):=by
 have hq:=a1v hl
 have hc:=a2z hq s
 have hg:=hq.get s
 have:=c1E hq hs (i:=i) (by omega) (by omega) q.length 0 (by omega)
 have e0 : (a0z (q.take 0)).countP (λ y=>lessK y ((i : Int),q.getD s 0,(s : Int))) = 0:=by simp [a0z]
 rw [e0] at this
 obtain ⟨P,e1,hP,e2⟩:=c1z hq hs (d:=i - cntC q s) (by omega)
 have e3:=c1w hq hP
 rw [e2,show q.getD s 0 + ((i - cntC q s : Nat) : Int) = i by omega] at e3
 rw [e3] at this
 rw [e1]
 exact this
theorem c1G (r : Nat) (h : r <= 30) : shl .i64 1 (r : Int) = ((2 ^ r : Nat) : Int):=by
 unfold shl
 have e : min (r : Int).toNat IntKind.i64.bits = r:=by
  have : IntKind.i64.bits = 64:=rfl
  rw [this,Int.toNat_natCast]; omega
 rw [e,Int.one_mul]
 have h2 : (2 : Nat) ^ r <= 2 ^ 30:=Nat.pow_le_pow_right (by omega) h
 have e2 : (2 : Int) ^ r = ((2 ^ r : Nat) : Int):=by simp
 rw [e2]
 obtain ⟨P,hP⟩ : ∃ P : Nat,P = 2 ^ r:=⟨_,rfl⟩
 rw [<- hP] at h2 ⊢
 exact Go.IntWalk.i64_in _ (by omega)
theorem c1H (W n : Nat) : W / 2 ^ n / 2 = W / 2 ^ (n + 1):=by rw [Nat.div_div_eq_div_mul,Nat.pow_succ]
theorem c1I {q : List Int} {x : Int} {s : Nat} (hl : logC q ≠ 0) (hx : 0 <= x /\ x < 2 ^ logC q) (hs : s < 256) (hc : 0 < cntC q s) : ∀ (r n : Nat),n + r = a0A q x s ->
    Ev (λ k=>puncheonref12_Step.l0 k q s ((a0S q x / 2 ^ n : Nat) : Int) n ((a0S q x % 2 ^ n : Nat) : Int) ((2 ^ n : Nat) : Int)) (a1k q x s,(a0A q x s : Int),(a1m q x s : Int),true):=by
 obtain ⟨H,hW⟩:=a6e hl hx hc
 have hq:=a1v hl
 have hcn:=a2z hq s
 have hg:=hq.get s
 have hlen:=hq.len
 have hr12 : logC q <= 12:=a1K _
 have hp:=a1u hr12
 have c1 : (0 : Int) <= s:=by omega
 have c2 : (s : Int) < (q.length : Int):=by omega
 obtain ⟨W,hWd⟩ : ∃ W,W = a0S q x:=⟨_,rfl⟩
 obtain ⟨O,hO⟩ : ∃ O,O = a0A q x s:=⟨_,rfl⟩
 obtain ⟨C,hC⟩ : ∃ C,C = cntC q s:=⟨_,rfl⟩
 have hWb : W <= 8192:=by rw [<- hWd] at hW; omega
 have hcC : q.getD s 0 = (C : Int):=by omega
 have hge:=H.ge
 have hltt:=H.lt
 have hnr:=H.nr
 have hN : a1k q x s = (a1j q s).getD (W / 2 ^ O - C) 0:=by rw [hWd,hO,hC]; rfl
 have hLw : a1m q x s = W % 2 ^ O:=by rw [hWd,hO]; rfl
 rw [hN,hLw,<- hO,<- hWd]
 rw [<- hWd,<- hO,<- hC] at H
 rw [<- hWd,<- hO,<- hC] at hge hltt
 rw [<- hO] at hnr
 intro r
 induction r with
 | zero=>
  intro n hn
  obtain rfl : n = O:=by omega
  have hP:=c1F hl hs (i:=W / 2 ^ n) (by rw [<- hC]; exact hge) (by rw [<- hC]; exact hltt)
  rw [<- hC] at hP
  have hmod : W % 2 ^ n <= W:=Nat.mod_le _ _
  have e1 : ¬ ((W / 2 ^ n : Nat) : Int) >= wrap64 (2 * (C : Int)):=by rw [w64 (by omega)]; omega
  refine Ev.step (λ k=>(show puncheonref12_Step.l0 (k + 1) q s _ _ _ _ = _ by simp only [puncheonref12_Step.l0]; rw [if_pos c1,if_pos c2,a0E,hcC,if_neg e1])) ?_
  refine Ev.bind hP ?_
  rw [show ((W % 2 ^ n : Nat) : Int) % 4294967296 = ((W % 2 ^ n : Nat) : Int) by omega]
  exact Ev.now _
 | succ r ih=>
  intro n hn
  have hlt : n < O:=by omega
  have hbig : 2 * C <= W / 2 ^ n:=by
   have h1 : W / 2 ^ n / 2 ^ (O - n) = W / 2 ^ O:=by rw [Nat.div_div_eq_div_mul,<- Nat.pow_add]; congr 2; omega
   have h2 : (W / 2 ^ O) * 2 ^ (O - n) <= W / 2 ^ n:=by rw [<- h1]; exact Nat.div_mul_le_self _ _
   have h3 : C * 2 <= (W / 2 ^ O) * 2 ^ (O - n):=Nat.mul_le_mul hge (by
    calc 2 = 2 ^ 1:=rfl
     _ <= 2 ^ (O - n):=Nat.pow_le_pow_right (by omega) (by omega))
   omega
  have e1 : ((W / 2 ^ n : Nat) : Int) >= wrap64 (2 * (C : Int)):=by rw [w64 (by omega)]; omega
  have hpn : 2 ^ n <= 4096:=by
   have : 2 ^ n <= 2 ^ 12:=Nat.pow_le_pow_right (by omega) (by omega)
   omega
  have hdiv : W / 2 ^ n <= W:=Nat.div_le_self _ _
  have hmod : W % 2 ^ n <= W:=Nat.mod_le _ _
  have a1 : wrap64 (Int.tdiv ((W / 2 ^ n : Nat) : Int) 2) = ((W / 2 ^ (n + 1) : Nat) : Int):=by
   rw [Int.tdiv_eq_ediv_of_nonneg (by omega),w64 (by omega),<- c1H]; simp
  have a2 : Int.tmod ((W / 2 ^ n : Nat) : Int) 2 = ((W / 2 ^ n % 2 : Nat) : Int):=by
   rw [Int.tmod_eq_emod_of_nonneg (by omega)]; simp
  have hm:=Nat.mod_pow_succ (x:=W) (b:=2) (k:=n)
  have hm2 : W % 2 ^ (n + 1) <= W:=Nat.mod_le _ _
  obtain ⟨u,hu⟩ : ∃ u,u = W / 2 ^ n % 2:=⟨_,rfl⟩
  rw [<- hu] at a2 hm
  have hmu : 2 ^ n * u <= 8192:=by omega
  have e2 : (u : Int) * ((2 ^ n : Nat) : Int) = ((2 ^ n * u : Nat) : Int):=by rw [Int.natCast_mul]; exact Int.mul_comm _ _
  have a3 : wrap64 (((W % 2 ^ n : Nat) : Int) + wrap64 (Int.tmod ((W / 2 ^ n : Nat) : Int) 2 * ((2 ^ n : Nat) : Int))) = ((W % 2 ^ (n + 1) : Nat) : Int):=by
   rw [a2,e2,w64 (n:=((2 ^ n * u : Nat) : Int)) (by omega),w64 (by omega),hm]
   rw [Int.natCast_add]
  have a4 : wrap64 (2 * ((2 ^ n : Nat) : Int)) = ((2 ^ (n + 1) : Nat) : Int):=by
   have hT2 : 2 ^ (n + 1) = 2 ^ n * 2:=Nat.pow_succ ..
   obtain ⟨T,hT⟩ : ∃ T,T = 2 ^ n:=⟨_,rfl⟩
   obtain ⟨T2,hT3⟩ : ∃ T,T = 2 ^ (n + 1):=⟨_,rfl⟩
   rw [<- hT,<- hT3] at hT2
   rw [<- hT] at hpn
   rw [<- hT,<- hT3]
   have hw : wrap64 (2 * (T : Int)) = 2 * (T : Int):=w64 (by omega)
   rw [hw]; omega
  have ih':=ih (n + 1) (by omega)
  obtain ⟨A,hA⟩ : ∃ A : Int,A = ((W / 2 ^ n : Nat) : Int):=⟨_,rfl⟩
  obtain ⟨B,hB⟩ : ∃ B : Int,B = ((W % 2 ^ n : Nat) : Int):=⟨_,rfl⟩
  obtain ⟨D,hD⟩ : ∃ D : Int,D = ((2 ^ n : Nat) : Int):=⟨_,rfl⟩
  obtain ⟨A',hA'⟩ : ∃ A : Int,A = ((W / 2 ^ (n + 1) : Nat) : Int):=⟨_,rfl⟩
  obtain ⟨B',hB'⟩ : ∃ B : Int,B = ((W % 2 ^ (n + 1) : Nat) : Int):=⟨_,rfl⟩
  obtain ⟨D',hD'⟩ : ∃ D : Int,D = ((2 ^ (n + 1) : Nat) : Int):=⟨_,rfl⟩
  rw [<- hA] at e1 a1 a3
  rw [<- hB,<- hD,<- hB'] at a3
  rw [<- hA'] at a1
  rw [<- hD,<- hD'] at a4
  rw [<- hA',<- hB',<- hD'] at ih'
  rw [<- hA,<- hB,<- hD]
  have a5:=wS n (by omega)
  clear hA hB hD hA' hB' hD' ih hm hm2 a2 hmu e2 hpn hdiv hmod hbig H hge hltt
  have hstep : ∀ k,puncheonref12_Step.l0 (k + 1) q s A n B D = puncheonref12_Step.l0 k q s A' ((n + 1 : Nat) : Int) B' D':=by
   intro k
   simp only [puncheonref12_Step.l0]
   rw [if_pos c1,if_pos c2,a0E,hcC,if_pos e1,a1,a3,a4,a5]
  exact Ev.step hstep ih'
theorem c1J {q : List Int} {x : Int} {s : Nat} (hl : logC q ≠ 0) (hx : 0 <= x /\ x < 2 ^ logC q) (hs : s < 256) (hc : 0 < cntC q s) : Ev (λ k=>puncheonref12_Step.f k q x s) (a1k q x s,(a0A q x s : Int),(a1m q x s : Int),true):=by
 have hr12 : logC q <= 12:=a1K _
 have hq:=a1v hl
 have hlen:=hq.len
 have hcn:=a2z hq s
 have hsh:=c1G (logC q) (by omega)
 have hp:=a1u hr12
 have e2 : (2 : Int) ^ logC q = ((2 ^ logC q : Nat) : Int):=by simp
 obtain ⟨S,hS⟩ : ∃ S : Nat,S = 2 ^ logC q:=⟨_,rfl⟩
 rw [e2,<- hS] at hx hp
 rw [<- hS] at hsh
 have hW : ((a0S q x / 2 ^ 0 : Nat) : Int) = wrap64 ((S : Int) + x):=by
  rw [w64 (by omega)]
  unfold a0S
  rw [<- hS]; simp; omega
 have h0:=c1I hl (x:=x) (by rw [e2,<- hS]; exact hx) hs hc (a0A q x s) 0 (by omega)
 rw [hW] at h0
 have e3 : ((a0S q x % 2 ^ 0 : Nat) : Int) = 0:=by simp [Nat.mod_one]
 rw [e3] at h0
 unfold puncheonref12_Step.f
 refine Ev.bind (a5G q) ?_
 have hc1 : (0 : Int) <= (logC q : Int):=by omega
 have hst : ∀ k,(if 0 <= (logC q : Int) then (if x < 0 then (puncheonref12_Step.j0 k q x s (shl .i64 1 (logC q : Int)) true) else (if x >= (shl .i64 1 (logC q : Int)) then (puncheonref12_Step.j0 k q x s (shl .i64 1 (logC q : Int)) true) else (if 0 <= (s : Int) then (if (s : Int) < (q.length : Int) then (puncheonref12_Step.j0 k q x s (shl .i64 1 (logC q : Int)) ((rd q s) == 0)) else (none)) else (none)))) else (none)) = puncheonref12_Step.j0 k q x s S ((rd q s) == 0):=by
  intro k
  have h1 : ¬ x < 0:=by omega
  have h2 : ¬ x >= (S : Int):=by omega
  have h3 : (0 : Int) <= (s : Int):=by omega
  have h4 : (s : Int) < (q.length : Int):=by omega
  rw [hsh,if_pos hc1,if_neg h1,if_neg h2,if_pos h3,if_pos h4]
 refine Ev.congr hst ?_
 have hne : ((rd q s) == 0) = false:=by rw [a0E,beq_eq_false_iff_ne]; omega
 rw [hne]
 refine Ev.step (λ k=>(show puncheonref12_Step.j0 (k + 1) q x s S false = _ by simp only [puncheonref12_Step.j0]; rw [if_neg (by simp)])) ?_
 exact h0
def pkL (b : List Int) (c : Int) (k : Nat) : List Int:=((List.range k).filter (λ j=>decide (ctxI b (j : Nat) = c))).map (λ j=>b.getD j 0)
def a0n (b : List Int) (c : Int) : List Int:=pkL b c b.length
theorem a6p {b : List Int} {c : Int} {k : Nat} (h : ctxI b (k : Nat) = c) : pkL b c (k + 1) = pkL b c k ++ [b.getD k 0]:=by
 unfold pkL; rw [List.range_succ,List.filter_append,List.map_append]; congr 1
 simp only [List.filter_cons,List.filter_nil,h,decide_true]; rfl
theorem a6q {b : List Int} {c : Int} {k : Nat} (h : ctxI b (k : Nat) ≠ c) : pkL b c (k + 1) = pkL b c k:=by
 unfold pkL; rw [List.range_succ,List.filter_append,List.map_append]
 simp only [List.filter_cons,List.filter_nil,h,decide_false]; simp
theorem a3P (b : List Int) (c : Int) (k : Nat) : (pkL b c k).length <= k:=by
 unfold pkL; rw [List.length_map]; exact Nat.le_trans (List.length_filter_le _ _) (by simp)
theorem b3d {b : List Int} (hb : Bytes b) (c : Int) (k : Nat) : Bytes (pkL b c k):=by
 intro x hx
 unfold pkL at hx
 obtain ⟨j,_,rfl⟩:=List.mem_map.1 hx
 exact hb.get j
theorem b3e (l : List Int) {y : Nat} (hy : y < 256) : histL (l ++ [(y : Int)]) = (histL l).set y ((l.count (y : Int) : Int) + 1):=by
 unfold histL
 rw [a6k _ hy]
 refine a2V (λ u _=>?_)
 rw [List.count_append,List.count_singleton]
 by_cases e : u = y
 · subst e; rw [if_pos rfl]; simp
 · rw [if_neg e]
   have : ¬ (y : Int) = (u : Int):=by omega
   simp [this]
theorem a4U (l : List Int) {y : Nat} (hy : y < 256) : (histL l).getD y 0 = (l.count (y : Int) : Int):=by unfold histL; rw [a3O _ hy]
theorem c1L (b : List Int) (hb : Bytes b) (hl : b.length <= 1000000) (c : Int) : ∀ (d i : Nat),i + d = b.length -> Ev (λ k=>puncheonref06_For.l0 k b c (histL (pkL b c i)) (i : Int)) (histL (a0n b c)):=by
 intro d
 induction d with
 | zero=>
  intro i hi
  obtain rfl : i = b.length:=by omega
  refine Ev.step (λ k=>(show puncheonref06_For.l0 (k + 1) b c _ (b.length : Int) = _ by simp only [puncheonref06_For.l0]; rw [if_neg (by omega)])) ?_
  exact Ev.now _
 | succ d ih=>
  intro i hi
  have hlt : i < b.length:=by omega
  have hg:=hb.get i
  obtain ⟨y,hy⟩ : ∃ y : Nat,b.getD i 0 = y:=⟨(b.getD i 0).toNat,by omega⟩
  have hy2 : y < 256:=by omega
  refine Ev.step (λ k=>(show puncheonref06_For.l0 (k + 1) b c _ (i : Int) = _ by simp only [puncheonref06_For.l0]; rw [if_pos (by omega),a8n b hb hl,Option.bind_some])) ?_
  by_cases e : ctxI b (i : Nat) = c
  · have hc : (pkL b c i).count (y : Int) <= 1000000:=by
      have:=List.count_le_length (a:=(y : Int)) (l:=pkL b c i); have:=a3P b c i; omega
    refine Ev.congr (λ k=>(show _ = _ by rw [if_pos e,if_pos (by omega),a0E,hy,if_pos (by omega),if_pos (by unfold histL; rw [a1s]; omega),a0E,a4U _ hy2,w64 (n:=((pkL b c i).count (y : Int) : Int) + 1) (by omega),wS i (by omega),Int.toNat_natCast])) ?_
    have e2 : (histL (pkL b c i)).set y (((pkL b c i).count (y : Int) : Int) + 1) = histL (pkL b c (i + 1)):=by rw [a6p e,hy,b3e _ hy2]
    rw [e2]; exact ih (i + 1) (by omega)
  · refine Ev.congr (λ k=>(show _ = _ by rw [if_neg e,wS i (by omega)])) ?_
    rw [<- a6q e]; exact ih (i + 1) (by omega)
theorem b3f (b : List Int) (hb : Bytes b) (hl : b.length <= 1000000) (c : Int) : Ev (λ k=>puncheonref06_For.f k b c) (histL (a0n b c)):=by
 refine Ev.congr (λ k=>(show puncheonref06_For.f k b c = _ by unfold puncheonref06_For.f; rw [if_pos (by decide)])) ?_
 have e : List.replicate 256 (0 : Int) = histL (pkL b c 0):=by
  unfold histL mapR
  rw [<- List.length_range (n:=256),<- List.map_const',List.length_range]
  exact List.map_congr_left (λ u _=>by simp [pkL])
 rw [e]; exact c1L b hb hl c b.length 0 (by omega)
def widN (b : List Int) : Nat -> Nat
 | 0=>0
 | k + 1=>max (widN b k) (manyC (histL (a0n b (k : Nat))))
theorem a4l (c : List Int) : manyC c <= 256:=by
 unfold manyC
 split
 · rename_i h
   have:=List.countP_le_length (p:=λ x=>decide (0 < x)) (l:=c); have:=(rightC_iff.1 h).1; omega
 · omega
theorem a6r (b : List Int) : ∀ k,widN b k <= 256
 | 0=>by simp [widN]
 | k + 1=>by
  have:=a6r b k; have:=a4l (histL (a0n b (k : Nat)))
  simp only [widN]; omega
theorem c1M (a b : Nat) : mx (a : Int) (b : Int) = ((max a b : Nat) : Int):=by unfold mx; split <;> omega
theorem c1N (b : List Int) (hb : Bytes b) (hl : b.length <= 1000000) : ∀ (d i : Nat),i + d = 256 -> Ev (λ k=>puncheonref06_Widest.l0 k b ((widN b i : Nat) : Int) (i : Int)) ((widN b 256 : Nat) : Int):=by
 intro d
 induction d with
 | zero=>
  intro i hi
  refine Ev.step (λ k=>(show puncheonref06_Widest.l0 (k + 1) b _ (i : Int) = _ by simp only [puncheonref06_Widest.l0]; rw [if_neg (by omega)])) ?_
  rw [show i = 256 by omega]; exact Ev.now _
 | succ d ih=>
  intro i hi
  refine Ev.step (λ k=>(show puncheonref06_Widest.l0 (k + 1) b _ (i : Int) = _ by simp only [puncheonref06_Widest.l0]; rw [if_pos (by omega)])) ?_
  refine Ev.bind (b3f b hb hl i) ?_
  refine Ev.bind (b2X _ (by unfold histL; rw [a1s]; omega)) ?_
  refine Ev.congr (λ k=>(show _ = _ by rw [c1M,wS i (by omega)])) ?_
  exact ih (i + 1) (by omega)
theorem c1O (b : List Int) (hb : Bytes b) (hl : b.length <= 1000000) : Ev (λ k=>puncheonref06_Widest.f k b) ((widN b 256 : Nat) : Int):=by
 unfold puncheonref06_Widest.f; exact c1N b hb hl 256 0 (by omega)
def presN (b : List Int) (k : Nat) : List Int:=((List.range k).filter (λ (c : Nat)=>decide (0 < (a0n b (c : Int)).length))).map (λ (c : Nat)=>(c : Int))
theorem a8p (b : List Int) (k : Nat) : presN b (k + 1) = if 0 < (a0n b (k : Int)).length then presN b k ++ [(k : Int)] else presN b k:=by
 unfold presN; rw [List.range_succ,List.filter_append,List.map_append]
 by_cases h : 0 < (a0n b (k : Int)).length
 · rw [if_pos h]; congr 1; simp only [List.filter_cons,List.filter_nil,h,decide_true]; rfl
 · rw [if_neg h]; simp only [List.filter_cons,List.filter_nil,h,decide_false]; simp
theorem a3Q (b : List Int) (k : Nat) : (presN b k).length <= k:=by
 unfold presN; rw [List.length_map]; exact Nat.le_trans (List.length_filter_le _ _) (by simp)
theorem c1P (b : List Int) (hb : Bytes b) (hl : b.length <= 1000000) (c : Nat) (hc : c < 256) (R : List Int) (hn : Ev (λ k=>puncheonref06_Present.l0 k b (presN b (c + 1)) ((c + 1 : Nat) : Int)) R) : ∀ (d i : Nat),i + d = b.length -> Ev (λ k=>puncheonref06_Present.l1 k b (presN b c) (c : Int) ((pkL b (c : Int) i).length : Int) (i : Int)) R:=by
 intro d
 induction d with
 | zero=>
  intro i hi
  obtain rfl : i = b.length:=by omega
  have hs:=a8p b c
  have hpl:=a3Q b c
  by_cases h : 0 < (a0n b (c : Int)).length
  · refine Ev.step (λ k=>(show puncheonref06_Present.l1 (k + 1) b (presN b c) (c : Int) _ (b.length : Int) = _ by simp only [puncheonref06_Present.l1]; rw [if_neg (by omega),if_pos (by unfold a0n at h; omega),if_pos (by omega),wS c (by omega)])) ?_
    rw [if_pos h] at hs
    rw [<- hs]; exact hn
  · refine Ev.step (λ k=>(show puncheonref06_Present.l1 (k + 1) b (presN b c) (c : Int) _ (b.length : Int) = _ by simp only [puncheonref06_Present.l1]; rw [if_neg (by omega),if_neg (by unfold a0n at h; omega),wS c (by omega)])) ?_
    rw [if_neg h] at hs
    rw [<- hs]; exact hn
 | succ d ih=>
  intro i hi
  have hle:=a3P b (c : Int) i
  refine Ev.step (λ k=>(show puncheonref06_Present.l1 (k + 1) b (presN b c) (c : Int) _ (i : Int) = _ by simp only [puncheonref06_Present.l1]; rw [if_pos (by omega),a8n b hb hl,Option.bind_some])) ?_
  by_cases e : ctxI b (i : Nat) = (c : Int)
  · refine Ev.congr (λ k=>(show _ = _ by rw [if_pos e,wS i (by omega),wS _ (show (pkL b (c : Int) i).length <= 1000000000 by omega)])) ?_
    have:=ih (i + 1) (by omega)
    rw [a6p e,List.length_append,List.length_singleton] at this; exact this
  · refine Ev.congr (λ k=>(show _ = _ by rw [if_neg e,wS i (by omega)])) ?_
    have:=ih (i + 1) (by omega)
    rw [a6q e] at this; exact this
theorem c1Q (b : List Int) (hb : Bytes b) (hl : b.length <= 1000000) : ∀ (d c : Nat),c + d = 256 -> Ev (λ k=>puncheonref06_Present.l0 k b (presN b c) (c : Int)) (presN b 256):=by
 intro d
 induction d with
 | zero=>
  intro c hc
  refine Ev.step (λ k=>(show puncheonref06_Present.l0 (k + 1) b _ (c : Int) = _ by simp only [puncheonref06_Present.l0]; rw [if_neg (by omega)])) ?_
  rw [show c = 256 by omega]; exact Ev.now _
 | succ d ih=>
  intro c hc
  refine Ev.step (λ k=>(show puncheonref06_Present.l0 (k + 1) b _ (c : Int) = _ by simp only [puncheonref06_Present.l0]; rw [if_pos (by omega)])) ?_
  exact c1P b hb hl c (by omega) _ (ih (c + 1) (by omega)) b.length 0 (by omega)
theorem c1R (b : List Int) (hb : Bytes b) (hl : b.length <= 1000000) : Ev (λ k=>puncheonref06_Present.f k b) (presN b 256):=by
 unfold puncheonref06_Present.f; exact c1Q b hb hl 256 0 (by omega)
theorem c1S (n : Nat) (hn : n < 2 ^ 40) : ∀ (d j : Nat),j + d = 41 -> (j = 0 \/ 2 ^ j <= n) -> Ev (λ k=>puncheonref07_Floor.l0 k (n : Int) (j : Int) ((2 ^ (j + 1) : Nat) : Int)) ((a0s n : Nat) : Int):=by
 intro d
 induction d with
 | zero=>
  intro j hj h
  have : 2 ^ 40 <= 2 ^ j:=Nat.pow_le_pow_right (by omega) (by omega)
  exfalso; omega
 | succ d ih=>
  intro j hj h
  have hp : 2 ^ (j + 2) <= 2 ^ 43:=Nat.pow_le_pow_right (by omega) (by omega)
  have e : wrap64 (2 * ((2 ^ (j + 1) : Nat) : Int)) = ((2 ^ (j + 1 + 1) : Nat) : Int):=by
   have : 2 ^ (j + 2) = 2 * 2 ^ (j + 1):=Nat.pow_succ'
   rw [show j + 1 + 1 = j + 2 by omega,this]
   rw [this] at hp
   generalize 2 ^ (j + 1) = P at hp ⊢
   rw [w64 (by omega)]; omega
  by_cases hc : 2 ^ (j + 1) <= n
  · refine Ev.step (λ k=>(show puncheonref07_Floor.l0 (k + 1) (n : Int) (j : Int) _ = _ by simp only [puncheonref07_Floor.l0]; rw [if_pos (Int.ofNat_le.2 hc),if_pos (by omega),wS j (by omega),e])) ?_
    exact ih (j + 1) (by omega) (.inr hc)
  · refine Ev.step (λ k=>(show puncheonref07_Floor.l0 (k + 1) (n : Int) (j : Int) _ = _ by simp only [puncheonref07_Floor.l0]; rw [if_neg (λ h=>hc (Int.ofNat_le.1 h))])) ?_
    have ef : a0s (n : Int) = j:=by
     rcases Nat.eq_zero_or_pos n with h0 | h0
     · subst h0
       have : j = 0:=by
        rcases h with h | h
        · exact h
        · have:=Nat.two_pow_pos j; omega
       rw [this]; rfl
     · have h1 : 2 ^ j <= n:=by
         rcases h with h | h
         · rw [h,Nat.pow_zero]; exact h0
         · exact h
       unfold a0s a1L
       rw [Int.toNat_natCast,a8k h1 (by omega) (by omega)]; omega
    rw [ef]; exact Ev.now _
theorem c1T (n : Nat) (hn : n < 2 ^ 40) : Ev (λ k=>puncheonref07_Floor.f k (n : Int)) ((a0s n : Nat) : Int):=by
 unfold puncheonref07_Floor.f; exact c1S n hn 41 0 rfl (.inl rfl)
def ceilI (n : Int) : Nat:=a1L (n - 1)
theorem c1U (n : Nat) (hn : n < 2 ^ 40) : ∀ (d j : Nat),j + d = 41 -> (j = 0 \/ 2 ^ (j - 1) < n) -> Ev (λ k=>puncheonref07_Ceil.l0 k (n : Int) (j : Int) ((2 ^ j : Nat) : Int)) ((ceilI n : Nat) : Int):=by
 intro d
 induction d with
 | zero=>
  intro j hj h
  have : 2 ^ 40 <= 2 ^ (j - 1):=Nat.pow_le_pow_right (by omega) (by omega)
  exfalso; omega
 | succ d ih=>
  intro j hj h
  have hp : 2 ^ (j + 1) <= 2 ^ 43:=Nat.pow_le_pow_right (by omega) (by omega)
  have e : wrap64 (2 * ((2 ^ j : Nat) : Int)) = ((2 ^ (j + 1) : Nat) : Int):=by
   have : 2 ^ (j + 1) = 2 * 2 ^ j:=Nat.pow_succ'
   rw [this]
   rw [this] at hp
   generalize 2 ^ j = P at hp ⊢
   rw [w64 (by omega)]; omega
  by_cases hc : 2 ^ j < n
  · refine Ev.step (λ k=>(show puncheonref07_Ceil.l0 (k + 1) (n : Int) (j : Int) _ = _ by simp only [puncheonref07_Ceil.l0]; rw [if_pos (Int.ofNat_lt.2 hc),if_pos (by omega),wS j (by omega),e])) ?_
    exact ih (j + 1) (by omega) (.inr (by simpa using hc))
  · refine Ev.step (λ k=>(show puncheonref07_Ceil.l0 (k + 1) (n : Int) (j : Int) _ = _ by simp only [puncheonref07_Ceil.l0]; rw [if_neg (λ h=>hc (Int.ofNat_lt.1 h))])) ?_
    have ef : ceilI (n : Int) = j:=by
     unfold ceilI a1L
     rcases h with h | h
     · subst h
       rw [show ((n : Int) - 1).toNat = 0 by simp at hc; omega]; rfl
     · obtain ⟨i,rfl⟩ : ∃ i,j = i + 1:=⟨j - 1,by
         have : j ≠ 0:=by
          intro h0; subst h0; simp at hc h; omega
         omega⟩
       rw [show ((n : Int) - 1).toNat = n - 1 by omega]
       rw [Nat.add_sub_cancel] at h
       exact a8k (by omega) (by omega) (by omega)
    rw [ef]; exact Ev.now _
theorem c1V (n : Nat) (hn : n < 2 ^ 40) : Ev (λ k=>puncheonref07_Ceil.f k (n : Int)) ((ceilI n : Nat) : Int):=by
 unfold puncheonref07_Ceil.f; exact c1U n hn 41 0 rfl (.inl rfl)
def pickI (n m : Nat) (most : Int) : Int:=mx (mx (mn ((a0s n : Int) - 2) most) 5) (ceilI m)
theorem b3g (n : Nat) (h : n < 2 ^ 40) : a0s (n : Int) <= 40:=by
 rcases Nat.eq_zero_or_pos n with h0 | h0
 · subst h0; decide
 · have:=(a2R n h0 (by omega)).1
   have a : ¬ 41 <= a0s (n : Int):=λ e=>by
    have:=Nat.pow_le_pow_right (n:=2) (by omega) e; omega
   omega
theorem c1W (n m : Nat) (most : Int) (hn : n < 2 ^ 40) (hm : m < 2 ^ 40) : Ev (λ k=>puncheonref07_Pick.f k (n : Int) (m : Int) most) (pickI n m most):=by
 unfold puncheonref07_Pick.f
 refine Ev.bind (c1T n hn) (Ev.bind (c1V m hm) ?_)
 have:=b3g n hn
 refine Ev.congr (λ k=>(show _ = _ by rw [w64 (n:=(a0s (n : Int) : Int) - 2) (by omega)]; exact rfl)) (Ev.now _)
def needN (rest : List Int) (had : List Bool) : Nat -> Int
 | 0=>-1
 | k + 1=>if had.getD k false = true then needN rest had k else if needN rest had k < 0 then (k : Int) else if rest.getD k 0 > rest.getD (needN rest had k).toNat 0 then (k : Int) else needN rest had k
theorem a4m (rest : List Int) (had : List Bool) : ∀ k,-1 <= needN rest had k /\ needN rest had k < k /\ (0 <= needN rest had k -> had.getD (needN rest had k).toNat false = false)
 | 0=>by simp [needN]
 | k + 1=>by
  obtain ⟨h1,h2,h3⟩:=a4m rest had k
  simp only [needN]
  cases hk : had.getD k false with
  | true=>rw [if_pos rfl]; exact ⟨h1,by omega,h3⟩
  | false=>
   rw [if_neg (by decide)]
   split
   · exact ⟨by omega,by omega,λ _=>by rw [Int.toNat_natCast]; exact hk⟩
   · split
     · exact ⟨by omega,by omega,λ _=>by rw [Int.toNat_natCast]; exact hk⟩
     · exact ⟨h1,by omega,h3⟩
theorem a8q (rest : List Int) (had : List Bool) {s : Nat} (hs : had.getD s false = false) : ∀ k,s < k -> 0 <= needN rest had k
 | 0,h=>by omega
 | k + 1,h=>by
  simp only [needN]
  by_cases e : s = k
  · subst e
    rw [hs,if_neg (by decide)]
    split
    · omega
    · split <;> omega
  · have ih:=a8q rest had hs k (by omega)
    split
    · exact ih
    · rw [if_neg (by omega)]
      split <;> omega
theorem c1X (rest : List Int) (had : List Bool) (hr : rest.length = 256) (hh : had.length = 256) : ∀ (d i : Nat),i + d = 256 -> Ev (λ k=>puncheonref08_neediest.l0 k rest had (needN rest had i) (i : Int)) (needN rest had 256):=by
 intro d
 induction d with
 | zero=>
  intro i hi
  refine Ev.step (λ k=>(show puncheonref08_neediest.l0 (k + 1) rest had _ (i : Int) = _ by simp only [puncheonref08_neediest.l0]; rw [if_neg (by omega)])) ?_
  rw [show i = 256 by omega]; exact Ev.now _
 | succ d ih=>
  intro i hi
  have hn:=a4m rest had i
  have hrd : rdOf false had (i : Int) = had.getD i false:=rfl
  have hs : needN rest had (i + 1) = if had.getD i false = true then needN rest had i else if needN rest had i < 0 then (i : Int) else if rest.getD i 0 > rest.getD (needN rest had i).toNat 0 then (i : Int) else needN rest had i:=rfl
  by_cases e1 : had.getD i false = true
  · refine Ev.step (λ k=>(show puncheonref08_neediest.l0 (k + 1) rest had _ (i : Int) = _ by simp only [puncheonref08_neediest.l0]; rw [if_pos (by omega),if_pos (by omega),if_pos (by omega),hrd,if_pos e1,wS i (by omega)])) ?_
    rw [if_pos e1] at hs; rw [<- hs]; exact ih (i + 1) (by omega)
  · rw [if_neg e1] at hs
    by_cases e2 : needN rest had i < 0
    · refine Ev.step (λ k=>(show puncheonref08_neediest.l0 (k + 1) rest had _ (i : Int) = _ by simp only [puncheonref08_neediest.l0]; rw [if_pos (by omega),if_pos (by omega),if_pos (by omega),hrd,if_neg e1,if_pos e2,wS i (by omega)])) ?_
      rw [if_pos e2] at hs
      have:=ih (i + 1) (by omega); rw [hs] at this; exact this
    · rw [if_neg e2] at hs
      have hrd2 : rd rest (needN rest had i) = rest.getD (needN rest had i).toNat 0:=rfl
      by_cases e3 : rest.getD i 0 > rest.getD (needN rest had i).toNat 0
      · refine Ev.step (λ k=>(show puncheonref08_neediest.l0 (k + 1) rest had _ (i : Int) = _ by simp only [puncheonref08_neediest.l0]; rw [if_pos (by omega),if_pos (by omega),if_pos (by omega),hrd,if_neg e1,if_neg e2,if_pos (by omega),if_pos (by omega),if_pos (by omega),a0E,hrd2,if_pos e3,wS i (by omega)])) ?_
        rw [if_pos e3] at hs
        have:=ih (i + 1) (by omega); rw [hs] at this; exact this
      · refine Ev.step (λ k=>(show puncheonref08_neediest.l0 (k + 1) rest had _ (i : Int) = _ by simp only [puncheonref08_neediest.l0]; rw [if_pos (by omega),if_pos (by omega),if_pos (by omega),hrd,if_neg e1,if_neg e2,if_pos (by omega),if_pos (by omega),if_pos (by omega),a0E,hrd2,if_neg e3,wS i (by omega)])) ?_
        rw [if_neg e3] at hs; rw [<- hs]; exact ih (i + 1) (by omega)
theorem c1Y (rest : List Int) (had : List Bool) (hr : rest.length = 256) (hh : had.length = 256) : Ev (λ k=>puncheonref08_neediest.f k rest had) (needN rest had 256):=by
 unfold puncheonref08_neediest.f; exact c1X rest had hr hh 256 0 (by omega)
def richN (q c : List Int) : Nat -> Nat
 | 0=>0
 | k + 1=>if q.getD k 0 > q.getD (richN q c k) 0 \/ q.getD k 0 = q.getD (richN q c k) 0 /\ c.getD k 0 <= c.getD (richN q c k) 0 then k else richN q c k
theorem a4n (q c : List Int) : ∀ k,richN q c k <= k - 1
 | 0=>by simp [richN]
 | k + 1=>by
  have:=a4n q c k
  simp only [richN]; split <;> omega
theorem b3h (q c : List Int) : ∀ k,∀ s,s < k -> q.getD s 0 <= q.getD (richN q c k) 0
 | 0,s,h=>by omega
 | k + 1,s,h=>by
  have ih:=b3h q c k
  simp only [richN]
  split
  · rename_i hc
    by_cases e : s = k
    · subst e; exact Int.le_refl _
    · have:=ih s (by omega); omega
  · rename_i hc
    by_cases e : s = k
    · subst e; omega
    · exact ih s (by omega)
theorem c1Z (q c : List Int) : richN q c 1 = 0:=by simp only [richN]; split <;> rfl
theorem c2a (q c : List Int) (hq : q.length = 256) (hc : c.length = 256) : ∀ (d i : Nat),i + d = 256 -> 1 <= i -> Ev (λ k=>puncheonref08_richest.l0 k q c ((richN q c i : Nat) : Int) (i : Int)) ((richN q c 256 : Nat) : Int):=by
 intro d
 induction d with
 | zero=>
  intro i hi _
  refine Ev.step (λ k=>(show puncheonref08_richest.l0 (k + 1) q c _ (i : Int) = _ by simp only [puncheonref08_richest.l0]; rw [if_neg (by omega)])) ?_
  rw [show i = 256 by omega]; exact Ev.now _
 | succ d ih=>
  intro i hi h1
  have hlt:=a4n q c i
  have hs : richN q c (i + 1) = if q.getD i 0 > q.getD (richN q c i) 0 \/ q.getD i 0 = q.getD (richN q c i) 0 /\ c.getD i 0 <= c.getD (richN q c i) 0 then i else richN q c i:=rfl
  by_cases e1 : q.getD i 0 > q.getD (richN q c i) 0
  · refine Ev.step (λ k=>(show puncheonref08_richest.l0 (k + 1) q c _ (i : Int) = _ by simp only [puncheonref08_richest.l0]; rw [if_pos (by omega),if_pos (by omega),if_pos (by omega),if_pos (by omega),if_pos (by omega),a0E,a0E,if_pos e1,wS i (by omega)])) ?_
    rw [if_pos (.inl e1)] at hs
    have:=ih (i + 1) (by omega) (by omega); rw [hs] at this; exact this
  · by_cases e2 : q.getD i 0 = q.getD (richN q c i) 0
    · by_cases e3 : c.getD i 0 <= c.getD (richN q c i) 0
      · refine Ev.step (λ k=>(show puncheonref08_richest.l0 (k + 1) q c _ (i : Int) = _ by simp only [puncheonref08_richest.l0]; rw [if_pos (by omega),if_pos (by omega),if_pos (by omega),if_pos (by omega),if_pos (by omega),a0E,a0E,if_neg e1,if_pos e2,if_pos (by omega),if_pos (by omega),a0E,a0E,if_pos e3,wS i (by omega)])) ?_
        rw [if_pos (.inr ⟨e2,e3⟩)] at hs
        have:=ih (i + 1) (by omega) (by omega); rw [hs] at this; exact this
      · refine Ev.step (λ k=>(show puncheonref08_richest.l0 (k + 1) q c _ (i : Int) = _ by simp only [puncheonref08_richest.l0]; rw [if_pos (by omega),if_pos (by omega),if_pos (by omega),if_pos (by omega),if_pos (by omega),a0E,a0E,if_neg e1,if_pos e2,if_pos (by omega),if_pos (by omega),a0E,a0E,if_neg e3,wS i (by omega)])) ?_
        rw [if_neg (by omega)] at hs
        have:=ih (i + 1) (by omega) (by omega); rw [hs] at this; exact this
    · refine Ev.step (λ k=>(show puncheonref08_richest.l0 (k + 1) q c _ (i : Int) = _ by simp only [puncheonref08_richest.l0]; rw [if_pos (by omega),if_pos (by omega),if_pos (by omega),if_pos (by omega),if_pos (by omega),a0E,a0E,if_neg e1,if_neg e2,wS i (by omega)])) ?_
      rw [if_neg (by omega)] at hs
      have:=ih (i + 1) (by omega) (by omega); rw [hs] at this; exact this
theorem c2b (q c : List Int) (hq : q.length = 256) (hc : c.length = 256) : Ev (λ k=>puncheonref08_richest.f k q c) ((richN q c 256 : Nat) : Int):=by
 unfold puncheonref08_richest.f
 have:=c2a q c hq hc 255 1 rfl (by omega)
 rw [c1Z] at this; exact this
theorem c2c (q : List Int) (hq : ∀ x ∈ q,0 <= x /\ x <= 1000000000) (hl : q.length <= 1000000) : ∀ (d i : Nat) (s : Int),i + d = q.length -> s = (q.take i).sum -> 0 <= s /\ s <= i * 1000000000 -> Ev (λ k=>puncheonref08_sum.l0 k q s (i : Int)) q.sum:=by
 intro d
 induction d with
 | zero=>
  intro i s hi hs _
  refine Ev.step (λ k=>(show puncheonref08_sum.l0 (k + 1) q s (i : Int) = _ by simp only [puncheonref08_sum.l0]; rw [if_neg (by omega)])) ?_
  rw [List.take_of_length_le (by omega)] at hs
  rw [<- hs]; exact Ev.now _
 | succ d ih=>
  intro i s hi hs hb
  have hlt : i < q.length:=by omega
  have hx:=hq _ (a2a hlt)
  have hts:=a3H hlt
  refine Ev.step (λ k=>(show puncheonref08_sum.l0 (k + 1) q s (i : Int) = _ by simp only [puncheonref08_sum.l0]; rw [if_pos (by omega),if_pos (by omega),a0E,wS i (by omega),w64 (n:=s + q.getD i 0) (by omega)])) ?_
  exact ih (i + 1) _ (by omega) (by rw [hts,hs]) (by omega)
theorem c2d (q : List Int) (hq : ∀ x ∈ q,0 <= x /\ x <= 1000000000) (hl : q.length <= 1000000) : Ev (λ k=>puncheonref08_sum.f k q) q.sum:=by
 unfold puncheonref08_sum.f; exact c2c q hq hl q.length 0 0 (by omega) (by simp) (by omega)
end Go.Proofs.YtipjlneepponpaaGreat
namespace Go.Proofs.YtipjlneepponpaaGreat
open Go.RowKit
theorem a6s (q : List Int) (s : Nat) (y : Int) (h : s < q.length) : (q.set s y).sum = q.sum - q.getD s 0 + y:=by
 induction q generalizing s with
 | nil=>simp at h
 | cons a q ih=>
  cases s with
  | zero=>simp; omega
  | succ s=>
   have:=ih s (by simpa using h)
   simp only [List.set_cons_succ,List.sum_cons,List.getD_cons_succ,this]; omega
theorem a2W (q : List Int) (s t : Nat) (y : Int) (h : s < q.length) : (q.set s y).getD t 0 = if t = s then y else q.getD t 0:=by
 rw [List.getD_eq_getElem?_getD,List.getElem?_set]
 by_cases e : s = t
 · subst e; rw [if_pos rfl,if_pos h,if_pos rfl]; rfl
 · rw [if_neg e,if_neg (λ x=>e x.symm),List.getD_eq_getElem?_getD]
def q0F (c : List Int) (P n : Int) (s : Nat) : Int:=if c.getD s 0 * P / n = 0 then min (c.getD s 0) 1 else c.getD s 0 * P / n
def q0L (c : List Int) (P n : Int) : List Int:=mapR (q0F c P n)
def restL (c : List Int) (P n : Int) : List Int:=mapR (λ s=>c.getD s 0 * P % n)
def hadL (c : List Int) (P n : Int) : List Bool:=(List.range 256).map (λ s=>decide (c.getD s 0 * P / n = 0))
def a0Q (rest : List Int) : Nat -> List Int × List Bool -> List Int × List Bool
 | 0,st=>st
 | m + 1,st=>let r:=a0Q rest m st; (r.1.set (needN rest r.2 256).toNat (r.1.getD (needN rest r.2 256).toNat 0 + 1),r.2.set (needN rest r.2 256).toNat true)
def a0O (c : List Int) : Nat -> List Int -> List Int
 | 0,q=>q
 | m + 1,q=>let r:=a0O c m q; r.set (richN r c 256) (r.getD (richN r c 256) 0 - 1)
def giveM (c : List Int) (P n : Int) : Nat:=(P - (q0L c P n).sum).toNat
def normL (c : List Int) (r : Nat) : List Int:=
 let P : Int:=2 ^ r
 let n:=c.sum
 let g:=(a0Q (restL c P n) (giveM c P n) (q0L c P n,hadL c P n)).1
 a0O c (g.sum - P).toNat g
theorem c2e {f g : Nat -> Int} (h : ∀ s,s < 256 -> f s <= g s) : (mapR f).sum <= (mapR g).sum:=by
 unfold mapR
 have key : ∀ l : List Nat,(∀ s ∈ l,f s <= g s) -> (l.map f).sum <= (l.map g).sum:=by
  intro l
  induction l with
  | nil=>intro _; simp
  | cons a l ih=>
   intro hl
   have:=ih (λ s hs=>hl s (by simp [hs])); have:=hl a (by simp)
   simp only [List.map_cons,List.sum_cons]; omega
 exact key _ (λ s hs=>h s (List.mem_range.1 hs))
theorem b3i {c : List Int} (h : c.length = 256) : mapR (λ s=>c.getD s 0) = c:=by
 apply List.ext_getElem
 · rw [a1s,h]
 · intro i h1 h2; simp [mapR,List.getElem?_eq_getElem h2]
theorem b3j (f : Nat -> Int) (k : Int) : (mapR (λ s=>f s * k)).sum = (mapR f).sum * k:=by
 unfold mapR
 induction List.range 256 with
 | nil=>simp
 | cons a l ih=>simp only [List.map_cons,List.sum_cons,ih,Int.add_mul]
theorem c2f (f g : Nat -> Int) : (mapR (λ s=>f s + g s)).sum = (mapR f).sum + (mapR g).sum:=by
 unfold mapR
 induction List.range 256 with
 | nil=>simp
 | cons a l ih=>simp only [List.map_cons,List.sum_cons,ih]; omega
def freeN (had : List Bool) : Nat:=had.countP (λ b=>!b)
theorem c2g (c : List Int) (P n : Int) : ((freeN (hadL c P n) : Nat) : Int) = (mapR (λ s=>if c.getD s 0 * P / n = 0 then 0 else 1)).sum:=by
 unfold freeN hadL mapR
 induction List.range 256 with
 | nil=>simp
 | cons a l ih=>
  have e1 : ((if (!decide (c.getD a 0 * P / n = 0)) = true then 1 else 0 : Nat) : Int) = if c.getD a 0 * P / n = 0 then 0 else 1:=by
   by_cases e : c.getD a 0 * P / n = 0
   · rw [if_pos e,decide_eq_true e]; rfl
   · rw [if_neg e,decide_eq_false e]; rfl
  rw [List.map_cons,List.map_cons,List.countP_cons,List.sum_cons,Int.natCast_add,ih,e1]; omega
structure Can (c : List Int) (r : Nat) : Prop where
 len : c.length = 256
 nonneg : ∀ x ∈ c,0 <= x
 pos : 0 < c.sum
 le : c.sum <= 1073741824
 r1 : 1 <= r
 r12 : r <= 12
 many : c.countP (λ x=>decide (0 < x)) <= 2 ^ r
theorem Can.get {c : List Int} {r : Nat} (h : Can c r) (s : Nat) : 0 <= c.getD s 0 /\ c.getD s 0 <= c.sum:=by
 by_cases hs : s < c.length
 · exact ⟨h.nonneg _ (a2a hs),a5D h.nonneg (a2a hs)⟩
 · rw [List.getD_eq_getElem?_getD,List.getElem?_eq_none (by omega)]; have:=h.pos; simp; omega
theorem Can.q0 {c : List Int} {r : Nat} (h : Can c r) (s : Nat) : 0 <= q0F c (2 ^ r) c.sum s /\ q0F c (2 ^ r) c.sum s <= 4096 /\ (0 < q0F c (2 ^ r) c.sum s ↔ 0 < c.getD s 0) /\ c.getD s 0 * 2 ^ r <= (q0F c (2 ^ r) c.sum s + (if c.getD s 0 * 2 ^ r / c.sum = 0 then 0 else 1)) * c.sum:=by
 have hg:=h.get s
 have hp:=h.pos
 have h2:=a1u h.r12
 have hm0 : 0 <= c.getD s 0 * 2 ^ r:=Int.mul_nonneg hg.1 (by omega)
 have hd0 : 0 <= c.getD s 0 * 2 ^ r / c.sum:=Int.ediv_nonneg hm0 (by omega)
 have hdm:=Int.mul_ediv_add_emod (c.getD s 0 * 2 ^ r) c.sum
 have hml:=Int.emod_lt_of_pos (c.getD s 0 * 2 ^ r) hp
 have hmn:=Int.emod_nonneg (c.getD s 0 * 2 ^ r) (b:=c.sum) (by omega)
 have hle : c.getD s 0 * 2 ^ r / c.sum <= 2 ^ r:=by
  refine Int.ediv_le_of_le_mul hp ?_
  rw [Int.mul_comm]; exact Int.mul_le_mul_of_nonneg_left hg.2 (by omega)
 unfold q0F
 by_cases e : c.getD s 0 * 2 ^ r / c.sum = 0
 · rw [if_pos e,if_pos e]
   rw [e,Int.mul_zero,Int.zero_add] at hdm
   refine ⟨by omega,by omega,by omega,?_⟩
   by_cases e2 : c.getD s 0 = 0
   · rw [e2,show min (0 : Int) 1 = 0 by decide]; simp
   · rw [show min (c.getD s 0) 1 = 1 by omega]; omega
 · rw [if_neg e,if_neg e]
   refine ⟨hd0,by omega,⟨λ _=>?_,λ _=>by omega⟩,?_⟩
   · by_cases e2 : c.getD s 0 = 0
     · rw [e2] at e; simp at e
     · omega
   · rw [Int.add_mul,Int.one_mul,Int.mul_comm (c.getD s 0 * 2 ^ r / c.sum)]; omega
theorem Can.enough {c : List Int} {r : Nat} (h : Can c r) : (2 : Int) ^ r <= (q0L c (2 ^ r) c.sum).sum + freeN (hadL c (2 ^ r) c.sum):=by
 have h1 : (mapR (λ s=>c.getD s 0 * 2 ^ r)).sum <= (mapR (λ s=>(q0F c (2 ^ r) c.sum s + (if c.getD s 0 * 2 ^ r / c.sum = 0 then 0 else 1)) * c.sum)).sum:=c2e (λ s _=>(h.q0 s).2.2.2)
 rw [b3j,b3j,c2f,b3i h.len,<- c2g,Int.mul_comm c.sum] at h1
 exact Int.le_of_mul_le_mul_right h1 h.pos
theorem a8r {had : List Bool} (hl : had.length = 256) (h : 0 < freeN had) : ∃ s,s < 256 /\ had.getD s false = false:=by
 unfold freeN at h
 obtain ⟨b,hb,hbf⟩:=List.countP_pos_iff.1 h
 obtain ⟨s,hs,rfl⟩:=List.getElem_of_mem hb
 refine ⟨s,by omega,?_⟩
 rw [List.getD_eq_getElem?_getD,List.getElem?_eq_getElem hs]; simpa using hbf
theorem b3k {had : List Bool} {s : Nat} (hs : s < had.length) (h : had.getD s false = false) : freeN (had.set s true) + 1 = freeN had:=by
 unfold freeN
 induction had generalizing s with
 | nil=>simp at hs
 | cons a l ih=>
  cases s with
  | zero=>simp at h; subst h; simp
  | succ s=>
   have:=ih (s:=s) (by simpa using hs) (by simpa using h)
   simp only [List.set_cons_succ,List.countP_cons]; omega
structure Way (c q : List Int) : Prop where
 len : q.length = 256
 rng : ∀ s,0 <= q.getD s 0 /\ q.getD s 0 <= 100000
 iff : ∀ s,0 < q.getD s 0 ↔ 0 < c.getD s 0
theorem a4o {c : List Int} {r : Nat} (h : Can c r) : ∀ m,m <= giveM c (2 ^ r) c.sum ->
    let st:=a0Q (restL c (2 ^ r) c.sum) m (q0L c (2 ^ r) c.sum,hadL c (2 ^ r) c.sum)
    st.1.length = 256 /\ st.2.length = 256 /\ (∀ s,0 <= st.1.getD s 0 /\ st.1.getD s 0 <= 4096 + m) /\ (∀ s,0 < st.1.getD s 0 ↔ 0 < c.getD s 0) /\ st.1.sum = (q0L c (2 ^ r) c.sum).sum + m /\ freeN st.2 + m = freeN (hadL c (2 ^ r) c.sum) /\
     (∀ s,s < 256 -> st.2.getD s false = false -> 0 < c.getD s 0)
 | 0,_=>by
  have hlen : (q0L c (2 ^ r) c.sum).length = 256:=a1s _
  refine ⟨hlen,by simp [a0Q,hadL],λ s=>?_,λ s=>?_,by simp [a0Q],rfl,λ s hs hf=>?_⟩
  · show 0 <= (q0L c (2 ^ r) c.sum).getD s 0 /\ (q0L c (2 ^ r) c.sum).getD s 0 <= 4096 + ((0 : Nat) : Int)
    by_cases hs : s < 256
    · unfold q0L; rw [a3O _ hs]; have:=h.q0 s; exact ⟨this.1,by have:=this.2.1; omega⟩
    · rw [List.getD_eq_getElem?_getD,List.getElem?_eq_none (by omega)]; simp
  · show 0 < (q0L c (2 ^ r) c.sum).getD s 0 ↔ _
    by_cases hs : s < 256
    · unfold q0L; rw [a3O _ hs]; exact (h.q0 s).2.2.1
    · rw [List.getD_eq_getElem?_getD,List.getElem?_eq_none (by omega),List.getD_eq_getElem?_getD,List.getElem?_eq_none (by have:=h.len; omega)]
  · have hf2 : (hadL c (2 ^ r) c.sum).getD s false = false:=hf
    unfold hadL at hf2
    rw [List.getD_eq_getElem?_getD,List.getElem?_map,List.getElem?_range hs] at hf2
    simp only [Option.map_some,Option.getD_some,decide_eq_false_iff_not] at hf2
    have:=(h.get s).1
    by_cases e2 : c.getD s 0 = 0
    · rw [e2] at hf2; simp at hf2
    · omega
 | m + 1,hm=>by
  obtain ⟨h1,h2,h3,h4,h5,h6,h7⟩:=a4o h m (by omega)
  have hen:=h.enough
  obtain ⟨st,hst⟩ : ∃ st,st = a0Q (restL c (2 ^ r) c.sum) m (q0L c (2 ^ r) c.sum,hadL c (2 ^ r) c.sum):=⟨_,rfl⟩
  simp only [a0Q]
  rw [<- hst] at h1 h2 h3 h4 h5 h6 h7 ⊢
  have hM : (m : Int) + 1 <= 2 ^ r - (q0L c (2 ^ r) c.sum).sum:=by unfold giveM at hm; omega
  obtain ⟨s0,hs0,hf0⟩:=a8r h2 (by omega)
  have hn0:=a8q (restL c (2 ^ r) c.sum) st.2 hf0 256 hs0
  have hnl:=a4m (restL c (2 ^ r) c.sum) st.2 256
  obtain ⟨t,ht⟩ : ∃ t : Nat,needN (restL c (2 ^ r) c.sum) st.2 256 = t:=⟨_,(Int.toNat_of_nonneg hn0).symm⟩
  rw [ht] at hnl ⊢
  have htf:=hnl.2.2 (by omega)
  rw [Int.toNat_natCast] at htf ⊢
  have ht256 : t < 256:=by omega
  have hct:=h7 t ht256 htf
  have hg:=h3 t
  refine ⟨by rw [List.length_set]; exact h1,by rw [List.length_set]; exact h2,λ s=>?_,λ s=>?_,?_,?_,λ s hs hf=>?_⟩
  · rw [a2W _ _ _ _ (by omega)]
    have:=h3 s
    split <;> omega
  · rw [a2W _ _ _ _ (by omega)]
    by_cases e : s = t
    · subst e; rw [if_pos rfl]; exact ⟨λ _=>hct,λ _=>by omega⟩
    · rw [if_neg e]; exact h4 s
  · rw [a6s _ _ _ (by omega),h5]; omega
  · have:=b3k (had:=st.2) (s:=t) (by omega) htf; omega
  · refine h7 s hs ?_
    by_cases e : s = t
    · subst e; exact htf
    · rw [List.getD_eq_getElem?_getD,List.getElem?_set_ne (λ x=>e x.symm),<- List.getD_eq_getElem?_getD] at hf; exact hf
theorem c2h {q : List Int} (h : ∀ x ∈ q,0 <= x /\ x <= 1) : q.sum <= (q.countP (λ x=>decide (0 < x)) : Nat):=by
 induction q with
 | nil=>simp
 | cons a l ih=>
  have:=ih (λ x hx=>h x (by simp [hx]))
  have ha:=h a (by simp)
  rw [List.sum_cons,List.countP_cons]
  by_cases e : 0 < a
  · simp [e]; omega
  · simp [e]; omega
theorem c2i {c q : List Int} (hc : c.length = 256) (hq : q.length = 256) (h : ∀ s,0 < q.getD s 0 ↔ 0 < c.getD s 0) : q.countP (λ x=>decide (0 < x)) = c.countP (λ x=>decide (0 < x)):=by
 have e : ∀ l : List Int,l.length = 256 -> l.countP (λ x=>decide (0 < x)) = (List.range 256).countP (λ s=>decide (0 < l.getD s 0)):=by
  intro l hl
  have:=b3i hl
  conv=>lhs; rw [<- this]
  unfold mapR
  rw [List.countP_map]; rfl
 rw [e q hq,e c hc]
 exact List.countP_congr (λ s _=>by simp only [decide_eq_true_eq]; exact h s)
theorem a6t {c : List Int} {r : Nat} (h : Can c r) {q : List Int} (hq : Way c q) : ∀ m,m <= (q.sum - 2 ^ r).toNat ->
    Way c (a0O c m q) /\ (a0O c m q).sum = q.sum - m
 | 0,_=>⟨hq,by simp [a0O]⟩
 | m + 1,hm=>by
  obtain ⟨h1,h2⟩:=a6t h hq m (by omega)
  simp only [a0O]
  obtain ⟨t,ht⟩ : ∃ t,t = a0O c m q:=⟨_,rfl⟩
  rw [<- ht] at h1 h2 ⊢
  obtain ⟨b,hb⟩ : ∃ b,b = richN t c 256:=⟨_,rfl⟩
  have hbl:=a4n t c 256
  have hmax:=b3h t c 256
  rw [<- hb] at hbl hmax ⊢
  have hlen:=h1.len
  have hbig : 2 <= t.getD b 0:=by
   by_cases e : 2 <= t.getD b 0
   · exact e
   · exfalso
     have hle : t.sum <= (t.countP (λ x=>decide (0 < x)) : Nat):=c2h (λ x hx=>by
      obtain ⟨s,hs,rfl⟩:=List.getElem_of_mem hx
      have a:=hmax s (by omega); have a2:=h1.rng s
      rw [List.getD_eq_getElem?_getD,List.getElem?_eq_getElem hs,Option.getD_some] at a a2
      omega)
     rw [c2i h.len hlen h1.iff] at hle
     have hmny:=h.many
     have e2 : (2 : Int) ^ r = ((2 ^ r : Nat) : Int):=by simp
     have hmI : (m : Int) + 1 <= q.sum - 2 ^ r:=by omega
     rw [e2] at hmI; omega
  have hrb:=h1.rng b
  have hib:=h1.iff b
  refine ⟨⟨by rw [List.length_set]; exact hlen,λ s=>?_,λ s=>?_⟩,?_⟩
  · rw [a2W _ _ _ _ (by omega)]
    have:=h1.rng s
    split <;> omega
  · rw [a2W _ _ _ _ (by omega)]
    by_cases e : s = b
    · subst e; rw [if_pos rfl]; exact ⟨λ _=>hib.1 (by omega),λ _=>by omega⟩
    · rw [if_neg e]; exact h1.iff s
  · rw [a6s _ _ _ (by omega),h2]; omega
theorem a8s {c : List Int} {r : Nat} (h : Can c r) : Way c (a0Q (restL c (2 ^ r) c.sum) (giveM c (2 ^ r) c.sum) (q0L c (2 ^ r) c.sum,hadL c (2 ^ r) c.sum)).1 /\ 2 ^ r <= (a0Q (restL c (2 ^ r) c.sum) (giveM c (2 ^ r) c.sum) (q0L c (2 ^ r) c.sum,hadL c (2 ^ r) c.sum)).1.sum:=by
 obtain ⟨h1,h2,h3,h4,h5,h6,h7⟩:=a4o h _ (Nat.le_refl _)
 have h0 : 0 <= (q0L c (2 ^ r) c.sum).sum:=a2y (λ x hx=>by
  obtain ⟨v,hv,rfl⟩:=a6l hx; exact (h.q0 v).1)
 have hp:=a1u h.r12
 have hM : giveM c (2 ^ r) c.sum <= 4096:=by unfold giveM; omega
 refine ⟨⟨h1,λ s=>⟨(h3 s).1,by have:=(h3 s).2; omega⟩,h4⟩,?_⟩
 rw [h5]; unfold giveM; omega
theorem a4p {c : List Int} {r : Nat} (h : Can c r) : Good (normL c r) /\ (normL c r).sum = 2 ^ r /\ ∀ s,0 < (normL c r).getD s 0 ↔ 0 < c.getD s 0:=by
 obtain ⟨hw,hs⟩:=a8s h
 obtain ⟨h1,h2⟩:=a6t h hw _ (Nat.le_refl _)
 have hp:=a1u h.r12
 have e : normL c r = a0O c ((a0Q (restL c (2 ^ r) c.sum) (giveM c (2 ^ r) c.sum) (q0L c (2 ^ r) c.sum,hadL c (2 ^ r) c.sum)).1.sum - 2 ^ r).toNat (a0Q (restL c (2 ^ r) c.sum) (giveM c (2 ^ r) c.sum) (q0L c (2 ^ r) c.sum,hadL c (2 ^ r) c.sum)).1:=rfl
 rw [<- e] at h1 h2
 have hsum : (normL c r).sum = 2 ^ r:=by rw [h2]; omega
 refine ⟨⟨h1.len,λ x hx=>?_,by omega⟩,hsum,h1.iff⟩
 obtain ⟨s,hs,rfl⟩:=List.getElem_of_mem hx
 have:=h1.rng s
 rw [List.getD_eq_getElem?_getD,List.getElem?_eq_getElem hs] at this; exact this.1
theorem b3l {c : List Int} {r : Nat} (h : Can c r) : logC (normL c r) = r:=by
 obtain ⟨h1,h2,_⟩:=a4p h
 have hp:=a1u h.r12
 have hr : a0N (normL c r) = true:=rightC_iff.2 ⟨h1.len,h1.nonneg,by omega⟩
 unfold logC a0Y
 rw [if_pos hr,h2]
 exact a5E h.r1 h.r12 rfl
open Go.IntWalk Go.Proofs.YtipjlneepponpaaGreat.PRef Go.Proofs.YtipjlneepponpaaGreatW.PrintWords Go.Proofs.YtipjlneepponpaaGreatW.PrintLast Go.Proofs.YtipjlneepponpaaGreatW.PrintMore
section
variable (A : Option Addr) (cp : Nat) (c : List Int) (w : World)
theorem c2j (hr : (Kd.int .i64).C w A c.length c) (hc : c.length <= cp) : Calls Tryz.prog 123 #[.slice A c.length cp] w (Ret (.int .i64 (a0Y c)) w):=by
 obtain ⟨k,hk⟩:=(b1o c).rounds
 exact (puncheonref05_Total.calls k A cp c _ w hr hc hk).mono λ e w' h=>⟨h.1,h.2.below⟩
theorem b3m (hr : (Kd.int .i64).C w A c.length c) (hc : c.length <= cp) (hl : c.length <= 1000000) : Calls Tryz.prog 70 #[.slice A c.length cp] w (Ret (.int .i64 (manyC c)) w):=by
 obtain ⟨k,hk⟩:=(b2X c hl).rounds
 exact (puncheonref05_Many.calls k A cp c _ w hr hc hk).mono λ e w' h=>⟨h.1,h.2.below⟩
theorem c2k (r : Nat) (hr : r <= 30) : Calls Tryz.prog 124 #[.int .i64 r] w (Ret (.int .i64 ((2 ^ r : Nat) : Int)) w):=by
 obtain ⟨k,hk⟩:=(b1q r hr).rounds
 exact (puncheonref08_power.calls k r _ w hk).mono λ e w' h=>⟨h.1,h.2.below⟩
theorem c2l (hr : (Kd.int .i64).C w A c.length c) (hc : c.length <= cp) (hq : ∀ x ∈ c,0 <= x /\ x <= 1000000000) (hl : c.length <= 1000000) : Calls Tryz.prog 125 #[.slice A c.length cp] w (Ret (.int .i64 c.sum) w):=by
 obtain ⟨k,hk⟩:=(c2d c hq hl).rounds
 exact (puncheonref08_sum.calls k A cp c _ w hr hc hk).mono λ e w' h=>⟨h.1,h.2.below⟩
theorem c2m (B : Option Addr) (cb : Nat) (had : List Bool) (hr : (Kd.int .i64).C w A c.length c) (hc : c.length <= cp) (hb : Kd.bool.C w B had.length had) (hcb : had.length <= cb) (hl : c.length = 256) (hh : had.length = 256) : Calls Tryz.prog 126 #[.slice A c.length cp,.slice B had.length cb] w (Ret (.int .i64 (needN c had 256)) w):=by
 obtain ⟨k,hk⟩:=(c1Y c had hl hh).rounds
 exact (puncheonref08_neediest.calls k A cp c B cb had _ w hr hc hb hcb hk).mono λ e w' h=>⟨h.1,h.2.below⟩
theorem c2n (B : Option Addr) (cb : Nat) (q : List Int) (hq : (Kd.int .i64).C w B q.length q) (hcb : q.length <= cb) (hr : (Kd.int .i64).C w A c.length c) (hc : c.length <= cp) (hl : c.length = 256) (hh : q.length = 256) : Calls Tryz.prog 127 #[.slice B q.length cb,.slice A c.length cp] w (Ret (.int .i64 (richN q c 256)) w):=by
 obtain ⟨k,hk⟩:=(c2b q c hh hl).rounds
 exact (puncheonref08_richest.calls k B cb q A cp c _ w hq hcb hr hc hk).mono λ e w' h=>⟨h.1,h.2.below⟩
theorem c2o (hr : (Kd.int .i64).C w A c.length c) (hc : c.length <= cp) : Calls Tryz.prog 72 #[.slice A c.length cp] w (Ret (.int .i64 (logC c)) w):=by
 obtain ⟨k,hk⟩:=(a5G c).rounds
 exact (puncheonref08_Log.calls k A cp c _ w hr hc hk).mono λ e w' h=>⟨h.1,h.2.below⟩
end
def MadeI (xs : List Int) (w : World) (e : Ending) (w' : World) : Prop:=∃ v,e = .returned v /\ (Kd.int .i64).R 3 w' w.heap.size (λ _=>True) v xs /\ Below w.heap.size w w'
section
variable (A : Option Addr) (cp : Nat) (b : List Int) (w : World) (hr : (Kd.int .u8).C w A b.length b) (hc : b.length <= cp) (hb : Bytes b) (hl : b.length <= 1000000)
include hr hc hb hl
theorem c2q (c : Int) : Calls Tryz.prog 102 #[.slice A b.length cp,.int .i64 c] w (MadeI (histL (a0n b c)) w):=by
 obtain ⟨k,hk⟩:=(b3f b hb hl c).rounds
 exact (puncheonref06_For.calls k A cp b c _ w hr hc hk)
theorem c2r : Calls Tryz.prog 101 #[.slice A b.length cp] w (Ret (.int .i64 (widN b 256)) w):=by
 obtain ⟨k,hk⟩:=(c1O b hb hl).rounds
 exact (puncheonref06_Widest.calls k A cp b _ w hr hc hk)
theorem b3n : Calls Tryz.prog 48 #[.slice A b.length cp] w (MadeI (presN b 256) w):=by
 obtain ⟨k,hk⟩:=(c1R b hb hl).rounds
 exact (puncheonref06_Present.calls k A cp b _ w hr hc hk)
theorem b3o (i : Int) : Calls Tryz.prog 103 #[.slice A b.length cp,.int .i64 i] w (Ret (.int .i64 (ctxI b i)) w):=
 puncheonref06_At.calls A cp b i _ w hr hc (a8n b hb hl i)
end
theorem b3p (n m : Nat) (most : Int) (w : World) (hn : n < 2 ^ 40) (hm : m < 2 ^ 40) : Calls Tryz.prog 69 #[.int .i64 n,.int .i64 m,.int .i64 most] w (Ret (.int .i64 (pickI n m most)) w):=by
 obtain ⟨k,hk⟩:=(c1W n m most hn hm).rounds
 exact (puncheonref07_Pick.calls k n m most _ w hk)
theorem a8t (n : Nat) (hn : n <= 1000000) (w : World) : (Instr.makeSlice 47 (.int .i64 n) (.int .i64 n)).run Tryz.prog w = .ok (.slice (some ⟨w.heap.size,0,none⟩) n n) (w.alloc (.cells (madeCells #[.int .i64 0] n) 3)):=by
 obtain ⟨i0,hi,hzz⟩:=Option.map_eq_some_iff.1 a4d
 simp only [Prod.mk.injEq] at hzz
 obtain ⟨hz0,hz1,hz2⟩:=hzz
 have hr:=run_make (P:=Tryz.prog) w 47 3 i0 (.int .i64 0) Tryz.underlying47 hi hz0 .i64 .i64 (n : Int) (n : Int) (by omega) (by omega) (by rw [hz2]; omega) (by omega)
 rw [hz1] at hr
 simpa [Value.cells] using hr
theorem a6u {α : Type} {enc : α -> Value} {h1 : ∀ x,(enc x).oneCell' = true} (z0 : α) (t : TypeId) (hz : (enc z0).cells = #[enc z0]) (n : Nat) (hn : n <= 1000000) (W : World) (ok : Nat -> Prop) (hok : ok W.heap.size) (base : Nat) (hb : base <= W.heap.size) : (Kd.scalar enc h1).R t (W.alloc (.cells (madeCells #[enc z0] n) t)) base ok (.slice (some ⟨W.heap.size,0,none⟩) n n) (List.replicate n z0):=by
 have hr:=Kd.reps_made (R:=(Kd.scalar enc h1).M (W.alloc (.cells (madeCells #[enc z0] n) t)) base (λ k=>ok k /\ some k ≠ (Value.slice (some ⟨W.heap.size,0,none⟩) n n).ownBlock)) (z:=enc z0) (size:=1) (z0:=z0) (by rw [hz]; rfl) Nat.one_pos (by rw [hz]; rfl) n
 rw [hz,Nat.mul_one] at hr
 refine ⟨λ k hk=>by cases hk; exact hok,_,⟨?_,.inr ⟨W.heap.size,n,madeCells #[enc z0] n,by simp,hb,a0m W _,by simp,by unfold maxLen; omega,?_,?_⟩⟩,hr⟩
 · simp [size_madeCells]; exact (Nat.mul_one n).symm
 · rw [size_madeCells]; exact (Nat.mul_one n).symm
 · rw [List.length_replicate]; exact List.take_of_length_le (by simp [size_madeCells]; exact Nat.le_of_eq (Nat.mul_one n).symm)
end Go.Proofs.YtipjlneepponpaaGreat
namespace Go.Proofs.YtipjlneepponpaaGreat
open Go.RowKit Go.IntWalk Go.Proofs.YtipjlneepponpaaGreatW.PrintWords
theorem c2s : (Tryz.prog.info? 4).map (λ i=>(i.zero,i.size,i.bytes)) = some (some (.bool false),1,1):=by kernel_rfl
theorem c2t (n : Nat) (hn : n <= 1000000) (w : World) : (Instr.makeSlice 42 (.int .i64 n) (.int .i64 n)).run Tryz.prog w = .ok (.slice (some ⟨w.heap.size,0,none⟩) n n) (w.alloc (.cells (madeCells #[.bool false] n) 4)):=by
 obtain ⟨i0,hi,hzz⟩:=Option.map_eq_some_iff.1 c2s
 simp only [Prod.mk.injEq] at hzz
 obtain ⟨hz0,hz1,hz2⟩:=hzz
 have hr:=run_make (P:=Tryz.prog) w 42 4 i0 (.bool false) Tryz.underlying42 hi hz0 .i64 .i64 (n : Int) (n : Int) (by omega) (by omega) (by rw [hz2]; omega) (by omega)
 rw [hz1] at hr
 simpa [Value.cells] using hr
theorem c2u {e : TypeId} {W : World} {base : Nat} {ok : Nat -> Prop} {g n cap : Nat} {xs : List Bool} (h : Kd.bool.R e W base ok (.slice (some ⟨g,0,none⟩) n cap) xs) (i : Nat) (hi : i < n) :
    W.cell? ⟨g,i,none⟩ = some (.bool (xs.getD i false)) /\ W.frozen? ⟨g,i,none⟩ = false:=by
 obtain ⟨c,hl,hm,hc,hf⟩:=Kd.R_elem h false (i : Int) (by omega) (by omega)
 have hm' : c = [.bool (xs.getD (i : Int).toNat false)]:=hm
 subst hm'
 simp only [Int.toNat_natCast] at hc hf
 have e1 : i * Kd.bool.sz + 0 = i:=by show i * 1 + 0 = i; omega
 have h1:=hc 0 _ rfl
 have h2:=hf 0
 rw [e1] at h1 h2
 exact ⟨h1,h2⟩
structure Three (N : Nat) (w0 : World) (q r : List Int) (h : List Bool) (w : World) : Prop where
 q : (Kd.int .i64).R 3 w N (λ b=>b = N) (.slice (some ⟨N,0,none⟩) 256 256) q
 r : (Kd.int .i64).R 3 w N (λ b=>b = N + 1) (.slice (some ⟨N + 1,0,none⟩) 256 256) r
 h : Kd.bool.R 4 w N (λ b=>b = N + 2) (.slice (some ⟨N + 2,0,none⟩) 256 256) h
 below : Below N w0 w
theorem Three.setq {N : Nat} {w0 w : World} {q r : List Int} {h : List Bool} (H : Three N w0 q r h w) (s : Nat) (y : Int) : Three N w0 (q.set s y) r h (w.setCell ⟨N,s,none⟩ (.int .i64 y)):=
 ⟨Kd.R_putn H.q (s : Int) y,Kd.R_far (p:=⟨N,s,none⟩) H.r (λ k hk=>by show k ≠ N; omega) _,Kd.R_far (p:=⟨N,s,none⟩) H.h (λ k hk=>by show k ≠ N; omega) _,H.below.setCell (Nat.le_refl _) _⟩
theorem Three.setr {N : Nat} {w0 w : World} {q r : List Int} {h : List Bool} (H : Three N w0 q r h w) (s : Nat) (y : Int) : Three N w0 q (r.set s y) h (w.setCell ⟨N + 1,s,none⟩ (.int .i64 y)):=
 ⟨Kd.R_far (p:=⟨N + 1,s,none⟩) H.q (λ k hk=>by show k ≠ N + 1; omega) _,Kd.R_putn H.r (s : Int) y,Kd.R_far (p:=⟨N + 1,s,none⟩) H.h (λ k hk=>by show k ≠ N + 1; omega) _,H.below.setCell (by show N <= N + 1; omega) _⟩
theorem Three.seth {N : Nat} {w0 w : World} {q r : List Int} {h : List Bool} (H : Three N w0 q r h w) (s : Nat) (y : Bool) : Three N w0 q r (h.set s y) (w.setCell ⟨N + 2,s,none⟩ (.bool y)):=
 ⟨Kd.R_far (p:=⟨N + 2,s,none⟩) H.q (λ k hk=>by show k ≠ N + 2; omega) _,Kd.R_far (p:=⟨N + 2,s,none⟩) H.r (λ k hk=>by show k ≠ N + 2; omega) _,Kd.R_putn H.h (s : Int) y,H.below.setCell (by show N <= N + 2; omega) _⟩
theorem Three.later {N : Nat} {w0 w w' : World} {q r : List Int} {h : List Bool} (H : Three N w0 q r h w) (hb : Below w.heap.size w w') : Three N w0 q r h w':=
 ⟨Kd.R_below H.q hb,Kd.R_below H.r hb,Kd.R_below H.h hb,H.below.trans (hb.mono (by have:=(Kd.R_bound H.q).1 N rfl; omega))⟩
theorem Three.cells {N : Nat} {w0 w : World} {q r : List Int} {h : List Bool} (H : Three N w0 q r h w) (k : Nat) (hk : k < 256) :
    (w.cell? ⟨N,k,none⟩ = some (.int .i64 (q.getD k 0)) /\ w.frozen? ⟨N,k,none⟩ = false) /\ (w.cell? ⟨N + 1,k,none⟩ = some (.int .i64 (r.getD k 0)) /\ w.frozen? ⟨N + 1,k,none⟩ = false) /\ (w.cell? ⟨N + 1 + 1,k,none⟩ = some (.bool (h.getD k false)) /\ w.frozen? ⟨N + 1 + 1,k,none⟩ = false):=
 ⟨a1w H.q k hk,a1w H.r k hk,c2u H.h k hk⟩
theorem Three.at_ {N : Nat} {w0 w ww : World} {q r : List Int} {h : List Bool} {A : Option Addr} {c : List Int} (H : Three N w0 q r h ww) (hr : (Kd.int .i64).C w A c.length c) (hb : Below w.heap.size w w0) (hN : w0.heap.size = N) : (Kd.int .i64).C ww A c.length c:=
 Kd.C_below hr (hb.trans (H.below.mono (by have:=hb.size; omega)))
theorem a8u {W : World} {ad : Addr} {c : List Int} (h : (Kd.int .i64).C W (some ad) c.length c) (k : Nat) (hk : k < c.length) : W.cell? (ad.add k) = some (.int .i64 (c.getD k 0)):=by
 obtain ⟨ad',e,hc⟩:=a0C h k hk
 cases e; exact hc
theorem c2v (w : World) : Three w.heap.size w (List.replicate 256 0) (List.replicate 256 0) (List.replicate 256 false) (((w.alloc (.cells (madeCells #[.int .i64 0] 256) 3)).alloc (.cells (madeCells #[.int .i64 0] 256) 3)).alloc (.cells (madeCells #[.bool false] 256) 4)):=by
 have b1 : Below w.heap.size w (w.alloc (.cells (madeCells #[.int .i64 0] 256) 3)):=(Below.refl _ _).alloc (Nat.le_refl _) _
 have s1 : (w.alloc (.cells (madeCells #[.int .i64 0] 256) 3)).heap.size = w.heap.size + 1:=by simp
 have s2 : ((w.alloc (.cells (madeCells #[.int .i64 0] 256) 3)).alloc (.cells (madeCells #[.int .i64 0] 256) 3)).heap.size = w.heap.size + 2:=by simp
 refine ⟨Kd.R_alloc (Kd.R_alloc (a6u (enc:=Value.int .i64) (h1:=λ _=>rfl) (0 : Int) 3 rfl 256 (by omega) w (λ b=>b = w.heap.size) rfl w.heap.size (Nat.le_refl _)) _) _,Kd.R_alloc ?_ _,?_,((b1.alloc (by omega) _).alloc (by omega) _)⟩
 · have:=a6u (enc:=Value.int .i64) (h1:=λ _=>rfl) (0 : Int) 3 rfl 256 (by omega) (w.alloc (.cells (madeCells #[.int .i64 0] 256) 3)) (λ b=>b = w.heap.size + 1) s1 w.heap.size (by omega)
   rw [s1] at this; exact this
 · have:=a6u (enc:=Value.bool) (h1:=λ _=>rfl) false 4 rfl 256 (by omega) ((w.alloc (.cells (madeCells #[.int .i64 0] 256) 3)).alloc (.cells (madeCells #[.int .i64 0] 256) 3)) (λ b=>b = w.heap.size + 2) s2 w.heap.size (by omega)
   rw [s2] at this; exact this
def qTo (c : List Int) (P n : Int) (k : Nat) : List Int:=mapR (λ s=>if s < k then q0F c P n s else 0)
def rTo (c : List Int) (P n : Int) (k : Nat) : List Int:=mapR (λ s=>if s < k then c.getD s 0 * P % n else 0)
def hTo (c : List Int) (P n : Int) (k : Nat) : List Bool:=(List.range 256).map (λ s=>if s < k then decide (c.getD s 0 * P / n = 0) else false)
theorem a8v (c : List Int) (P n : Int) : qTo c P n 0 = List.replicate 256 0 /\ rTo c P n 0 = List.replicate 256 0 /\ hTo c P n 0 = List.replicate 256 false:=by
 have e : ∀ {α : Type} (z : α) (f : Nat -> α),(∀ s,f s = z) -> (List.range 256).map f = List.replicate 256 z:=λ z f h=>by
  rw [show f = λ _=>z from funext h,List.map_const',List.length_range]
 exact ⟨e 0 (λ s=>if s < 0 then q0F c P n s else 0) (λ s=>by rw [if_neg (by omega)]),e 0 (λ s=>if s < 0 then c.getD s 0 * P % n else 0) (λ s=>by rw [if_neg (by omega)]),e false (λ s=>if s < 0 then decide (c.getD s 0 * P / n = 0) else false) (λ s=>by rw [if_neg (by omega)])⟩
theorem a8w (c : List Int) (P n : Int) : qTo c P n 256 = q0L c P n /\ rTo c P n 256 = restL c P n /\ hTo c P n 256 = hadL c P n:=
 ⟨a2V (λ s h=>by rw [if_pos h]),a2V (λ s h=>by rw [if_pos h]),List.map_congr_left (λ s h=>by rw [if_pos (List.mem_range.1 h)])⟩
theorem a6v (f : Nat -> Int) {k : Nat} (hk : k < 256) : (mapR (λ s=>if s < k then f s else 0)).set k (f k) = mapR (λ s=>if s < k + 1 then f s else 0):=by
 rw [a6k _ hk]
 refine a2V (λ s _=>?_)
 by_cases e : s = k
 · subst e; rw [if_pos rfl,if_pos (by omega)]
 · rw [if_neg e]
   by_cases e2 : s < k
   · rw [if_pos e2,if_pos (by omega)]
   · rw [if_neg e2,if_neg (by omega)]
theorem b3q (c : List Int) (P n : Int) {k : Nat} (_ : k < 256) : (hTo c P n k).set k (decide (c.getD k 0 * P / n = 0)) = hTo c P n (k + 1):=by
 unfold hTo
 apply List.ext_getElem
 · simp
 · intro i h1 h2
   rw [List.getElem_set]
   simp only [List.getElem_map,List.getElem_range]
   by_cases e : k = i
   · subst e; rw [if_pos rfl,if_pos (by omega)]
   · rw [if_neg e]
     by_cases e2 : i < k
     · rw [if_pos e2,if_pos (by omega)]
     · rw [if_neg e2,if_neg (by omega)]
theorem c2w (c : List Int) (P n : Int) {k : Nat} (h : c.getD k 0 * P / n ≠ 0) (hk : k < 256) : hTo c P n (k + 1) = hTo c P n k:=by
 rw [<- b3q c P n hk,decide_eq_false h]
 unfold hTo
 apply List.ext_getElem
 · simp
 · intro i h1 h2
   rw [List.getElem_set]
   split
   · rename_i e; subst e; simp
   · rfl
theorem b3r (q : List Int) (k : Nat) (x y : Int) : (q.set k x).set k y = q.set k y:=by simp
theorem b3s {c : List Int} {k x n P m dq rm : Nat} (hk : k < 256) (hx : c.getD k 0 = x) (hm : m = x * P) (hd : dq = m / n) (hr : rm = m % n) :
    (dq = 0 -> (((qTo c P n k).set k (dq : Int)).set k (min (x : Int) 1) = qTo c P n (k + 1) /\ (hTo c P n k).set k true = hTo c P n (k + 1))) /\ (dq ≠ 0 -> ((qTo c P n k).set k (dq : Int) = qTo c P n (k + 1) /\ hTo c P n k = hTo c P n (k + 1))) /\ (rTo c P n k).set k (rm : Int) = rTo c P n (k + 1):=by
 have e1 : c.getD k 0 * (P : Int) / (n : Int) = dq:=by rw [hx,hd,hm]; simp
 have e2 : c.getD k 0 * (P : Int) % (n : Int) = rm:=by rw [hx,hr,hm]; simp
 refine ⟨λ hz=>⟨?_,?_⟩,λ hz=>⟨?_,?_⟩,?_⟩
 · rw [b3r]
   have:=a6v (q0F c P n) hk
   unfold q0F at this
   rw [e1,if_pos (by omega),hx] at this; exact this
 · have:=b3q c P n hk
   rw [e1,decide_eq_true (by omega)] at this; exact this
 · have:=a6v (q0F c P n) hk
   unfold q0F at this
   rw [e1,if_neg (by omega)] at this; exact this
 · exact (c2w c P n (by rw [e1]; omega) hk).symm
 · have:=a6v (λ s=>c.getD s 0 * (P : Int) % (n : Int)) hk
   rw [e2] at this; exact this
theorem a6w (A : Option Addr) (q : List Int) (w : World) (hr : (Kd.int .i64).C w A q.length q) (hl : q.length = 256) (hq : ∀ s,0 <= q.getD s 0 /\ q.getD s 0 <= 100000) : Calls Tryz.prog 125 #[.slice A 256 256] w (Ret (.int .i64 q.sum) w):=by
 have h:=c2l A 256 q w hr (by omega) (λ x hx=>by
  obtain ⟨s,hs,rfl⟩:=List.getElem_of_mem hx
  have:=hq s
  rw [List.getD_eq_getElem?_getD,List.getElem?_eq_getElem hs] at this
  exact ⟨this.1,by have:=this.2; simp only [Option.getD_some] at this; omega⟩) (by omega)
 rw [hl] at h; exact h
theorem c2x (A B : Option Addr) (c : List Int) (had : List Bool) (w : World) (hr : (Kd.int .i64).C w A c.length c) (hb : Kd.bool.C w B had.length had) (hl : c.length = 256) (hh : had.length = 256) : Calls Tryz.prog 126 #[.slice A 256 256,.slice B 256 256] w (Ret (.int .i64 (needN c had 256)) w):=by
 have h:=c2m A 256 c w B 256 had hr (by omega) hb (by omega) hl hh
 rw [hl,hh] at h; exact h
theorem c2y (A B : Option Addr) (cp : Nat) (c q : List Int) (w : World) (hq : (Kd.int .i64).C w B q.length q) (hr : (Kd.int .i64).C w A c.length c) (hc : c.length <= cp) (hl : c.length = 256) (hh : q.length = 256) : Calls Tryz.prog 127 #[.slice B 256 256,.slice A c.length cp] w (Ret (.int .i64 (richN q c 256)) w):=by
 have h:=c2n A cp c w B 256 q hq (by omega) hr hc hl hh
 rw [hh] at h; exact h
theorem c2z {c : List Int} {r m : Nat} (h : Can c r) (hm : m + 1 <= giveM c (2 ^ r) c.sum) : ∃ t : Nat,needN (restL c (2 ^ r) c.sum) (a0Q (restL c (2 ^ r) c.sum) m (q0L c (2 ^ r) c.sum,hadL c (2 ^ r) c.sum)).2 256 = t /\ t < 256:=by
 obtain ⟨h1,h2,h3,h4,h5,h6,h7⟩:=a4o h m (by omega)
 have hen:=h.enough
 have hM : (m : Int) + 1 <= 2 ^ r - (q0L c (2 ^ r) c.sum).sum:=by unfold giveM at hm; omega
 obtain ⟨s0,hs0,hf0⟩:=a8r h2 (by omega)
 have hn0:=a8q (restL c (2 ^ r) c.sum) _ hf0 256 hs0
 have hnl:=a4m (restL c (2 ^ r) c.sum) (a0Q (restL c (2 ^ r) c.sum) m (q0L c (2 ^ r) c.sum,hadL c (2 ^ r) c.sum)).2 256
 exact ⟨_,(Int.toNat_of_nonneg hn0).symm,by omega⟩
def a8x (c : List Int) (r : Nat) (w : World) (e : Ending) (w' : World) : Prop:=∃ v,e = .returned (.tuple #[v,.int .i64 0]) /\ (Kd.int .i64).R 3 w' w.heap.size (λ _=>True) v (normL c r) /\ Below w.heap.size w w'
set_option maxRecDepth 100000 in
set_option maxHeartbeats 2000000 in
theorem b3t (A : Option Addr) (cp : Nat) (c : List Int) (r : Nat) (w : World) (hr : (Kd.int .i64).C w A c.length c) (hcp : c.length <= cp) (h : Can c r) :
    Calls Tryz.prog 71 #[.slice A c.length cp,.int .i64 r] w (a8x c r w):=by
 have HR:=Lib.hid hr
 have HC:=Lib.hid h
 have hR : a0N c = true:=rightC_iff.2 ⟨h.len,h.nonneg,h.le⟩
 have hT : a0Y c = c.sum:=by unfold a0Y; rw [if_pos hR]
 have hM : manyC c <= 2 ^ r:=by unfold manyC; rw [if_pos hR]; exact h.many
 obtain ⟨n,hn⟩ : ∃ n : Nat,c.sum = n:=⟨c.sum.toNat,by have:=h.pos; omega⟩
 have HTot:=Lib.hid (c2j A cp c w hr hcp)
 rw [hT,hn] at HTot
 obtain ⟨P,hP⟩ : ∃ P : Nat,2 ^ r = P:=⟨_,rfl⟩
 have hPb : 1 <= P /\ P <= 4096:=by
  have:=a1u h.r12
  have e2 : (2 : Int) ^ r = ((2 ^ r : Nat) : Int):=by simp
  rw [e2,hP] at this; omega
 have HPow : Hid (∀ w,Calls Tryz.prog 124 #[.int .i64 r] w (Ret (.int .i64 (P : Int)) w)):=λ w=>by rw [<- hP]; exact c2k w r (by have:=h.r12; omega)
 have HN : Hid (c.sum = n /\ 2 ^ r = P /\ manyC c <= P):=⟨hn,hP,by omega⟩
 have hn0 : ((n : Int) == 0) = false:=by have:=h.pos; simp; omega
 have hn1 : 1 <= n /\ n <= 1073741824:=by have:=h.pos; have:=h.le; omega
 have hr1 : decide ((r : Int) < 1) = false:=decide_eq_false (by have:=h.r1; omega)
 have hr2 : decide (12 < (r : Int)) = false:=decide_eq_false (by have:=h.r12; omega)
 have HCP : Hid (c.length <= cp /\ c.length = 256):=⟨hcp,h.len⟩
 clear hr h hR hT hM hn hP hcp
 have hmi : ∀ w : World,(Instr.makeSlice 47 (.int .i64 256) (.int .i64 256)).run Tryz.prog w = .ok (.slice (some ⟨w.heap.size,0,none⟩) 256 256) (w.alloc (.cells (madeCells #[.int .i64 0] 256) 3)):=λ w=>a8t 256 (by omega) w
 have hmb : ∀ w : World,(Instr.makeSlice 42 (.int .i64 256) (.int .i64 256)).run Tryz.prog w = .ok (.slice (some ⟨w.heap.size,0,none⟩) 256 256) (w.alloc (.cells (madeCells #[.bool false] 256) 4)):=λ w=>c2t 256 (by omega) w
 go_enter Tryz.func71,Tryz.ntmps71
 go_wp2_with fail
 refine HTot.out.mono ?_
 rintro e w1 ⟨rfl,hb1⟩
 have HB1:=Lib.hid hb1
 clear hb1
 go_wp2_with fail
 refine (HPow.out w1).mono ?_
 rintro e w2 ⟨rfl,hb2⟩
 have HB2 : Hid (Below w.heap.size w w2):=HB1.out.trans (hb2.mono HB1.out.size)
 clear hb2
 go_wp2_with fail
 refine (b3m A cp c w2 (Kd.C_below HR.out HB2.out) HCP.out.1 (by have:=HCP.out.2; omega)).mono ?_
 rintro e w3 ⟨rfl,hb3⟩
 have HB3 : Hid (Below w.heap.size w w3):=HB2.out.trans (hb3.mono HB2.out.size)
 have hmp : decide (P < manyC c) = false:=decide_eq_false (by have:=HN.out.2.2; omega)
 clear hb3
 obtain ⟨N,hNs⟩ : ∃ N,N = w3.heap.size:=⟨_,rfl⟩
 have H3:=Lib.hid (c2v w3)
 rw [<- hNs] at H3
 go_wp2_with fail
 rw [<- hNs]
 obtain ⟨W,hW⟩ : ∃ W,W = ((w3.alloc (.cells (madeCells #[.int .i64 0] 256) 3)).alloc (.cells (madeCells #[.int .i64 0] 256) 3)).alloc (.cells (madeCells #[.bool false] 256) 4):=⟨_,rfl⟩
 rw [<- hW] at H3 ⊢
 have HNs:=Lib.hid hNs
 clear hW hNs hmi hmb hmp
 go_loopw [11] (λ kv wr=>∃ (k : Nat),kv = .int .i64 k /\ k <= 256 /\ Hid (Three N w3 (qTo c P n k) (rTo c P n k) (hTo c P n k) wr)) (λ kv _=>256 - (intOf kv).toNat)
 case atStart=>exact ⟨0,rfl,by omega,by obtain ⟨a,b,d⟩:=a8v c P n; show Three _ _ _ _ _ _; rw [a,b,d]; exact H3.out⟩
 case round=>
  obtain ⟨k,rfl,hk,H⟩:=hrel
  by_cases hlt : k < 256
  · have hC:=Kd.C_below HR.out (HB3.out.trans (H.out.below.mono (by have:=HB3.out.size; have:=HNs.out; omega)))
    have hcl:=HCP.out.2
    obtain ⟨ad,rfl,hcx⟩:=a0C hC k (by omega)
    have hcg:=HC.out.get k
    obtain ⟨x,hx⟩ : ∃ x : Nat,c.getD k 0 = x:=⟨(c.getD k 0).toNat,by omega⟩
    rw [hx] at hcx hcg
    have hkc : (k : Int) < (c.length : Int):=by omega
    obtain ⟨⟨q1,q2⟩,⟨r1,r2⟩,⟨b1,b2⟩⟩:=H.out.cells k (by omega)
    obtain ⟨m,hm⟩ : ∃ m : Nat,m = x * P:=⟨_,rfl⟩
    have hxn : x <= n:=by have:=HN.out.1; omega
    have hm42 : m <= 4398046511104:=by
     rw [hm]
     calc x * P <= 1073741824 * 4096:=Nat.mul_le_mul (by omega) (by omega)
      _ = 4398046511104:=by decide
    have hmI : (x : Int) * (P : Int) = (m : Int):=by rw [hm]; simp
    have hdq : (m : Int) / (n : Int) = ((m / n : Nat) : Int):=by simp
    have hrm : (m : Int) % (n : Int) = ((m % n : Nat) : Int):=by simp
    obtain ⟨dq,hdqe⟩ : ∃ dq,dq = m / n:=⟨_,rfl⟩
    obtain ⟨rm,hrme⟩ : ∃ rm,rm = m % n:=⟨_,rfl⟩
    rw [<- hdqe] at hdq
    rw [<- hrme] at hrm
    have hdb : dq <= 4398046511104:=by rw [hdqe]; exact Nat.le_trans (Nat.div_le_self _ _) hm42
    have hn00 : ¬ (n : Int) = 0:=by omega
    have HX:=Lib.hid (And.intro hx (And.intro hm (And.intro hdqe hrme)))
    clear hx hm hdqe hrme hcl hC
    have Ha:=Lib.hid (H.out.setq k (dq : Int))
    have Hb:=Lib.hid (Ha.out.setr k (rm : Int))
    have hqe : ((qTo c P n k).set k (dq : Int)).getD k 0 = dq:=by rw [a2W _ _ _ _ (by unfold qTo; rw [a1s]; omega),if_pos rfl]
    obtain ⟨⟨q3,q4⟩,⟨r3,r4⟩,⟨b3,b4⟩⟩:=Ha.out.cells k (by omega)
    obtain ⟨⟨q5,q6⟩,⟨r5,r6⟩,⟨b5,b6⟩⟩:=Hb.out.cells k (by omega)
    have c3:=a8u (Ha.out.at_ HR.out HB3.out HNs.out.symm) k (by omega)
    have c5:=a8u (Hb.out.at_ HR.out HB3.out HNs.out.symm) k (by omega)
    rw [hqe] at q3 q5
    rw [HX.out.1] at c3 c5
    clear hqe
    by_cases hz : dq = 0
    · have hzb : ((dq : Int) == 0) = true:=by rw [hz]; rfl
      have HZ:=Lib.hid hz
      clear hz
      have Hc:=Lib.hid (Hb.out.seth k true)
      obtain ⟨⟨q7,q8⟩,⟨r7,r8⟩,⟨b7,b8⟩⟩:=Hc.out.cells k (by omega)
      have c7:=a8u (Hc.out.at_ HR.out HB3.out HNs.out.symm) k (by omega)
      rw [HX.out.1] at c7
      have hE:=Lib.hid (Hc.out.setq k (min (x : Int) 1))
      go_wp2_with fail
      go_roundw
      case rel=>
       refine ⟨k + 1,by go_num,by omega,?_⟩
       obtain ⟨h3,_,h5⟩:=b3s (n:=n) hlt HX.out.1 HX.out.2.1 HX.out.2.2.1 HX.out.2.2.2
       obtain ⟨h3a,h3b⟩:=h3 HZ.out
       have:=hE.out
       rw [h3a,h3b,h5] at this; exact this
      case measure=>simp [intOf]; omega
    · have hzb : ((dq : Int) == 0) = false:=by simp; omega
      have HZ:=Lib.hid hz
      clear hz
      go_wp2_with fail
      go_roundw
      case rel=>
       refine ⟨k + 1,by go_num,by omega,?_⟩
       obtain ⟨_,h4,h5⟩:=b3s (n:=n) hlt HX.out.1 HX.out.2.1 HX.out.2.2.1 HX.out.2.2.2
       obtain ⟨h4a,h4b⟩:=h4 HZ.out
       have:=Hb.out
       rw [h4a,h4b,h5] at this; exact this
      case measure=>simp [intOf]; omega
  · obtain rfl : k = 256:=by omega
    have HE : Hid (Three N w3 (q0L c P n) (restL c P n) (hadL c P n) wr):=by
     obtain ⟨a,b,d⟩:=a8w c P n
     have:=H.out
     rw [a,b,d] at this; exact this
    have HPP : Hid ((P : Int) = 2 ^ r /\ (n : Int) = c.sum):=⟨by rw [<- HN.out.2.1]; simp,HN.out.1.symm⟩
    go_wp2_with fail
    obtain ⟨wo,hwo⟩ : ∃ wo : World,wo = wr:=⟨_,rfl⟩
    rw [<- hwo] at HE ⊢
    clear hwo H
    obtain ⟨M,hM⟩ : ∃ M,M = giveM c (2 ^ r) c.sum:=⟨_,rfl⟩
    have HM:=Lib.hid hM
    clear hM
    go_loopg [] M (λ kq wr=>∃ m,m + kq = M /\ Hid (Three N w3 (a0Q (restL c P n) m (q0L c P n,hadL c P n)).1 (restL c P n) (a0Q (restL c P n) m (q0L c P n,hadL c P n)).2 wr))
    case atStart=>exact ⟨0,by omega,HE.out⟩
    case round=>
     obtain ⟨m,hm,H⟩:=hrel
     have hw:=a4o HC.out m (by rw [<- HM.out]; omega)
     rw [<- HPP.out.1,<- HPP.out.2] at hw
     obtain ⟨st,hst⟩ : ∃ st,st = a0Q (restL c P n) m (q0L c P n,hadL c P n):=⟨_,rfl⟩
     rw [<- hst] at hw H
     have HST:=Lib.hid hst
     obtain ⟨g1,g2,g3,g4,g5,g6,g7⟩:=hw
     have hsz : N <= wr.heap.size:=by have:=(Kd.R_bound H.out.q).1 N rfl; omega
     have hgl : m <= 4096:=by
      have h0 : 0 <= (q0L c P n).sum:=by
       rw [HPP.out.1,HPP.out.2]; exact a2y (λ x hx=>by obtain ⟨v,hv,rfl⟩:=a6l hx; exact (HC.out.q0 v).1)
      have : M <= 4096:=by rw [HM.out,<- HPP.out.1,<- HPP.out.2]; unfold giveM; omega
      omega
     have HG:=Lib.hid (And.intro g1 (And.intro g2 (And.intro g3 (And.intro g5 hgl))))
     clear g1 g2 g3 g4 g5 g6 g7 hst hsz
     by_cases hlt : m < M
     · obtain ⟨t,ht,ht256⟩:=c2z HC.out (m:=m) (by rw [<- HM.out]; omega)
       rw [<- HPP.out.1,<- HPP.out.2,<- HST.out] at ht
       have hsl : decide (st.1.sum < (P : Int)) = true:=decide_eq_true (by
        have e:=HG.out.2.2.2.1
        have : (M : Int) = P - (q0L c P n).sum:=by
         have h2:=HM.out
         rw [<- HPP.out.1,<- HPP.out.2] at h2
         unfold giveM at h2; omega
        omega)
       have HT2:=Lib.hid ht
       clear ht
       go_wp2_with fail
       refine (a6w (some ⟨N,0,none⟩) st.1 wr (Kd.R_reads' H.out.q).2.2 HG.out.1 (λ s=>⟨(HG.out.2.2.1 s).1,by have:=(HG.out.2.2.1 s).2; have:=HG.out.2.2.2.2; omega⟩)).mono ?_
       rintro e w4 ⟨rfl,hb4⟩
       have H4:=Lib.hid (H.out.later hb4)
       clear hb4
       go_wp2_with fail
       refine (c2x (some ⟨N + 1,0,none⟩) (some ⟨N + 2,0,none⟩) (restL c P n) st.2 w4 (Kd.R_reads' H4.out.r).2.2 (Kd.R_reads' H4.out.h).2.2 (a1s _) HG.out.2.1).mono ?_
       rw [HT2.out]
       rintro e w5 ⟨rfl,hb5⟩
       have H5:=Lib.hid (H4.out.later hb5)
       clear hb5
       obtain ⟨⟨q3,q4⟩,⟨r3,r4⟩,⟨b3,b4⟩⟩:=H5.out.cells t ht256
       have H6:=Lib.hid (H5.out.seth t true)
       obtain ⟨⟨q5,q6⟩,⟨r5,r6⟩,⟨b5,b6⟩⟩:=H6.out.cells t ht256
       have htI : (t : Int) < 256:=by omega
       have hgt:=HG.out.2.2.1 t
       obtain ⟨y,hy⟩ : ∃ y,y = st.1.getD t 0:=⟨_,rfl⟩
       rw [<- hy] at q3 q5 hgt
       have hgt2 : y <= 8192:=by have:=HG.out.2.2.2.2; omega
       have HY:=Lib.hid hy
       have H7:=Lib.hid (H6.out.setq t (y + 1))
       clear hy
       go_wp2_with fail
       go_roundg (gk - 1)
       case rel=>
        refine ⟨m + 1,by omega,?_⟩
        show Three _ _ _ _ _ _
        simp only [a0Q]
        rw [<- HST.out,HT2.out,Int.toNat_natCast,<- HY.out]
        exact H7.out
       case measure=>omega
     · obtain rfl : m = M:=by omega
       have hsl : decide (st.1.sum < (P : Int)) = false:=decide_eq_false (by
        have e:=HG.out.2.2.2.1
        have : (P : Int) - (q0L c P n).sum <= (m : Int):=by
         have h2:=HM.out
         rw [<- HPP.out.1,<- HPP.out.2] at h2
         unfold giveM at h2; omega
        omega)
       go_wp2_with fail
       refine (a6w (some ⟨N,0,none⟩) st.1 wr (Kd.R_reads' H.out.q).2.2 HG.out.1 (λ s=>⟨(HG.out.2.2.1 s).1,by have:=(HG.out.2.2.1 s).2; have:=HG.out.2.2.2.2; omega⟩)).mono ?_
       rintro e w4 ⟨rfl,hb4⟩
       have H4:=Lib.hid (H.out.later hb4)
       clear hb4
       go_wp2_with fail
       have HGE:=a8s HC.out
       rw [<- HPP.out.1,<- HPP.out.2,show giveM c (P : Int) (n : Int) = m by rw [HM.out,<- HPP.out.1,<- HPP.out.2],<- HST.out] at HGE
       have HWay:=Lib.hid HGE
       clear HGE
       obtain ⟨M3,hM3⟩ : ∃ M3,M3 = (st.1.sum - (P : Int)).toNat:=⟨_,rfl⟩
       have HM3:=Lib.hid hM3
       obtain ⟨wp,hwp⟩ : ∃ wp : World,wp = w4:=⟨_,rfl⟩
       rw [<- hwp] at H4 ⊢
       clear hwp hM3 hsl
       go_loopg [] M3 (λ kq ws=>∃ j,j + kq = M3 /\ Hid (Three N w3 (a0O c j st.1) (restL c P n) st.2 ws))
       case atStart=>exact ⟨0,by omega,H4.out⟩
       case round=>
        obtain ⟨j,hj,H⟩:=hrel
        have hway:=a6t HC.out HWay.out.1 j (by rw [<- HPP.out.1,<- HM3.out]; omega)
        obtain ⟨u,hu⟩ : ∃ u,u = a0O c j st.1:=⟨_,rfl⟩
        rw [<- hu] at hway H
        have HU:=Lib.hid hu
        have HW:=Lib.hid hway
        have hbl:=a4n u c 256
        obtain ⟨t,ht⟩ : ∃ t,t = richN u c 256:=⟨_,rfl⟩
        rw [<- ht] at hbl
        have HT3:=Lib.hid ht
        have ht256 : t < 256:=by omega
        clear hu hway ht hbl
        by_cases hlt : j < M3
        · have hsl : decide ((P : Int) < u.sum) = true:=decide_eq_true (by have:=HW.out.2; have:=HM3.out; omega)
          go_wp2_with fail
          refine (a6w (some ⟨N,0,none⟩) u wr (Kd.R_reads' H.out.q).2.2 HW.out.1.len HW.out.1.rng).mono ?_
          rintro e w5 ⟨rfl,hb5⟩
          have H5:=Lib.hid (H.out.later hb5)
          clear hb5
          go_wp2_with fail
          refine (c2y A (some ⟨N,0,none⟩) cp c u w5 (Kd.R_reads' H5.out.q).2.2 (H5.out.at_ HR.out HB3.out HNs.out.symm) HCP.out.1 HCP.out.2 HW.out.1.len).mono ?_
          rw [<- HT3.out]
          rintro e w6 ⟨rfl,hb6⟩
          have H6:=Lib.hid (H5.out.later hb6)
          clear hb6
          obtain ⟨⟨q3,q4⟩,_,_⟩:=H6.out.cells t ht256
          have htI : (t : Int) < 256:=by omega
          have hgt:=HW.out.1.rng t
          obtain ⟨y,hy⟩ : ∃ y,y = u.getD t 0:=⟨_,rfl⟩
          rw [<- hy] at q3 hgt
          obtain ⟨hgt1,hgt2⟩:=hgt
          have HY:=Lib.hid hy
          have H7:=Lib.hid (H6.out.setq t (y - 1))
          clear hy
          go_wp2_with fail
          go_roundg (gk - 1)
          case rel=>
           refine ⟨j + 1,by omega,?_⟩
           show Three _ _ _ _ _ _
           simp only [a0O]
           rw [<- HU.out,<- HT3.out,<- HY.out]
           exact H7.out
          case measure=>omega
        · obtain rfl : j = M3:=by omega
          have hsl : decide ((P : Int) < u.sum) = false:=decide_eq_false (by have:=HW.out.2; have:=HM3.out; omega)
          go_wp2_with fail
          refine (a6w (some ⟨N,0,none⟩) u wr (Kd.R_reads' H.out.q).2.2 HW.out.1.len HW.out.1.rng).mono ?_
          rintro e w5 ⟨rfl,hb5⟩
          have H5:=Lib.hid (H.out.later hb5)
          clear hb5
          go_wp2_with fail
          go_ret2
          have hnorm : u = normL c r:=by
           rw [HU.out,HM3.out,HST.out]
           unfold normL
           simp only []
           rw [show (2 : Int) ^ r = P from HPP.out.1.symm,HPP.out.2.symm,show giveM c (P : Int) (n : Int) = m by rw [HM.out,<- HPP.out.1,<- HPP.out.2]]
          unfold a8x
          rw [<- hnorm]
          exact ⟨_,rfl,Kd.R_mono (Kd.R_lower H5.out.q (by have:=HB3.out.size; have:=HNs.out; omega)) (λ _ _=>trivial),HB3.out.trans (H5.out.below.mono (by have:=HB3.out.size; have:=HNs.out; omega))⟩
end Go.Proofs.YtipjlneepponpaaGreat
namespace Go.Proofs.YtipjlneepponpaaGreat
open Go.RowKit Go.Proofs.YtipjlneepponpaaGreatW.PrintWords Go.Proofs.YtipjlneepponpaaGreatW.PrintLast Go.Proofs.YtipjlneepponpaaGreatW.PrintMore
theorem a8y (b : List Int) (hb : Bytes b) : (histL b).sum = b.length:=by
 induction b with
 | nil=>
  unfold histL mapR
  have : ∀ l : List Nat,(l.map (λ (v : Nat)=>(((([] : List Int).count (v : Int)) : Nat) : Int))).sum = 0:=by
   intro l; induction l with
   | nil=>rfl
   | cons a l ih=>rw [List.map_cons,List.sum_cons,ih]; simp
  exact this _
 | cons x l ih=>
  have hx:=hb x (by simp)
  have ih2:=ih (λ y hy=>hb y (by simp [hy]))
  obtain ⟨v,rfl⟩ : ∃ v : Nat,x = v:=⟨x.toNat,by omega⟩
  have e : histL ((v : Int) :: l) = (histL l).set v ((l.count (v : Int) : Int) + 1):=by
   unfold histL
   rw [a6k _ (by omega)]
   refine a2V (λ u _=>?_)
   rw [List.count_cons]
   by_cases e : u = v
   · subst e; rw [if_pos rfl]; simp
   · rw [if_neg e]
     have : ¬ (v : Int) = (u : Int):=by omega
     simp [this]
  rw [e,a6s _ _ _ (by unfold histL; rw [a1s]; omega),a4U _ (by omega),ih2,List.length_cons]
  omega
theorem a8z (b : List Int) {s : Nat} (hs : s < 256) : 0 < (histL b).getD s 0 ↔ (s : Int) ∈ b:=by
 rw [a4U _ hs,<- List.count_pos_iff]; omega
theorem c2A (m : Nat) (h : m <= 256) : ceilI m <= 8 /\ m <= 2 ^ ceilI m:=by
 unfold ceilI a1L
 rcases Nat.lt_or_ge m 2 with h2 | h2
 · rw [show ((m : Int) - 1).toNat = 0 by omega]
   exact ⟨by decide,by have : Lib.bitLen 0 = 0:=by decide
                       rw [this]; omega⟩
 · obtain ⟨y,hy⟩ : ∃ y,y = m - 1:=⟨_,rfl⟩
   rw [show ((m : Int) - 1).toNat = y by omega]
   obtain ⟨a,b,c⟩:=a3m y (by omega) (by omega)
   have:=Lib.bitLen_le8' (y : Int) (by omega) (by omega)
   rw [Int.toNat_natCast] at this
   exact ⟨this,by omega⟩
theorem b3u (n m : Nat) (most : Nat) (h : m <= 256) (h8 : 8 <= most) (h12 : most <= 12) : ∃ r : Nat,pickI n m most = r /\ 5 <= r /\ r <= most /\ m <= 2 ^ r:=by
 obtain ⟨c1,c2⟩:=c2A m h
 have hr : 5 <= pickI n m most /\ pickI n m most <= most /\ (ceilI m : Int) <= pickI n m most:=by
  unfold pickI mx mn
  split <;> (split <;> (split <;> omega))
 refine ⟨(pickI n m most).toNat,by omega,by omega,by omega,?_⟩
 have : 2 ^ ceilI m <= 2 ^ (pickI n m most).toNat:=Nat.pow_le_pow_right (by omega) (by omega)
 omega
theorem b3v {c : List Int} (h : a0N c = true) : manyC c = c.countP (λ x=>decide (0 < x)):=by unfold manyC; rw [if_pos h]
theorem a4V (b : List Int) (hb : Bytes b) (hl : b.length <= 1000000) : a0N (histL b) = true:=
 rightC_iff.2 ⟨a1s _,λ x hx=>by obtain ⟨v,_,rfl⟩:=a6l hx; omega,by rw [a8y b hb]; omega⟩
theorem b3w {b : List Int} {r : Nat} (hb : Bytes b) (hl : b.length <= 1000000) (h0 : 0 < b.length) (h1 : 1 <= r) (h12 : r <= 12) (hm : manyC (histL b) <= 2 ^ r) : Can (histL b) r:=
 ⟨a1s _,λ x hx=>by obtain ⟨v,_,rfl⟩:=a6l hx; omega,by rw [a8y b hb]; omega,by rw [a8y b hb]; omega,h1,h12,by rw [<- b3v (a4V b hb hl)]; exact hm⟩
def zeroR (b : List Int) : Nat:=(pickI b.length (manyC (histL b)) 11).toNat
def zeroQ (b : List Int) : List Int:=normL (histL b) (zeroR b)
theorem a3R (b : List Int) : pickI b.length (manyC (histL b)) 11 = (zeroR b : Int) /\ 5 <= zeroR b /\ zeroR b <= 11 /\ manyC (histL b) <= 2 ^ zeroR b:=by
 obtain ⟨r,h1,h2,h3,h4⟩:=b3u b.length (manyC (histL b)) 11 (a4l _) (by omega) (by omega)
 have e : zeroR b = r:=by unfold zeroR; rw [show ((11 : Nat) : Int) = 11 from rfl] at h1; rw [h1]; simp
 rw [e]; exact ⟨h1,h2,h3,h4⟩
theorem b3x {lg : Int} {q : List Int} (h : logC q ≠ 0) (h2 : (logC q : Int) = lg) : badQ lg q = false:=by
 unfold badQ; exact decide_eq_false (λ x=>x.2 ⟨h,h2⟩)
theorem c2B (lg : Int) : badQ lg [] = false:=by unfold badQ; exact decide_eq_false (λ x=>by simp at x)
theorem a4W {b : List Int} (hb : Bytes b) (hl : b.length <= 1000000) (h0 : 0 < b.length) : Can (histL b) (zeroR b):=by
 have:=a3R b
 exact b3w hb hl h0 (by omega) (by omega) this.2.2.2
theorem c2C {b : List Int} (hb : Bytes b) (hl : b.length <= 1000000) (h0 : 0 < b.length) : a0u (zeroR b) true [zeroQ b] = true:=by
 have hc:=a4W hb hl h0
 have hz:=a3R b
 have hlog:=b3l hc
 have hlen:=(a4p hc).1.len
 unfold a0u
 rw [if_neg (by omega),if_neg (by
  simp only [List.any_cons,List.any_nil,Bool.or_false]
  rw [b3x (q:=zeroQ b) (by unfold zeroQ; omega) (by unfold zeroQ; rw [hlog])]; decide)]
 rw [if_pos rfl,decide_eq_true_eq]
 have h0 : 0 < (normL (histL b) (zeroR b)).length:=by omega
 refine ⟨List.length_singleton,?_⟩
 rw [List.getD_cons_zero]; unfold zeroQ; exact h0
theorem c2D {b : List Int} (hb : Bytes b) (hl : b.length <= 1000000) (h0 : 0 < b.length) : fitsM (zeroR b) true [zeroQ b] b = true:=by
 have hc:=a4W hb hl h0
 have hn:=a4p hc
 unfold fitsM
 rw [c2C hb hl h0,Bool.true_and,List.all_eq_true]
 intro i hi
 have hi':=List.mem_range.1 hi
 have hg:=hb.get i
 obtain ⟨x,hx⟩ : ∃ x : Nat,b.getD i 0 = x:=⟨(b.getD i 0).toNat,by omega⟩
 unfold fitAt
 rw [decide_eq_true_eq]
 have e0 : ([zeroQ b].getD (listI true (ctxI b i)) []) = normL (histL b) (zeroR b):=by unfold listI; rw [if_pos rfl,List.getD_cons_zero]; rfl
 rw [e0]
 refine ⟨by have:=hn.1.len; omega,?_⟩
 rw [hx,Int.toNat_natCast]
 have h1:=(hn.2.2 x).2 ((a8z b (by omega)).2 (by rw [<- hx]; exact a2a hi'))
 omega
def a0o (b : List Int) : Nat:=(pickI b.length (widN b 256) 9).toNat
def a1c (b : List Int) (c : Nat) : List Int:=if 0 < (a0n b (c : Int)).length then normL (histL (a0n b (c : Int))) (a0o b) else []
def a0y (b : List Int) : List (List Int):=(List.range 256).map (a1c b)
theorem a2q (b : List Int) : pickI b.length (widN b 256) 9 = (a0o b : Int) /\ 5 <= a0o b /\ a0o b <= 9 /\ widN b 256 <= 2 ^ a0o b:=by
 obtain ⟨r,h1,h2,h3,h4⟩:=b3u b.length (widN b 256) 9 (a6r b _) (by omega) (by omega)
 have e : a0o b = r:=by unfold a0o; rw [show ((9 : Nat) : Int) = 9 from rfl] at h1; rw [h1]; simp
 rw [e]; exact ⟨h1,h2,h3,h4⟩
theorem b3y (b : List Int) : ∀ k c,c < k -> manyC (histL (a0n b (c : Nat))) <= widN b k
 | 0,c,h=>by omega
 | k + 1,c,h=>by
  simp only [widN]
  by_cases e : c = k
  · subst e; omega
  · have:=b3y b k c (by omega); omega
theorem c2E (b : List Int) (c : Int) : (a0n b c).length <= b.length:=a3P b c b.length
theorem a4X {b : List Int} (hb : Bytes b) (hl : b.length <= 1000000) {c : Nat} (hc : c < 256) (h0 : 0 < (a0n b (c : Int)).length) : Can (histL (a0n b (c : Int))) (a0o b):=by
 have h1:=a2q b
 have h2:=b3y b 256 c hc
 have h3:=c2E b (c : Int)
 exact b3w (b3d hb _ _) (by omega) h0 (by omega) (by omega) (by omega)
theorem a6x (b : List Int) : (a0y b).length = 256:=by simp [a0y]
theorem a6y (b : List Int) {c : Nat} (h : c < 256) : (a0y b).getD c [] = a1c b c:=by
 unfold a0y; rw [List.getD_eq_getElem?_getD,List.getElem?_map,List.getElem?_range h]; rfl
theorem c2F {b : List Int} (hb : Bytes b) (hl : b.length <= 1000000) : a0u (a0o b) false (a0y b) = true:=by
 have hz:=a2q b
 unfold a0u
 rw [if_neg (by omega),if_neg]
 · rw [if_neg (by decide),decide_eq_true_eq]; exact a6x b
 · rw [Bool.not_eq_true,List.any_eq_false]
   intro q hq
   unfold a0y at hq
   obtain ⟨c,hc,rfl⟩:=List.mem_map.1 hq
   unfold a1c
   split
   · rename_i h0
     have hlog:=b3l (a4X hb hl (List.mem_range.1 hc) h0)
     rw [b3x (by omega) (by rw [hlog])]; decide
   · rw [c2B]; decide
theorem c2G {b : List Int} (hb : Bytes b) (hl : b.length <= 1000000) : fitsM (a0o b) false (a0y b) b = true:=by
 unfold fitsM
 rw [c2F hb hl,Bool.true_and,List.all_eq_true]
 intro i hi
 have hi':=List.mem_range.1 hi
 have hg:=hb.get i
 have hcr:=a3K hb i hi'
 obtain ⟨x,hx⟩ : ∃ x : Nat,b.getD i 0 = x:=⟨(b.getD i 0).toNat,by omega⟩
 obtain ⟨c,hc⟩ : ∃ c : Nat,ctxI b i = c:=⟨(ctxI b i).toNat,by omega⟩
 have hmem : b.getD i 0 ∈ a0n b (c : Int):=by
  unfold a0n pkL
  exact List.mem_map.2 ⟨i,List.mem_filter.2 ⟨hi,by rw [decide_eq_true_eq]; exact hc⟩,rfl⟩
 have hpos : 0 < (a0n b (c : Int)).length:=List.length_pos_of_mem hmem
 have hcan:=a4X hb hl (c:=c) (by omega) hpos
 have hn:=a4p hcan
 have e : (a0y b).getD (listI false (ctxI b i)) [] = normL (histL (a0n b (c : Int))) (a0o b):=by
  rw [hc]
  show (a0y b).getD ((c : Int)).toNat [] = _
  rw [Int.toNat_natCast,a6y b (by omega)]
  unfold a1c; rw [if_pos hpos]
 unfold fitAt
 rw [decide_eq_true_eq,e]
 refine ⟨by have:=hn.1.len; omega,?_⟩
 rw [hx,Int.toNat_natCast]
 have h1:=(hn.2.2 x).2 ((a8z _ (by omega)).2 (by rw [<- hx]; exact hmem))
 omega
end Go.Proofs.YtipjlneepponpaaGreat
namespace Go.Proofs.YtipjlneepponpaaGreat
open Go.RowKit Go.IntWalk Go.Proofs.YtipjlneepponpaaGreatW.PrintWords
def MadeM (lg : Int) (one : Bool) (qs : List (List Int)) (w : World) (e : Ending) (w' : World) : Prop:=∃ v,e = .returned (.agg #[.int .i64 lg,.bool one,v]) /\ kq.R 47 w' w.heap.size (λ _=>True) v qs /\ Below w.heap.size w w'
theorem cell3 {w : World} {mb : Nat} {a b c : Value} {t : Nat} (h : w.heap[mb]? = some (.cells #[a,b,c] t (0,0))) : (w.cell? ⟨mb,0,none⟩ = some a /\ w.cell? ⟨mb,1,none⟩ = some b /\ w.cell? ⟨mb,2,none⟩ = some c) /\ (w.frozen? ⟨mb,0,none⟩ = false /\ w.frozen? ⟨mb,1,none⟩ = false /\ w.frozen? ⟨mb,2,none⟩ = false):=
 ⟨⟨(a0a h 0).trans rfl,(a0a h 1).trans rfl,(a0a h 2).trans rfl⟩,a0e h 0,a0e h 1,a0e h 2⟩
theorem a4Y : (Tryz.prog.info? 31).map (·.size) = some 3:=by kernel_rfl
theorem a6z : (Tryz.prog.info? 47).map (λ i=>(i.zero,i.size,i.bytes)) = some (some (.slice none 0 0),1,24):=by kernel_rfl
theorem b3z (n : Nat) (hn : n <= 1000000) (w : World) : (Instr.makeSlice 29 (.int .i64 n) (.int .i64 n)).run Tryz.prog w = .ok (.slice (some ⟨w.heap.size,0,none⟩) n n) (w.alloc (.cells (madeCells #[.slice none 0 0] n) 47)):=by
 obtain ⟨i0,hi,hzz⟩:=Option.map_eq_some_iff.1 a6z
 simp only [Prod.mk.injEq] at hzz
 obtain ⟨hz0,hz1,hz2⟩:=hzz
 have hr:=run_make (P:=Tryz.prog) w 29 47 i0 (.slice none 0 0) Tryz.underlying29 hi hz0 .i64 .i64 (n : Int) (n : Int) (by omega) (by omega) (by rw [hz2]; omega) (by omega)
 rw [hz1] at hr
 simpa [Value.cells] using hr
theorem a6A {w w' : World} (h : Below w.heap.size w w') (o : Obj) : Below w.heap.size w (w'.alloc o):=h.alloc h.size o
theorem a6B {w w' : World} (h : Below w.heap.size w w') : Below w.heap.size w w'.drew:=h.drew
theorem a0g {w w1 w2 : World} (h : Below w.heap.size w w1) (k : Below w1.heap.size w1 w2) : Below w.heap.size w w2:=h.trans (k.mono h.size)
theorem b3A {w w1 w2 : World} (h : Below w.heap.size w w1) (k : Below w1.heap.size w1 w2) : Below w.heap.size w w2:=h.trans (k.mono h.size)
theorem c2J {w w' : World} (h : Below w.heap.size w w') {k o : Nat} (hk : w.heap.size <= k) (a : Value) : Below w.heap.size w (w'.setCell ⟨k,o,none⟩ a):=h.setCell hk a
theorem c2K (n : Nat) (hn : n <= 1000000) (W : World) (mb base : Nat) (hne : W.heap.size ≠ mb) (hb : base <= W.heap.size) : kq.R 47 (W.alloc (.cells (madeCells #[.slice none 0 0] n) 47)) base (λ k=>k ≠ mb) (.slice (some ⟨W.heap.size,0,none⟩) n n) (List.replicate n []):=by
 have hr:=Kd.reps_made (R:=kq.M (W.alloc (.cells (madeCells #[.slice none 0 0] n) 47)) base (λ k=>k ≠ mb /\ some k ≠ (Value.slice (some ⟨W.heap.size,0,none⟩) n n).ownBlock)) (z:=.slice none 0 0) (size:=1) (z0:=([] : List Int)) rfl Nat.one_pos ⟨.slice none 0 0,rfl,Kd.R_nil _ _ _ _ _⟩ n
 have e : (Value.slice none 0 0).cells = #[.slice none 0 0]:=rfl
 rw [e,Nat.mul_one] at hr
 refine ⟨λ k hk=>by cases hk; exact hne,_,⟨?_,.inr ⟨W.heap.size,n,madeCells #[.slice none 0 0] n,by simp,hb,a0m W _,by simp,by unfold maxLen; omega,?_,?_⟩⟩,hr⟩
 · simp [size_madeCells]; exact (Nat.mul_one n).symm
 · rw [size_madeCells]; exact (Nat.mul_one n).symm
 · rw [List.length_replicate]; exact List.take_of_length_le (by simp [size_madeCells]; exact Nat.le_of_eq (Nat.mul_one n).symm)
theorem a6C (W : World) (mb base : Nat) (hne : W.heap.size ≠ mb) (hb : base <= W.heap.size) : kq.R 47 (W.alloc (.cells (madeCells #[.slice none 0 0] 256) 47)) base (λ k=>k ≠ mb) (.slice (some ⟨W.heap.size,0,none⟩) 256 256) (List.replicate 256 []):=c2K 256 (by omega) W mb base hne hb
theorem b3B (W : World) (o : Obj) (mb base : Nat) (hne : W.heap.size + 1 ≠ mb) (hb : base <= W.heap.size + 1) : kq.R 47 ((W.alloc o).alloc (.cells (madeCells #[.slice none 0 0] 256) 47)) base (λ k=>k ≠ mb) (.slice (some ⟨W.heap.size + 1,0,none⟩) 256 256) (List.replicate 256 []):=by
 have e : (W.alloc o).heap.size = W.heap.size + 1:=by simp
 have:=a6C (W.alloc o) mb base (by rw [e]; exact hne) (by rw [e]; exact hb)
 rw [e] at this; exact this
theorem c2L (W : World) (m mb base : Nat) (x y z : Value) (hne : W.heap.size ≠ mb) (hb : base <= W.heap.size) : kq.R 47 ((((W.setCell ⟨m,0,none⟩ x).setCell ⟨m,1,none⟩ y).setCell ⟨m,2,none⟩ z).alloc (.cells (madeCells #[.slice none 0 0] 256) 47)) base (λ k=>k ≠ mb) (.slice (some ⟨W.heap.size,0,none⟩) 256 256) (List.replicate 256 []):=by
 have e : (((W.setCell ⟨m,0,none⟩ x).setCell ⟨m,1,none⟩ y).setCell ⟨m,2,none⟩ z).heap.size = W.heap.size:=by simp [World.setCell]
 have:=a6C (((W.setCell ⟨m,0,none⟩ x).setCell ⟨m,1,none⟩ y).setCell ⟨m,2,none⟩ z) mb base (by rw [e]; exact hne) (by rw [e]; exact hb)
 rw [e] at this; exact this
theorem a2D (W : World) (a o : Obj) : ((W.alloc a).alloc o).heap[W.heap.size + 1]? = some o:=by
 have:=a0m (W.alloc a) o
 rw [show (W.alloc a).heap.size = W.heap.size + 1 by simp] at this; exact this
theorem a1D {w : World} {mb : Nat} {t : Nat} {a b c : Value} (h : w.heap[mb]? = some (.cells #[a,b,c] t (0,0))) (x y z : Value) : (((w.setCell ⟨mb,0,none⟩ x).setCell ⟨mb,1,none⟩ y).setCell ⟨mb,2,none⟩ z).heap[mb]? = some (.cells #[x,y,z] t (0,0)):=by
 rw [a0v (a0v (a0v h 0 _) 1 _) 2]; rfl
theorem a2E {α : Type} {d : Kd α} {e : Nat} {w : World} {base mb : Nat} {v : Value} {xs : List α} (h : d.R e w base (λ k=>k ≠ mb) v xs) (x y z : Value) : d.R e (((w.setCell ⟨mb,0,none⟩ x).setCell ⟨mb,1,none⟩ y).setCell ⟨mb,2,none⟩ z) base (λ k=>k ≠ mb) v xs:=
 Kd.R_far (p:=⟨mb,2,none⟩) (Kd.R_far (p:=⟨mb,1,none⟩) (Kd.R_far (p:=⟨mb,0,none⟩) h (λ _ hk=>hk) x) (λ _ hk=>hk) y) (λ _ hk=>hk) z
theorem b3C {w : World} {g : Nat} {o : Obj} (h : w.heap[g]? = some o) : w.drew.heap[g]? = some o:=h
theorem b3D {e : TypeId} {W : World} {base g n cap : Nat} {ok okp : Nat -> Prop} {xs : List (List Int)} {v : Value} {x : List Int} (h : kq.R e W base ok (.slice (some ⟨g,0,none⟩) n cap) xs) (i : Nat) (hi : i < n) (hq : (Kd.int .i64).R 3 W base okp v x) (hokp : ∀ k,okp k -> ok k /\ k ≠ g) :
    kq.R e (W.setCell ⟨g,i,none⟩ v) base ok (.slice (some ⟨g,0,none⟩) n cap) (xs.set i x):=by
 obtain ⟨c,hcl,_,hcc,_⟩:=Kd.R_elem h [] (i : Int) (by omega) (by omega)
 have hs : kq.sz = 1:=rfl
 have:=(Kd.R_seg h (i : Int) (by omega) (by omega) (seg:=[v]) (j:=0) (x':=x) (okp:=okp) hcl hcc (by rw [hs]; simp) ⟨v,by rw [List.drop_of_length_le (by rw [hcl,hs]; simp)]; simp,hq⟩ hokp).1
 simp only [Int.toNat_natCast,hs,Nat.mul_one,Nat.add_zero] at this
 exact this
def a2X (b : List Int) (i : Nat) : List (List Int):=(List.range 256).map (λ (c : Nat)=>if (c : Int) ∈ (presN b 256).take i then a1c b c else [])
theorem a6D (b : List Int) {i : Nat} (h : i < (presN b 256).length) : ∃ c : Nat,(presN b 256).getD i 0 = c /\ c < 256 /\ 0 < (a0n b (c : Int)).length:=by
 have hm:=a2a h
 obtain ⟨z,hz⟩ : ∃ z,z = (presN b 256).getD i 0:=⟨_,rfl⟩
 rw [<- hz] at hm ⊢
 unfold presN at hm
 obtain ⟨c,hc,rfl⟩:=List.mem_map.1 hm
 obtain ⟨h1,h2⟩:=List.mem_filter.1 hc
 exact ⟨c,rfl,List.mem_range.1 h1,by simpa using h2⟩
theorem b3E (b : List Int) : a2X b 0 = List.replicate 256 []:=by
 unfold a2X
 rw [<- List.length_range (n:=256),<- List.map_const',List.length_range]
 exact List.map_congr_left (λ c _=>by rw [if_neg (by simp)])
theorem b3F (b : List Int) {i c : Nat} (h : i < (presN b 256).length) (hc : (presN b 256).getD i 0 = (c : Int)) : (a2X b i).set c (a1c b c) = a2X b (i + 1):=by
 have e : (presN b 256).take (i + 1) = (presN b 256).take i ++ [(c : Int)]:=by
  rw [List.take_succ_eq_append_getElem h,<- hc,List.getD_eq_getElem?_getD,List.getElem?_eq_getElem h]; rfl
 unfold a2X
 apply List.ext_getElem
 · simp
 · intro k h1 h2
   rw [List.getElem_set]
   simp only [List.getElem_map,List.getElem_range,e,List.mem_append,List.mem_singleton]
   by_cases hk : c = k
   · subst hk; rw [if_pos rfl,if_pos (.inr rfl)]
   · rw [if_neg hk]
     by_cases h3 : (k : Int) ∈ (presN b 256).take i
     · rw [if_pos h3,if_pos (.inl h3)]
     · rw [if_neg h3,if_neg (λ x=>x.elim h3 (λ y=>by omega))]
theorem b3G (b : List Int) : a2X b (presN b 256).length = a0y b:=by
 unfold a2X a0y
 refine List.map_congr_left (λ c hc=>?_)
 rw [List.take_length]
 by_cases h : (c : Int) ∈ presN b 256
 · rw [if_pos h]
 · rw [if_neg h]
   unfold a1c
   rw [if_neg (λ h2=>h ?_)]
   unfold presN
   exact List.mem_map.2 ⟨c,List.mem_filter.2 ⟨hc,by simpa using h2⟩,rfl⟩
structure FirstRel (b : List Int) (W1 : World) (mb g i : Nat) (w : World) : Prop where
 blk : w.heap[mb]? = some (.cells #[.int .i64 (a0o b),.bool false,.slice (some ⟨g,0,none⟩) 256 256] 31 (0,0))
 row : kq.R 47 w W1.heap.size (λ k=>k ≠ mb) (.slice (some ⟨g,0,none⟩) 256 256) (a2X b i)
 below : Below W1.heap.size W1 w
def a8B (lg : Int) (w : World) (s3 : Value) (wx : World) : Prop:=∃ mb g : Nat,s3 = .pointer (some ⟨mb,0,none⟩) /\ w.heap.size <= mb /\ w.heap.size <= g /\ mb ≠ g /\ wx.heap[mb]? = some (.cells #[.int .i64 lg,.bool false,.slice (some ⟨g,0,none⟩) 256 256] 31 (0,0)) /\
 kq.R 47 wx w.heap.size (λ k=>k ≠ mb) (.slice (some ⟨g,0,none⟩) 256 256) (List.replicate 256 []) /\ Below w.heap.size w wx
theorem b3H {e : TypeId} {W : World} {base g n cap : Nat} {ok : Nat -> Prop} {xs : List (List Int)} (h : kq.R e W base ok (.slice (some ⟨g,0,none⟩) n cap) xs) (i : Nat) (hi : i < n) : (∃ u,W.cell? ⟨g,i,none⟩ = some u) /\ W.frozen? ⟨g,i,none⟩ = false:=by
 obtain ⟨c,hcl,hm,hcc,hf⟩:=Kd.R_elem h [] (i : Int) (by omega) (by omega)
 obtain ⟨v,rfl,_⟩:=hm
 have h1:=hcc 0 v rfl
 have h2:=hf 0
 have hs : kq.sz = 1:=rfl
 simp only [Int.toNat_natCast,hs,Nat.mul_one,Nat.add_zero] at h1 h2
 exact ⟨⟨v,h1⟩,h2⟩
theorem c2M {b : List Int} {W1 w5 w6 : World} {mb g i c Nb n cpp cq : Nat} {Ap Aq : Option Addr} (hi : i < (presN b 256).length) (hc : (presN b 256).getD i 0 = (c : Int)) (hc256 : c < 256) (hpk : 0 < (a0n b (c : Int)).length) (hne : mb ≠ g) (H : FirstRel b W1 mb g i w6) (hp : (Kd.int .i64).R 3 w6 Nb (λ _=>True) (.slice Ap n cpp) (presN b 256)) (hg : g < Nb /\ mb < Nb)
    (hq : (Kd.int .i64).R 3 w6 w5.heap.size (λ _=>True) (.slice Aq (normL (histL (a0n b (c : Int))) (a0o b)).length cq) (normL (histL (a0n b (c : Int))) (a0o b))) (hs : mb < w5.heap.size /\ g < w5.heap.size) (hw : W1.heap.size <= w5.heap.size) :
    FirstRel b W1 mb g (i + 1) (w6.setCell ⟨g,c,none⟩ (.slice Aq (normL (histL (a0n b (c : Int))) (a0o b)).length cq)).drew /\ (Kd.int .i64).R 3 (w6.setCell ⟨g,c,none⟩ (.slice Aq (normL (histL (a0n b (c : Int))) (a0o b)).length cq)).drew Nb (λ _=>True) (.slice Ap n cpp) (presN b 256):=by
 have hfq : a1c b c = normL (histL (a0n b (c : Int))) (a0o b):=by unfold a1c; rw [if_pos hpk]
 refine ⟨⟨?_,?_,?_⟩,?_⟩
 · exact a1V H.blk (p:=⟨g,c,none⟩) hne _
 · rw [<- b3F b hi hc,hfq]
   refine Kd.R_drew (b3D H.row c hc256 (Kd.R_lower (Kd.R_mono (Kd.R_bound hq) (ok':=λ k=>k ≠ mb /\ k ≠ g) (λ k hk=>?_)) hw) (λ k hk=>hk))
   have:=hk.2.1; omega
 · exact (H.below.setCell (by have:=((Kd.R_bound H.row).1 g rfl).2.1; exact this) _).drew
 · refine Kd.R_drew (Kd.R_mono (Kd.R_far (p:=⟨g,c,none⟩) (Kd.R_bound hp) (λ k hk=>?_) _) (λ _ _=>trivial))
   have:=hk.2.1; show k ≠ g; omega
theorem c2N {b : List Int} {w W1 wr : World} {mb g : Nat} (hb : Below w.heap.size w W1) (hlt : w.heap.size < W1.heap.size) (hk : wr.heap[w.heap.size]? = some (.cells #[.int .i64 0,.bool false,.slice none 0 0] 31 (0,0))) (H : FirstRel b W1 mb g (presN b 256).length wr) :
    (((wr.setCell ⟨w.heap.size,0,none⟩ (.int .i64 (a0o b))).setCell ⟨w.heap.size,1,none⟩ (.bool false)).setCell ⟨w.heap.size,2,none⟩ (.slice (some ⟨g,0,none⟩) 256 256)).heap[w.heap.size]? = some (.cells #[.int .i64 (a0o b),.bool false,.slice (some ⟨g,0,none⟩) 256 256] 31 (0,0)) /\
    MadeM (a0o b) false (a0y b) w (.returned (.agg #[.int .i64 (a0o b),.bool false,.slice (some ⟨g,0,none⟩) 256 256])) (((wr.setCell ⟨w.heap.size,0,none⟩ (.int .i64 (a0o b))).setCell ⟨w.heap.size,1,none⟩ (.bool false)).setCell ⟨w.heap.size,2,none⟩ (.slice (some ⟨g,0,none⟩) 256 256)):=by
 refine ⟨a1D hk _ _ _,_,rfl,?_,?_⟩
 · have h1 : kq.R 47 wr w.heap.size (λ k=>k ≠ w.heap.size) (.slice (some ⟨g,0,none⟩) 256 256) (a0y b):=by
     rw [<- b3G]
     exact Kd.R_mono (Kd.R_lower (Kd.R_bound H.row) (Nat.le_of_lt hlt)) (λ k hk=>by have:=hk.2.1; omega)
   exact Kd.R_mono (a2E h1 _ _ _) (λ _ _=>trivial)
 · exact (((hb.trans (H.below.mono hb.size)).setCell (Nat.le_refl _) _).setCell (Nat.le_refl _) _).setCell (Nat.le_refl _) _
theorem b3I {lg : Int} {W1 wx : World} {mb : Nat} (g : Nat) (hd : wx.heap[mb]? = some (.cells #[.int .i64 lg,.bool false,.slice (some ⟨g,0,none⟩) 256 256] 31 (0,0))) (he : kq.R 47 wx W1.heap.size (λ k=>k ≠ mb) (.slice (some ⟨g,0,none⟩) 256 256) (List.replicate 256 [])) (hf : Below W1.heap.size W1 wx) (h1 : W1.heap.size <= mb) (h2 : W1.heap.size <= g) (h3 : mb ≠ g) : a8B lg W1 (.pointer (some ⟨mb,0,none⟩)) wx:=⟨mb,g,rfl,h1,h2,h3,hd,he,hf⟩
set_option maxRecDepth 100000 in
set_option maxHeartbeats 4000000 in
theorem c2O (A : Option Addr) (cp : Nat) (b : List Int) (w : World) (hr : (Kd.int .u8).C w A b.length b) (hc : b.length <= cp) (hb : Bytes b) (hl : b.length <= 1000000) :
    Calls Tryz.prog 47 #[.slice A b.length cp] w (MadeM (a0o b) false (a0y b) w):=by
 obtain ⟨W1,hW1⟩ : ∃ W1,W1 = w.alloc (.cells #[.int .i64 0,.bool false,.slice none 0 0] 31):=⟨_,rfl⟩
 have hb1 : Below w.heap.size w W1:=by rw [hW1]; exact (Below.refl w.heap.size w).alloc (Nat.le_refl _) _
 have hk1 : W1.heap[w.heap.size]? = some (.cells #[.int .i64 0,.bool false,.slice none 0 0] 31 (0,0)):=by rw [hW1]; exact a0m _ _
 have HB1:=Lib.hid hb1
 have HK1:=Lib.hid hk1
 have HR:=Lib.hid hr
 have HX:=Lib.hid (And.intro hc (And.intro hb hl))
 have hmk : ∀ w : World,(Instr.makeSlice 29 (.int .i64 256) (.int .i64 256)).run Tryz.prog w = .ok (.slice (some ⟨w.heap.size,0,none⟩) 256 256) (w.alloc (.cells (madeCells #[.slice none 0 0] 256) 47)):=λ w=>b3z 256 (by omega) w
 clear hb1 hk1 hr hc hb hl
 go_enter Tryz.func47,Tryz.ntmps47
 go_wp2_with fail
 rw [<- hW1]
 clear hW1
 go_cut [3] (λ s3 wx=>a8B (a0o b) W1 s3 wx)
 case first=>
  go_region_held3 (λ w'=>Below W1.heap.size W1 w') ((first | assumption | ((repeat' (first | assumption | exact Below.refl _ _ | refine a6A ?_ _ | refine a6B ?_ | refine c2J ?_ ?_ _)) <;> first | omega | (simp; done) | (simp; omega))))
   (first
    | (go_at_call 101; refine (c2r A cp b _ (Kd.C_below HR.out (a0g HB1.out (by first | assumption | exact (Below.refl _ _).drew | exact a6A (by assumption) _ | exact a6B (by assumption)))) HX.out.1 HX.out.2.1 HX.out.2.2).mono ?_; rintro e w2 ⟨rfl,hb2⟩; have hS2:=b3A (by first | assumption | exact (Below.refl _ _).drew | exact a6A (by assumption) _ | exact a6B (by assumption)) hb2; obtain ⟨hc2,hf2⟩:=bcell hb2; have hz2:=hb2.size; have hy2:=hS2.size; (try have hq2 : W1.heap.size < w2.heap.size:=by (have:=hb2.size; simp at this; omega)); (try have hp2 : W1.heap.size + 1 < w2.heap.size:=by (have:=hb2.size; simp at this; omega)))
    | (go_at_call 69; refine (b3p b.length (widN b 256) 9 _ (by have:=HX.out.2.2; omega) (by have:=a6r b 256; omega)).mono ?_; rw [(a2q b).1]; rintro e w3 ⟨rfl,hb3⟩; have hS3:=b3A (by first | assumption | exact a6A (by assumption) _ | exact a6B (by assumption)) hb3; obtain ⟨hc3,hf3⟩:=bcell hb3; have hz3:=hb3.size; have hy3:=hS3.size; (try have hq3 : w2.heap.size < w3.heap.size:=by (have:=hb3.size; simp at this; omega)); (try have hp3 : w2.heap.size + 1 < w3.heap.size:=by (have:=hb3.size; simp at this; omega)); (try have ho3 : W1.heap.size < w3.heap.size:=by omega); (try have hn3 : W1.heap.size + 1 < w3.heap.size:=by omega)))
  all_goals
   go_wp2_with fail
   go_meet
   refine' b3I _ ?_ ?_ ?_ ?_ ?_ ?_
   rotate_left 1
   · repeat' (with_reducible (first | exact a0m _ _ | exact a2D _ _ _ | refine a1D (a:=.int .i64 0) (b:=.bool false) (c:=.slice none 0 0) ?_ _ _ _ | refine b3C ?_ | refine a0l ?_ hb3 | refine a0l ?_ hb2 | refine a0r ?_ _))
   · repeat' (with_reducible (first | refine a6C _ _ _ ?_ ?_ | refine b3B _ _ _ _ ?_ ?_ | refine c2L _ _ _ _ _ _ _ ?_ ?_ | refine a2E ?_ _ _ _ | refine Kd.R_drew ?_ | refine Kd.R_below ?_ hb3 | refine Kd.R_below ?_ hb2 | refine Kd.R_alloc ?_ _))
     all_goals omega
   · assumption
   all_goals omega
 case rest=>
  obtain ⟨mb,g,rfl,hmb,hg,hne,hblk,hrow,hbl⟩:=hcut
  have HP:=Lib.hid (And.intro hmb (And.intro hg hne))
  have HF : Hid (FirstRel b W1 mb g 0 wc):=⟨hblk,by rw [b3E]; exact hrow,hbl⟩
  clear hmb hg hne hblk hrow hbl
  go_wp2_with fail
  refine (b3n A cp b wc (Kd.C_below HR.out (a0g HB1.out HF.out.below)) HX.out.1 HX.out.2.1 HX.out.2.2).mono ?_
  rintro e w4 ⟨vp,rfl,hvp,hb4⟩
  obtain ⟨Ap,cpp,rfl⟩:=Kd.R_slice hvp
  have hgw : g < wc.heap.size:=((Kd.R_bound HF.out.row).1 g rfl).2.2.1
  have HV:=Lib.hid (And.intro hvp (And.intro hgw (a0f HF.out.blk)))
  have H4 : Hid (FirstRel b W1 mb g 0 w4):=⟨a0l HF.out.blk hb4,Kd.R_below HF.out.row hb4,HF.out.below.trans (hb4.mono HF.out.below.size)⟩
  have HN : Hid ((presN b 256).length <= 256):=a3Q b 256
  have hn256:=HN.out
  obtain ⟨Nb,hNb⟩ : ∃ Nb,Nb = wc.heap.size:=⟨_,rfl⟩
  rw [<- hNb] at HV
  clear hvp hb4 HF hgw hNb
  go_wp2_with fail
  go_loopw [5] (λ kv wr=>∃ (i : Nat),kv = .int .i64 i /\ i <= (presN b 256).length /\ Hid (FirstRel b W1 mb g i wr /\ (Kd.int .i64).R 3 wr Nb (λ _=>True) (.slice Ap (presN b 256).length cpp) (presN b 256))) (λ kv _=>(presN b 256).length - (intOf kv).toNat)
  case atStart=>exact ⟨0,rfl,by omega,H4.out,HV.out.1⟩
  case round=>
   obtain ⟨i,rfl,hi,H⟩:=hrel
   by_cases hlt : i < (presN b 256).length
   · obtain ⟨ad,rfl,hcx⟩:=a0C (Kd.R_reads' H.out.2).2.2 i hlt
     obtain ⟨c,hc,hc256,hpk⟩:=a6D b hlt
     rw [hc] at hcx
     obtain ⟨⟨m0,m1,m2⟩,_⟩:=cell3 H.out.1.blk
     have HC:=Lib.hid (And.intro hc (And.intro hc256 (And.intro hpk hlt)))
     have hiI : (i : Int) < ((presN b 256).length : Int):=by omega
     clear hc hpk
     go_wp2_with fail
     go_region_held3 (λ w'=>w'.cell? (ad.add i) = some (.int .i64 c) /\ w'.cell? ⟨mb,0,none⟩ = some (.int .i64 (a0o b)) /\ w'.cell? ⟨mb,2,none⟩ = some (.slice (some ⟨g,0,none⟩) 256 256)) ((repeat' apply And.intro) <;> first | assumption)
      (first
       | (go_at_call 102; refine (c2q A cp b _ (Kd.C_below HR.out (a0g HB1.out H.out.1.below.drew)) HX.out.1 HX.out.2.1 HX.out.2.2 (c : Int)).mono ?_; rintro e w5 ⟨vf,rfl,hvf,hb5⟩; obtain ⟨Af,cf,rfl⟩:=Kd.R_slice hvf; have h1:=a0t (w:=wr) ⟨hb5.os,hb5.tape,hb5.output,hb5.size,hb5.block⟩ hcx; have h2:=a0t (w:=wr) ⟨hb5.os,hb5.tape,hb5.output,hb5.size,hb5.block⟩ m0; have h3:=a0t (w:=wr) ⟨hb5.os,hb5.tape,hb5.output,hb5.size,hb5.block⟩ m2; have HVF:=Lib.hid (And.intro (Kd.R_reads' hvf).2 hb5); clear hvf hb5)
       | (go_at_call 71; refine (b3t Af cf (histL (a0n b (c : Int))) (a0o b) w5 HVF.out.1.2 HVF.out.1.1 (a4X HX.out.2.1 HX.out.2.2 hc256 HC.out.2.2.1)).mono ?_; rintro e w6 ⟨vq,rfl,hvq,hb6⟩; obtain ⟨Aq,cq,rfl⟩:=Kd.R_slice hvq; have k1:=a0t hb6 h1; have k2:=a0t hb6 h2; have k3:=a0t hb6 h3; have HVQ:=Lib.hid (And.intro hvq hb6); clear hvq hb6))
     have hb16 : Below wr.heap.size wr w6:=a0g (w1:=w5) (by have hb:=HVF.out.2; exact ⟨hb.os,hb.tape,hb.output,hb.size,hb.block⟩) HVQ.out.2
     have H6 : Hid (FirstRel b W1 mb g i w6 /\ (Kd.int .i64).R 3 w6 Nb (λ _=>True) (.slice (some ad) (presN b 256).length cpp) (presN b 256)):=⟨⟨a0l H.out.1.blk hb16,Kd.R_below H.out.1.row hb16,H.out.1.below.trans (hb16.mono H.out.1.below.size)⟩,Kd.R_below H.out.2 hb16⟩
     have hs5 : Hid (mb < w5.heap.size /\ g < w5.heap.size):=by
      have h1:=a0f H.out.1.blk
      have h2:=((Kd.R_bound H.out.1.row).1 g rfl).2.2.1
      have h3 : wr.heap.size <= w5.heap.size:=HVF.out.2.size
      exact ⟨by omega,by omega⟩
     obtain ⟨⟨gv,g1⟩,g2⟩:=b3H H6.out.1.row c hc256
     have hcI : (c : Int) < 256:=by omega
     have HE:=Lib.hid (c2M HC.out.2.2.2 HC.out.1 hc256 HC.out.2.2.1 HP.out.2.2 H6.out.1 H6.out.2 HV.out.2 HVQ.out.1 hs5.out (Nat.le_trans (H.out.1.below.size) HVF.out.2.size))
     clear hb16
     go_wp2_with fail
     go_region
     all_goals
      go_wp2_with fail
      go_roundw
      case rel=>exact ⟨i + 1,by go_num,by omega,HE.out⟩
      case measure=>simp [intOf]; omega
   · obtain rfl : i = (presN b 256).length:=by omega
     obtain ⟨⟨m0,m1,m2⟩,⟨f0,f1,f2⟩⟩:=cell3 H.out.1.blk
     have hkw:=a0l (a0l HK1.out (Below.refl _ _)) H.out.1.below
     obtain ⟨⟨n0,n1,n2⟩,⟨e0,e1,e2⟩⟩:=cell3 hkw
     have HKW:=Lib.hid hkw
     clear hkw
     have HE:=Lib.hid (c2N HB1.out (a0f HK1.out) HKW.out H.out.1)
     go_wp2_with fail
     refine bodyPost_ret ?_ rfl HE.out.2
     exact results_cell_row (fn:=Tryz.f47) (p:=2) (ty:=31) rfl _ _ _ _ _ _ _ rfl HE.out.1 Tryz.underlying31 rfl a4Y
def ofR (b : List Int) (one : Bool) : Nat:=if one then zeroR b else a0o b
def ofQ (b : List Int) (one : Bool) : List (List Int):=if one then [zeroQ b] else a0y b
theorem a3p {b : List Int} {one : Bool} (hb : Bytes b) (hl : b.length <= 131072) (h0 : 0 < b.length) : canM (ofR b one) one (ofQ b one) b = true:=by
 unfold canM
 rw [decide_eq_true hl,Bool.true_and]
 cases one with
 | true=>exact c2D hb (by omega) h0
 | false=>exact c2G hb (by omega)
theorem a4Z (κ : IntKind) (e : TypeId) (W : World) (base : Nat) (ok : Nat -> Prop) (hok : ok W.heap.size) (hb : base <= W.heap.size) (xs : List Int) (hl : xs.length <= 1000000) : (Kd.int κ).R e (W.alloc (.cells (xs.map (Value.int κ)).toArray e)) base ok (.slice (some ⟨W.heap.size,0,none⟩) xs.length xs.length) xs:=by
 refine Kd.R_of_own (h1:=λ _=>rfl) ⟨by simp [encs],.inr ⟨W.heap.size,xs.length,_,rfl,hb,a0m W _,Nat.le_refl _,by unfold maxLen; omega,by simp,?_⟩⟩ (λ k hk=>by cases hk; exact hok)
 rw [Nat.mul_one,show (xs.map (Value.int κ)).toArray.toList = encs (Value.int κ) xs from rfl,List.take_of_length_le (by rw [a2G]; exact Nat.le_refl _)]
theorem c2Q {a b : List Int} (ha : Bytes a) (hb : Bytes b) : ((strOfNums a).toList == (strOfNums b).toList) = decide (a = b):=by
 have e : ∀ l : List Int,(strOfNums l).toList = l.map (λ x=>UInt8.ofNat x.toNat):=by
  intro l; unfold strOfNums; simp
 rw [e a,e b]
 by_cases h : a = b
 · subst h; simp
 · rw [decide_eq_false h]
   simp only [beq_eq_false_iff_ne,ne_eq]
   intro he
   apply h
   have inj : ∀ (a b : List Int),Bytes a -> Bytes b -> a.map (λ x=>UInt8.ofNat x.toNat) = b.map (λ x=>UInt8.ofNat x.toNat) -> a = b:=by
    intro a
    induction a with
    | nil=>intro b _ _ h; cases b with
     | nil=>rfl
     | cons y b=>simp at h
    | cons x a ih=>
     intro b hxa hyb h
     cases b with
     | nil=>simp at h
     | cons y b=>
      rw [List.map_cons,List.map_cons,List.cons.injEq] at h
      have hx:=hxa x (by simp)
      have hy:=hyb y (by simp)
      have h1:=congrArg UInt8.toNat h.1
      simp only [UInt8.toNat_ofNat'] at h1
      have : x = y:=by omega
      rw [this,ih b (λ z hz=>hxa z (by simp [hz])) (λ z hz=>hyb z (by simp [hz])) h.2]
   exact inj a b ha hb he
set_option maxRecDepth 100000 in
theorem b3J (A B : Option Addr) (ca cb : Nat) (a b : List Int) (w : World) (ha : (Kd.int .u8).C w A a.length a) (hb : (Kd.int .u8).C w B b.length b) (hya : Bytes a) (hyb : Bytes b) :
    Calls Tryz.prog 10 #[.slice A a.length ca,.slice B b.length cb] w λ e w'=>e = .returned (.bool (decide (a = b))) /\ w = w':=by
 have h1:=Kd.C_string (P:=Tryz.prog) (c:=ca) Tryz.underlying22 Tryz.underlying5 Tryz.underlying9 ha
 have h2:=Kd.C_string (P:=Tryz.prog) (c:=cb) Tryz.underlying22 Tryz.underlying5 Tryz.underlying9 hb
 rw [<- c2Q hya hyb]
 obtain ⟨x,hx⟩ : ∃ x,x = strOfNums a:=⟨_,rfl⟩
 obtain ⟨y,hy⟩ : ∃ y,y = strOfNums b:=⟨_,rfl⟩
 rw [<- hx] at h1 ⊢
 rw [<- hy] at h2 ⊢
 clear hx hy ha hb hya hyb
 go_enter Tryz.func10,Tryz.ntmps10
 go_wp2_with fail
 go_ret
 exact ⟨rfl,rfl⟩
theorem b3K (A B : Option Addr) (ca cb : Nat) (p : List Int) (w : World) (ha : (Kd.int .u8).C w A p.length p) (hb : (Kd.int .u8).C w B p.length p) (hp : Bytes p) : Calls Tryz.prog 10 #[.slice A p.length ca,.slice B p.length cb] w (λ e w'=>e = .returned (.bool true) /\ w = w'):=by
 have:=b3J A B ca cb p p w ha hb hp hp
 rw [decide_eq_true rfl] at this; exact this
structure MAt (mb : Nat) (lg : Int) (one : Bool) (A : Option Addr) (c : Nat) (qs : List (List Int)) (w : World) : Prop where
 blk : w.heap[mb]? = some (.cells #[.int .i64 lg,.bool one,.slice A qs.length c] 31 (0,0))
 row : kq.C w A qs.length qs
theorem MAt.later {mb : Nat} {lg : Int} {one : Bool} {A : Option Addr} {c : Nat} {qs : List (List Int)} {w w' : World} (h : MAt mb lg one A c qs w) (hb : Below w.heap.size w w') : MAt mb lg one A c qs w':=⟨a0l h.blk hb,Kd.C_below h.row hb⟩
theorem MAt.new {lg : Int} {one : Bool} {A : Option Addr} {c : Nat} {qs : List (List Int)} {w w0 : World} (h : kq.R 47 w w0.heap.size (λ _=>True) (.slice A qs.length c) qs) : MAt w.heap.size lg one A c qs (w.alloc (.cells #[.int .i64 lg,.bool one,.slice A qs.length c] 31)):=
 ⟨a0m _ _,Kd.C_alloc (Kd.R_reads' h).2.2 _⟩
set_option maxRecDepth 100000 in
set_option maxHeartbeats 2000000 in
theorem c2R (lg : Int) (one : Bool) (A : Option Addr) (c : Nat) (qs : List (List Int)) (w : World) (hr : kq.C w A qs.length qs) (h : a0u lg one qs = true) (h1 : one = true -> 0 < (qs.getD 0 []).length) :
    Calls Tryz.prog 91 #[.agg #[.int .i64 lg,.bool one,.slice A qs.length c]] w (Ret (.bool true) w):=by
 obtain ⟨W1,hW1⟩ : ∃ W1,W1 = w.alloc (.cells #[.int .i64 lg,.bool one,.slice A qs.length c] 31):=⟨_,rfl⟩
 have HB:=Lib.hid ((Below.refl w.heap.size w).alloc (Nat.le_refl _) (.cells #[.int .i64 lg,.bool one,.slice A qs.length c] 31))
 have hk1 : W1.heap[w.heap.size]? = some (.cells #[.int .i64 lg,.bool one,.slice A qs.length c] 31 (0,0)):=by rw [hW1]; exact a0m _ _
 have HR : Hid (kq.C W1 A qs.length qs):=Lib.hid (by rw [hW1]; exact Kd.C_alloc hr _)
 rw [<- hW1] at HB
 obtain ⟨l1,l2,l3,l4⟩:=a1O h
 have HL:=Lib.hid (And.intro h1 (And.intro l3 l4))
 have HK:=Lib.hid hk1
 have hn : Hid (qs.length <= 256):=Lib.hid (by rw [l3]; split <;> omega)
 have d1 : decide (lg < 1) = false:=decide_eq_false (by omega)
 have d2 : decide (12 < lg) = false:=decide_eq_false (by omega)
 have hd0 : (one = true /\ qs.length = 1) \/ (one = false /\ qs.length = 256):=by cases one <;> simp_all
 obtain ⟨⟨m0,m1,m2⟩,_⟩:=cell3 hk1
 clear hr h h1 l1 l2 l3 l4 hk1
 obtain ⟨n,hnn⟩ : ∃ n,n = qs.length:=⟨_,rfl⟩
 rw [<- hnn] at hd0 hn m2 HR HK ⊢
 rw [show (Obj.cells #[.int .i64 lg,.bool one,.slice A qs.length c] 31) = Obj.cells #[.int .i64 lg,.bool one,.slice A n c] 31 by rw [hnn]] at hW1
 have HN:=Lib.hid hnn
 clear hnn
 have hcut : ∀ (o : Bool) (q1 q2 : Bool),True:=λ _ _ _=>trivial
 have HF : one = true -> ∀ i,i < n -> (qs.getD i []).length ≠ 0:=λ e i hi=>by
  rcases hd0 with ⟨_,e2⟩ | ⟨e1,_⟩
  · have:=HL.out.1 e
    rw [show i = 0 by omega]; omega
  · rw [e] at e1; cases e1
 have HF':=Lib.hid HF
 clear HF
 have d3 : one = true -> ((n : Int) != 1) = false:=λ e=>by rcases hd0 with ⟨_,e2⟩ | ⟨e1,_⟩ <;> simp_all
 have d4 : one = false -> ((n : Int) != 256) = false:=λ e=>by rcases hd0 with ⟨e1,_⟩ | ⟨_,e2⟩ <;> simp_all
 have main : ∀ o : Bool,one = o -> Calls Tryz.prog 91 #[.agg #[.int .i64 lg,.bool one,.slice A n c]] w (Ret (.bool true) w):=by
  intro o ho
  subst ho
  cases one
  all_goals
   first | have d5:=d3 rfl | have d5:=d4 rfl
   clear d3 d4 hd0 hcut
   go_enter Tryz.func91,Tryz.ntmps91
   go_wp2_with fail
   rw [<- hW1]
   clear hW1 m0 m1 m2
   go_loopw [3] (λ kv wr=>∃ (i : Nat),kv = .int .i64 i /\ i <= n /\ Hid (Below W1.heap.size W1 wr)) (λ kv _=>n - (intOf kv).toNat)
   case atStart=>exact ⟨0,rfl,by omega,Lib.hid (Below.refl _ _)⟩
   case round=>
    obtain ⟨i,rfl,hi,H⟩:=hrel
    obtain ⟨⟨m0,m1,m2⟩,_⟩:=cell3 (a0l HK.out H.out)
    have hn256:=hn.out
    by_cases hlt : i < n
    · obtain ⟨ad,B,cb,rfl,hcell,hcb,hq⟩:=kq_at (Kd.C_below HR.out H.out) i hlt
      have hqs : i < qs.length:=by rw [<- HN.out]; exact hlt
      have HQL : Hid ((qs.getD i []).length ≠ 0 -> (logC (qs.getD i []) : Int) = lg):=Lib.hid (λ e=>(HL.out.2.2 _ (by rw [List.getD_eq_getElem?_getD,List.getElem?_eq_getElem hqs]; exact List.getElem_mem hqs) e).2)
      have HFi:=λ e=>HF'.out e i hlt
      obtain ⟨q,hqq⟩ : ∃ q,q = qs.getD i []:=⟨_,rfl⟩
      rw [<- hqq] at hcell hcb hq HQL HFi
      clear hqq hqs
      have HQ:=Lib.hid (And.intro hcb hq)
      have hiI : (i : Int) < (n : Int):=by omega
      by_cases h0 : q.length = 0
      · first
          | exact absurd h0 (HFi (by first | exact True.intro | rfl))
          | (have d6 : ((q.length : Int) == 0) = true:=by rw [h0]; rfl
             clear h0 hlt hcb hq HFi
             go_wp2_with fail
             go_roundw
             case rel=>exact ⟨i + 1,by go_num,by omega,H⟩
             case measure=>simp [intOf]; omega)
      · have d6 : ((q.length : Int) == 0) = false:=by simp; intro e; subst e; simp at h0
        have d7 : ((logC q : Int) != lg) = false:=by simp; exact HQL.out h0
        clear h0 hcb hq HFi
        go_wp2_with fail
        go_region_held3 (λ w'=>w'.cell? (ad.add i) = some (.slice B q.length cb) /\ w'.cell? ⟨w.heap.size,0,none⟩ = some (.int .i64 lg) /\ w'.cell? ⟨w.heap.size,2,none⟩ = some (.slice (some ad) n c)) ((repeat' apply And.intro) <;> first | assumption)
         (first | (go_at_call 72; refine (c2o B cb q _ (Kd.C_below HQ.out.2 (by first | exact (Below.refl _ _).drew | exact Below.refl _ _)) HQ.out.1).mono ?_; rintro e w2 ⟨rfl,hb2⟩; have k0:=a0t (w:=wr) ⟨hb2.os,hb2.tape,hb2.output,hb2.size,hb2.block⟩ hcell; have k1:=a0t (w:=wr) ⟨hb2.os,hb2.tape,hb2.output,hb2.size,hb2.block⟩ m0; have k2:=a0t (w:=wr) ⟨hb2.os,hb2.tape,hb2.output,hb2.size,hb2.block⟩ m2; have HV2:=Lib.hid (show Below wr.heap.size wr w2 from ⟨hb2.os,hb2.tape,hb2.output,hb2.size,hb2.block⟩); clear hb2))
        all_goals
         go_wp2_with fail
         go_roundw
         case rel=>exact ⟨i + 1,by go_num,by omega,Lib.hid (a0g H.out HV2.out)⟩
         case measure=>simp [intOf]; omega
    · obtain rfl : i = n:=by omega
      go_wp2_with fail
      go_ret
      exact ⟨rfl,a0g HB.out H.out⟩
 exact main one rfl
def a8D (q : List Int) (w : World) (e : Ending) (w' : World) : Prop:=∃ (B : Option Addr) (cb : Nat),e = .returned (.slice B q.length cb) /\ q.length <= cb /\ (Kd.int .i64).C w' B q.length q /\ Below w.heap.size w w'
set_option maxRecDepth 100000 in
set_option maxHeartbeats 1000000 in
theorem b3M (lg : Int) (one : Bool) (A : Option Addr) (c : Nat) (qs : List (List Int)) (x : Nat) (w : World) (hr : kq.C w A qs.length qs) (h : a0u lg one qs = true) (h1 : one = true -> 0 < (qs.getD 0 []).length) (hx : x < 256) :
    Calls Tryz.prog 95 #[.agg #[.int .i64 lg,.bool one,.slice A qs.length c],.int .i64 x] w (a8D (qs.getD (listI one x) []) w):=by
 obtain ⟨W1,hW1⟩ : ∃ W1,W1 = w.alloc (.cells #[.int .i64 lg,.bool one,.slice A qs.length c] 31):=⟨_,rfl⟩
 have HB:=Lib.hid ((Below.refl w.heap.size w).alloc (Nat.le_refl _) (.cells #[.int .i64 lg,.bool one,.slice A qs.length c] 31))
 have hk1 : W1.heap[w.heap.size]? = some (.cells #[.int .i64 lg,.bool one,.slice A qs.length c] 31 (0,0)):=by rw [hW1]; exact a0m _ _
 have HR : Hid (kq.C W1 A qs.length qs):=Lib.hid (by rw [hW1]; exact Kd.C_alloc hr _)
 rw [<- hW1] at HB
 have hlen:=(a1O h).2.2.1
 have hi : listI one x < qs.length:=by rw [hlen]; unfold listI; cases one <;> simp <;> omega
 have HX:=Lib.hid (c2R lg one A c qs W1 HR.out h h1)
 have HK:=Lib.hid hk1
 have d1 : decide ((x : Int) < 0) = false:=decide_eq_false (by omega)
 have d2 : decide (255 < (x : Int)) = false:=decide_eq_false (by omega)
 obtain ⟨⟨m0,m1,m2⟩,_⟩:=cell3 hk1
 have HI:=Lib.hid hi
 obtain ⟨q,hqq⟩ : ∃ q,q = qs.getD (listI one x) []:=⟨_,rfl⟩
 rw [<- hqq]
 have HQQ:=Lib.hid hqq
 clear hr h h1 hk1 hlen hi hqq
 go_enter Tryz.func95,Tryz.ntmps95
 go_wp2_with fail
 rw [<- hW1]
 go_wp2_with fail
 refine HX.out.mono ?_
 rintro e w2 ⟨rfl,hb2⟩
 obtain ⟨⟨n0,n1,n2⟩,_⟩:=cell3 (a0l HK.out hb2)
 obtain ⟨ad,B,cb,rfl,hcell,hcb,hq⟩:=kq_at (Kd.C_below HR.out hb2) _ HI.out
 have HB2:=Lib.hid (a0g HB.out hb2)
 rw [<- HQQ.out] at hcell hcb hq
 have HQ:=Lib.hid (And.intro hcb hq)
 clear hb2 hcb hq hW1 m0 m1 m2
 cases one
 · have e1 : listI false x = x:=rfl
   rw [e1] at hcell HI
   have hiI : (x : Int) < (qs.length : Int):=by have:=HI.out; omega
   clear e1
   go_wp2_with fail
   go_ret
   exact ⟨B,cb,rfl,HQ.out.1,HQ.out.2,HB2.out⟩
 · have e1 : listI true x = 0:=rfl
   rw [e1] at hcell HI
   have hiI : (0 : Int) < (qs.length : Int):=by have:=HI.out; omega
   have hcell0 : w2.cell? ad = some (.slice B q.length cb):=hcell
   clear e1
   go_wp2_with fail
   go_ret
   exact ⟨B,cb,rfl,HQ.out.1,HQ.out.2,HB2.out⟩
open Go.Proofs.YtipjlneepponpaaGreat.PRef Go.Proofs.YtipjlneepponpaaGreatW.PrintLast Go.Proofs.YtipjlneepponpaaGreatW.PrintMore
theorem b3N {lg : Int} {one : Bool} {qs : List (List Int)} (h : a0u lg one qs = true) : one = true -> 0 < (qs.getD 0 []).length:=by
 intro e
 subst e
 unfold a0u at h
 split at h
 · cases h
 · split at h
   · cases h
   · simp only [if_true,decide_eq_true_eq] at h; exact h.2
theorem c2S (A : Option Addr) (cp : Nat) (q : List Int) (x : Int) (s : Nat) (w : World) (hr : (Kd.int .i64).C w A q.length q) (hc : q.length <= cp) (hl : logC q ≠ 0) (hx : 0 <= x /\ x < 2 ^ logC q) (hs : s < 256) (hn : 0 < cntC q s) : Calls Tryz.prog 130 #[.slice A q.length cp,.int .i64 x,.int .i64 s] w (Ret (.tuple #[.int .i64 (a1k q x s),.int .i64 (a0A q x s),.int .u32 (a1m q x s),.bool true]) w):=by
 obtain ⟨k,hk⟩:=(c1J hl hx hs hn).rounds
 exact (puncheonref12_Step.calls k A cp q x s _ _ _ _ w hr hc hk).mono λ e w' h=>⟨h.1,h.2.below⟩
def MadeB (xs : List Bool) (w : World) (e : Ending) (w' : World) : Prop:=∃ v,e = .returned v /\ Kd.bool.R 4 w' w.heap.size (λ _=>True) v xs /\ Below w.heap.size w w'
def MadeU (xs : List Int) (w : World) (e : Ending) (w' : World) : Prop:=∃ v,e = .returned v /\ (Kd.int .u8).R 5 w' w.heap.size (λ _=>True) v xs /\ Below w.heap.size w w'
theorem a5a (A : Option Addr) (cp : Nat) (l : List Bool) (v n : Nat) (w : World) (hr : Kd.bool.C w A l.length l) (hc : l.length <= cp) (hn : n <= 64) (hv : v < 4294967296) (hl : l.length <= 1000000) : Calls Tryz.prog 27 #[.slice A l.length cp,.int .u32 v,.int .i64 n] w (MadeB (l ++ a0i v n) w):=by
 obtain ⟨k,hk⟩:=(c0V l v n hn hv hl).rounds
 exact puncheonref01_Put.calls k A cp l v n _ w hr hc hk
theorem c2T (A : Option Addr) (cp : Nat) (l : List Bool) (w : World) (hr : Kd.bool.C w A l.length l) (hc : l.length <= cp) (hl : l.length <= 100000) : Calls Tryz.prog 76 #[.slice A l.length cp] w (MadeU (packB (l ++ [true])) w):=by
 obtain ⟨k,hk⟩:=(c1d l hl).rounds
 exact puncheonref01_Close.calls k A cp l _ w hr hc hk
theorem c2U {lg : Int} {one : Bool} {qs : List (List Int)} {b : List Int} {i : Nat} (hi : i < b.length) (h : fitAt one qs b i = false) : fitsM lg one qs b = false:=by
 unfold fitsM
 have : (List.range b.length).all (fitAt one qs b) = false:=by
  rw [List.all_eq_false]; exact ⟨i,List.mem_range.2 hi,by rw [h]; decide⟩
 rw [this,Bool.and_false]
theorem c2V {lg : Int} {one : Bool} {qs : List (List Int)} {b : List Int} (hr : a0u lg one qs = true) (h : ∀ i,i < b.length -> fitAt one qs b i = true) : fitsM lg one qs b = true:=by
 unfold fitsM
 rw [hr,Bool.true_and,List.all_eq_true]
 exact λ i hi=>h i (List.mem_range.1 hi)
end Go.Proofs.YtipjlneepponpaaGreat
namespace Go.Proofs.YtipjlneepponpaaGreat
open Go.RowKit Go.IntWalk Go.Proofs.YtipjlneepponpaaGreatW.PrintWords
set_option maxRecDepth 100000 in
set_option maxHeartbeats 2000000 in
theorem c2W (lg : Int) (one : Bool) (A : Option Addr) (c : Nat) (qs : List (List Int)) (B : Option Addr) (cb : Nat) (b : List Int) (w : World) (hr : kq.C w A qs.length qs) (hc : qs.length <= c) (hl : qs.length <= 1000000) (hb : (Kd.int .u8).C w B b.length b) (hcb : b.length <= cb) (hby : Bytes b) (hbl : b.length <= 1000000) :
    Calls Tryz.prog 75 #[.agg #[.int .i64 lg,.bool one,.slice A qs.length c],.slice B b.length cb] w (Ret (.bool (fitsM lg one qs b)) w):=by
 obtain ⟨W1,hW1⟩ : ∃ W1,W1 = w.alloc (.cells #[.int .i64 lg,.bool one,.slice A qs.length c] 31):=⟨_,rfl⟩
 have HB:=Lib.hid ((Below.refl w.heap.size w).alloc (Nat.le_refl _) (.cells #[.int .i64 lg,.bool one,.slice A qs.length c] 31))
 have hk1 : W1.heap[w.heap.size]? = some (.cells #[.int .i64 lg,.bool one,.slice A qs.length c] 31 (0,0)):=by rw [hW1]; exact a0m _ _
 have HR : Hid (kq.C W1 A qs.length qs):=Lib.hid (by rw [hW1]; exact Kd.C_alloc hr _)
 have HBB : Hid ((Kd.int .u8).C W1 B b.length b):=Lib.hid (by rw [hW1]; exact Kd.C_alloc hb _)
 rw [<- hW1] at HB
 have HX:=Lib.hid (And.intro hc (And.intro hl (And.intro hcb (And.intro hby hbl))))
 have HK:=Lib.hid hk1
 have HLT:=Lib.hid (a0f hk1)
 obtain ⟨⟨m0,m1,m2⟩,_⟩:=cell3 hk1
 clear hr hc hl hb hcb hby hbl hk1
 go_enter Tryz.func75,Tryz.ntmps75
 go_wp2_with fail
 rw [<- hW1]
 clear hW1
 refine (c1h A c W1 lg one qs HR.out HX.out.1 HX.out.2.1).mono ?_
 rintro e w2 ⟨rfl,hb2⟩
 have HB2:=Lib.hid (show Below W1.heap.size W1 w2 from hb2)
 clear hb2 m0 m1 m2
 cases hz : a0u lg one qs with
 | false=>
  have HF : Hid (fitsM lg one qs b = false):=Lib.hid (by unfold fitsM; rw [hz]; rfl)
  clear hz
  go_wp2_with fail
  go_ret
  exact ⟨a0X HF.out.symm,a0g HB.out HB2.out⟩
 | true=>
  have HZ:=Lib.hid hz
  clear hz
  have hbl:=HX.out.2.2.2.2
  go_wp2_with fail
  go_loopw [6] (λ kv wr=>∃ (i : Nat),kv = .int .i64 i /\ i <= b.length /\ Hid ((∀ j,j < i -> fitAt one qs b j = true) /\ Below W1.heap.size W1 wr)) (λ kv _=>b.length - (intOf kv).toNat)
  case atStart=>exact ⟨0,rfl,by omega,Lib.hid ⟨λ j h=>by omega,HB2.out⟩⟩
  case round=>
   obtain ⟨i,rfl,hi,H⟩:=hrel
   have HBW:=Lib.hid H.out.2
   by_cases hlt : i < b.length
   · obtain ⟨x,hx⟩ : ∃ x : Nat,ctxI b i = x:=⟨(ctxI b i).toNat,by have:=a3K HX.out.2.2.2.1 i hlt; omega⟩
     have hx256 : x < 256:=by have:=a3K HX.out.2.2.2.1 i hlt; omega
     have hbg:=HX.out.2.2.2.1.get i
     obtain ⟨bi,hbi⟩ : ∃ k : Nat,b.getD i 0 = k:=⟨(b.getD i 0).toNat,by omega⟩
     have hb256 : bi < 256:=by omega
     have hiI : (i : Int) < (b.length : Int):=by omega
     obtain ⟨q,hq⟩ : ∃ q,q = qs.getD (listI one x) []:=⟨_,rfl⟩
     have HFA : Hid (fitAt one qs b i = decide (q.length ≠ 0 /\ q.getD bi 0 ≠ 0)):=Lib.hid (by unfold fitAt; rw [hx,<- hq,hbi,Int.toNat_natCast])
     have HLQ : Hid (q.length ≠ 0 -> q.length = 256):=Lib.hid λ h=>by
      have h2:=a5Z HZ.out (listI one x) (by rw [<- hq]; exact h)
      rw [<- hq] at h2
      exact (a1v h2.1).len
     have HCX:=Lib.hid (show ∀ W : World,Below wr.heap.size wr W -> Calls Tryz.prog 103 #[.slice B b.length cb,.int .i64 i] W (Ret (.int .i64 x) W) from λ W hW=>by
      have:=b3o B cb b W (Kd.C_below HBB.out (a0g HBW.out hW)) HX.out.2.2.1 HX.out.2.2.2.1 (by omega) i
      rw [hx] at this; exact this)
     have HAX:=Lib.hid (show ∀ W : World,Below wr.heap.size wr W -> Calls Tryz.prog 95 #[.agg #[.int .i64 lg,.bool one,.slice A qs.length c],.int .i64 x] W (a8D q W) from λ W hW=>by
      have:=b3M lg one A c qs x W (Kd.C_below HR.out (a0g HBW.out hW)) HZ.out (b3N HZ.out) hx256
      rw [<- hq] at this; exact this)
     obtain ⟨⟨m0,m1,m2⟩,_⟩:=cell3 (a0l HK.out HBW.out)
     have HBI:=Lib.hid hbi
     have HST : Hid (fitAt one qs b i = true -> ∀ j,j < i + 1 -> fitAt one qs b j = true):=Lib.hid λ h j hj=>by
      by_cases e : j = i
      · rw [e]; exact h
      · exact H.out.1 j (by omega)
     have HNO : Hid (fitAt one qs b i = false -> fitsM lg one qs b = false):=Lib.hid λ h=>c2U hlt h
     have HIX:=Lib.hid hlt
     clear hq hbi hbg hx H hlt
     go_wp2_with fail
     go_region_held3 (λ w'=>w'.cell? ⟨w.heap.size,0,none⟩ = some (.int .i64 lg) /\ w'.cell? ⟨w.heap.size,1,none⟩ = some (.bool one) /\ w'.cell? ⟨w.heap.size,2,none⟩ = some (.slice A qs.length c)) ((repeat' apply And.intro) <;> first | assumption)
      (first
       | (go_at_call 103; refine (HCX.out _ (Below.refl _ _).drew).mono ?_; rintro e w3 ⟨rfl,hb3⟩; have HV3:=Lib.hid (show Below wr.heap.size wr w3 from ⟨hb3.os,hb3.tape,hb3.output,hb3.size,hb3.block⟩); obtain ⟨k0,k1,k2⟩:=a2U HV3.out (Nat.lt_of_lt_of_le HLT.out HBW.out.size) m0 m1 m2; clear hb3)
       | (go_at_call 95; refine (HAX.out _ HV3.out).mono ?_; rintro e w7 ⟨Bq,cq,rfl,hcq,hqC,hb7⟩; have HV7:=Lib.hid (And.intro hcq (And.intro hqC (a0g HV3.out hb7))); obtain ⟨l0,l1,l2⟩:=a2U HV7.out.2.2 (Nat.lt_of_lt_of_le HLT.out HBW.out.size) m0 m1 m2; clear hcq hqC hb7))
     clear k0 k1 k2 l0 l1 l2 m0 m1 m2
     by_cases h0 : q.length = 0
     · have d1 : ((q.length : Int) == 0) = true:=by rw [h0]; rfl
       have HF:=Lib.hid (HNO.out (by rw [HFA.out]; exact decide_eq_false (λ h=>h.1 h0)))
       clear h0
       go_wp2_with fail
       go_ret
       exact ⟨a0X HF.out.symm,a0g HB.out (a0g HBW.out HV7.out.2.2)⟩
     · have d1 : ((q.length : Int) == 0) = false:=by rw [beq_eq_false_iff_ne]; omega
       have hbl2 : bi < q.length:=by have:=HLQ.out h0; omega
       have hbiI : (bi : Int) < (q.length : Int):=by omega
       obtain ⟨adb,rfl,hcb0⟩:=a0C (Kd.C_below HBB.out (a0g HBW.out HV7.out.2.2)) i HIX.out
       obtain ⟨adq,rfl,hcq0⟩:=a0C HV7.out.2.1 bi hbl2
       rw [HBI.out] at hcb0
       have hcb1 : w7.cell? (adb.add i) = some (.int .u8 (bi : Int)):=hcb0
       obtain ⟨ct,hct⟩ : ∃ ct,ct = q.getD bi 0:=⟨_,rfl⟩
       rw [<- hct] at hcq0 HFA
       clear hcb0 hct hbl2
       by_cases hc0 : ct = 0
       · have d2 : (ct == 0) = true:=by rw [hc0]; rfl
         have HF:=Lib.hid (HNO.out (by rw [HFA.out]; exact decide_eq_false (λ h=>h.2 hc0)))
         clear h0 hc0
         go_wp2_with fail
         go_ret
         exact ⟨a0X HF.out.symm,a0g HB.out (a0g HBW.out HV7.out.2.2)⟩
       · have d2 : (ct == 0) = false:=by rw [beq_eq_false_iff_ne]; exact hc0
         have HF:=Lib.hid (HST.out (by rw [HFA.out]; exact decide_eq_true ⟨h0,hc0⟩))
         have hil:=HIX.out
         clear h0 hc0
         go_wp2_with fail
         go_roundw
         case rel=>exact ⟨i + 1,by go_num,by omega,Lib.hid ⟨HF.out,a0g HBW.out HV7.out.2.2⟩⟩
         case measure=>simp [intOf]; omega
   · obtain rfl : i = b.length:=by omega
     have HF:=Lib.hid (c2V HZ.out H.out.1)
     go_wp2_with fail
     go_ret
     exact ⟨a0X HF.out.symm,a0g HB.out HBW.out⟩
def BitsR (B0 : Nat) (v : Value) (l : List Bool) (wr : World) : Prop:=Kd.bool.R 4 wr B0 (λ _=>True) v l
theorem a8E {B0 : Nat} {v : Value} {l : List Bool} {wr : World} (h : BitsR B0 v l wr) : ∃ (A : Option Addr) (c : Nat),v = .slice A l.length c /\ l.length <= c /\ Kd.bool.C wr A l.length l:=by
 obtain ⟨A,c,rfl⟩:=Kd.R_slice h
 exact ⟨A,c,rfl,(Kd.R_reads' h).2⟩
theorem a6E (A : Option Addr) (cp m : Nat) (l : List Bool) (v n : Nat) (w : World) (hm : m = l.length) (hr : Kd.bool.C w A m l) (hc : m <= cp) (hn : n <= 64) (hv : v < 4294967296) (hl : m <= 1000000) : Calls Tryz.prog 27 #[.slice A m cp,.int .u32 v,.int .i64 n] w (MadeB (l ++ a0i v n) w):=by
 subst hm; exact a5a A cp l v n w hr hc hn hv hl
structure BRel (one : Bool) (qs : List (List Int)) (b : List Int) (B0 : Nat) (W1 : World) (v : Value) (k : Nat) (wr : World) : Prop where
 l : BitsR B0 v (encN one qs b k).2 wr
 below : Below W1.heap.size W1 wr
structure BStep (g : Nat) (one : Bool) (qs : List (List Int)) (b : List Int) (k i x : Nat) (ev od : Int) (y : Int) (n low : Nat) : Prop where
 now : (encN one qs b k).1 = (ev,od)
 sel : (x : Int) = if i % 2 = 0 then ev else od
 xlt : x < 2 ^ g
 ny : y = a1k (qAt one qs b i) x (b.getD i 0)
 nn : n = a0A (qAt one qs b i) x (b.getD i 0)
 nl : low = a1m (qAt one qs b i) x (b.getD i 0)
 small : n <= 12 /\ low < 4096
theorem c2X {one : Bool} {qs : List (List Int)} {b : List Int} {B0 : Nat} {W1 w1 w2 : World} {u : Value} {g k i x n low : Nat} {ev od y : Int} (hS : BStep g one qs b k i x ev od y n low) (hi : i = b.length - 1 - k) (hb1 : Below W1.heap.size W1 w1) (hB : B0 <= w1.heap.size)
    (hv : Kd.bool.R 4 w2 w1.heap.size (λ _=>True) u ((encN one qs b k).2 ++ a0i low n)) (hb : Below w1.heap.size w1 w2) : BRel one qs b B0 W1 u (k + 1) w2 /\ (encN one qs b (k + 1)).1 = (if i % 2 = 0 then (y,od) else (ev,y)):=by
 have e : encN one qs b (k + 1) = (if i % 2 = 0 then (y,od) else (ev,y),(encN one qs b k).2 ++ a0i low n):=by
  simp only [encN]
  rw [<- hi,hS.now]
  simp only []
  rw [<- hS.sel,<- hS.ny,<- hS.nn,<- hS.nl]
 refine ⟨⟨?_,a0g hb1 hb⟩,by rw [e]⟩
 unfold BitsR
 rw [e]
 exact Kd.R_lower hv hB
theorem c2Y {g : Nat} {one : Bool} {qs : List (List Int)} {b : List Int} (h : fitsM g one qs b = true) (hb : Bytes b) {k i : Nat} (hk : k < b.length) (hi : i = b.length - 1 - k) : ∃ (ev od y : Int) (x n low : Nat),BStep g one qs b k i x ev od y n low:=by
 obtain ⟨h1,h2,h3⟩:=a4h h hb i (by omega)
 have hr:=a4i h hb k (by omega)
 simp only [Int.toNat_natCast] at hr
 have hlg : logC (qAt one qs b i) = g:=by omega
 obtain ⟨ev,hev⟩ : ∃ z,z = (encN one qs b k).1.1:=⟨_,rfl⟩
 obtain ⟨od,hod⟩ : ∃ z,z = (encN one qs b k).1.2:=⟨_,rfl⟩
 rw [<- hev,<- hod] at hr
 have hsel : 0 <= (if i % 2 = 0 then ev else od) /\ (if i % 2 = 0 then ev else od) < 2 ^ g:=by split; exact ⟨hr.1,hr.2.1⟩; exact ⟨hr.2.2.1,hr.2.2.2⟩
 obtain ⟨x,hx⟩ : ∃ x : Nat,(x : Int) = if i % 2 = 0 then ev else od:=⟨(if i % 2 = 0 then ev else od).toNat,by omega⟩
 rw [<- hx] at hsel
 have e2 : (2 : Int) ^ g = ((2 ^ g : Nat) : Int):=by simp
 have hxl : x < 2 ^ g:=by rw [e2] at hsel; omega
 have hN:=(a6e (s:=b.getD i 0) h1 (x:=(x : Int)) (by rw [hlg]; exact hsel) h3).1
 have hg12 : g <= 12:=by have:=(a1O (a2C h)).2.1; omega
 have hnr:=hN.nr
 have hlow:=hN.low
 have h4 : 2 ^ a0A (qAt one qs b i) x (b.getD i 0) <= 2 ^ 12:=Nat.pow_le_pow_right (by omega) (by omega)
 exact ⟨ev,od,_,x,_,_,⟨by rw [hev,hod],hx,hxl,rfl,rfl,rfl,⟨by omega,by omega⟩⟩⟩
set_option maxRecDepth 100000 in
set_option maxHeartbeats 2000000 in
theorem c2Z (g : Nat) (one : Bool) (A : Option Addr) (c : Nat) (qs : List (List Int)) (B : Option Addr) (cb : Nat) (b : List Int) (w : World) (hr : kq.C w A qs.length qs) (hb : (Kd.int .u8).C w B b.length b) (hcb : b.length <= cb) (hby : Bytes b) (hbl : b.length <= 5000) (hfit : fitsM g one qs b = true) :
    Calls Tryz.prog 77 #[.agg #[.int .i64 g,.bool one,.slice A qs.length c],.slice B b.length cb] w (MadeB (a0M g one qs b) w):=by
 obtain ⟨W1,hW1⟩ : ∃ W1,W1 = w.alloc (.cells #[.int .i64 g,.bool one,.slice A qs.length c] 31):=⟨_,rfl⟩
 have HB:=Lib.hid ((Below.refl w.heap.size w).alloc (Nat.le_refl _) (.cells #[.int .i64 g,.bool one,.slice A qs.length c] 31))
 have hk1 : W1.heap[w.heap.size]? = some (.cells #[.int .i64 g,.bool one,.slice A qs.length c] 31 (0,0)):=by rw [hW1]; exact a0m _ _
 have HR : Hid (kq.C W1 A qs.length qs):=Lib.hid (by rw [hW1]; exact Kd.C_alloc hr _)
 have HBB : Hid ((Kd.int .u8).C W1 B b.length b):=Lib.hid (by rw [hW1]; exact Kd.C_alloc hb _)
 rw [<- hW1] at HB
 have hg : g <= 12:=by have:=(a1O (a2C hfit)).2.1; omega
 have HX:=Lib.hid (And.intro hfit (And.intro hcb (And.intro hby hbl)))
 have HK:=Lib.hid hk1
 have HLT:=Lib.hid (a0f hk1)
 have HS0 : Hid (w.heap.size <= W1.heap.size):=Lib.hid HB.out.size
 clear hr hb hcb hby hbl hk1 hfit
 have hbl:=HX.out.2.2.2
 go_enter Tryz.func77,Tryz.ntmps77
 go_wp2_with fail
 rw [<- hW1]
 clear hW1
 go_loopw [5,6,7,8] (λ lv ev ov kv wr=>∃ (k : Nat) (ex ox : Nat),kv = .int .i64 ((b.length : Int) - 1 - k) /\ ev = .int .i64 ex /\ ov = .int .i64 ox /\ k <= b.length /\ Hid (BRel one qs b w.heap.size W1 lv k wr /\ (encN one qs b k).1 = ((ex : Int),(ox : Int)))) (λ _ _ _ kv _=>((intOf kv) + 1).toNat)
 case atStart=>exact ⟨0,0,0,by go_num,rfl,rfl,by omega,Lib.hid ⟨⟨Kd.R_nil _ _ _ _ _,Below.refl _ _⟩,rfl⟩⟩
 case round=>
  obtain ⟨k,ex,ox,rfl,rfl,rfl,hk,H⟩:=hrel
  have HBW:=Lib.hid H.out.1.below
  obtain ⟨Al,cl,rfl,hcl,hlc⟩:=a8E H.out.1.l
  have HLC:=Lib.hid (And.intro hcl hlc)
  clear hcl hlc
  by_cases hlt : k < b.length
  · obtain ⟨i,hi⟩ : ∃ i,i = b.length - 1 - k:=⟨_,rfl⟩
    rw [show ((b.length : Int) - 1 - (k : Int)) = (i : Int) by omega]
    have hil : i < b.length:=by omega
    obtain ⟨ev,od,y,x,n,low,hS⟩:=c2Y HX.out.1 HX.out.2.2.1 hlt hi
    have hnow:=hS.now
    rw [H.out.2] at hnow
    obtain ⟨rfl,rfl⟩:=Prod.mk.inj hnow
    clear hnow
    obtain ⟨cx,hcx⟩ : ∃ x : Nat,ctxI b i = x:=⟨(ctxI b i).toNat,by have:=a3K HX.out.2.2.1 i hil; omega⟩
    have hx256 : cx < 256:=by have:=a3K HX.out.2.2.1 i hil; omega
    have hbg:=HX.out.2.2.1.get i
    obtain ⟨bi,hbi⟩ : ∃ k : Nat,b.getD i 0 = k:=⟨(b.getD i 0).toNat,by omega⟩
    have hb256 : bi < 256:=by omega
    have hiI : (i : Int) < (b.length : Int):=by omega
    obtain ⟨q,hq⟩ : ∃ q,q = qAt one qs b i:=⟨_,rfl⟩
    have hfc:=a4h HX.out.1 HX.out.2.2.1 i hil
    have hq2 : qs.getD (listI one cx) [] = q:=by rw [hq]; unfold qAt; rw [hcx]
    have HCX:=Lib.hid (show ∀ W : World,Below wr.heap.size wr W -> Calls Tryz.prog 103 #[.slice B b.length cb,.int .i64 i] W (Ret (.int .i64 cx) W) from λ W hW=>by
     have:=b3o B cb b W (Kd.C_below HBB.out (a0g HBW.out hW)) HX.out.2.1 HX.out.2.2.1 (by omega) i
     rw [hcx] at this; exact this)
    have HAX:=Lib.hid (show ∀ W : World,Below wr.heap.size wr W -> Calls Tryz.prog 95 #[.agg #[.int .i64 g,.bool one,.slice A qs.length c],.int .i64 cx] W (a8D q W) from λ W hW=>by
     have:=b3M g one A c qs cx W (Kd.C_below HR.out (a0g HBW.out hW)) (a2C HX.out.1) (b3N (a2C HX.out.1)) hx256
     rw [hq2] at this; exact this)
    obtain ⟨⟨m0,m1,m2⟩,_⟩:=cell3 (a0l HK.out HBW.out)
    have HBI:=Lib.hid hbi
    have HIX:=Lib.hid hil
    have hsn:=hS.small
    have hsl:=hS.small.2
    have hny:=hS.ny
    have hnn:=hS.nn
    have hnl:=hS.nl
    rw [<- hq,hbi] at hny hnn hnl
    rw [<- hq,hbi] at hfc
    have HSTP:=Lib.hid (show ∀ (Bq : Option Addr) (cq : Nat) (W : World),q.length <= cq -> (Kd.int .i64).C W Bq q.length q -> Calls Tryz.prog 130 #[.slice Bq q.length cq,.int .i64 x,.int .i64 bi] W (Ret (.tuple #[.int .i64 y,.int .i64 n,.int .u32 low,.bool true]) W) from λ Bq cq W h1 h2=>by
     have hlg : logC q = g:=by omega
     have e2 : (2 : Int) ^ g = ((2 ^ g : Nat) : Int):=by simp
     have:=c2S Bq cq q x bi W h2 h1 hfc.1 (by have:=hS.xlt; rw [hlg,e2]; omega) hb256 hfc.2.2
     rw [<- hny,<- hnn,<- hnl] at this; exact this)
    have hy0 : ∃ yn : Nat,y = yn:=by
     have:=(a8g hfc.1 bi (a0S q x / 2 ^ a0A q x bi - cntC q bi)).1
     have h2 : y = (a1j q bi).getD (a0S q x / 2 ^ a0A q x bi - cntC q bi) 0:=hny
     exact ⟨y.toNat,by omega⟩
    obtain ⟨yn,rfl⟩:=hy0
    obtain ⟨L,hL⟩ : ∃ L,L = (encN one qs b k).2:=⟨_,rfl⟩
    have hLL : L.length <= 100000:=by rw [hL]; have:=a4j HX.out.1 HX.out.2.2.1 k hk; omega
    rw [<- hL] at HLC ⊢
    obtain ⟨m,hm⟩ : ∃ m,m = L.length:=⟨_,rfl⟩
    rw [<- hm] at HLC hLL ⊢
    have HML:=Lib.hid hm
    have HNX:=Lib.hid (λ (u : Value) (w1 w2 : World)=>c2X (u:=u) (w1:=w1) (w2:=w2) (B0:=w.heap.size) (W1:=W1) hS hi)
    rw [<- hL] at HNX
    have HSEL:=Lib.hid hS.sel
    have HIK:=Lib.hid hi
    have HBs : Hid (w.heap.size <= wr.heap.size):=Lib.hid (Nat.le_trans HS0.out HBW.out.size)
    clear hS hq hq2 hfc hbi hbg hcx H hL hm hny hnn hnl hi
    by_cases hp : i % 2 = 0
    · have d1 : ((i : Int) % 2 == 1) = false:=by rw [beq_eq_false_iff_ne]; omega
      have hxe : x = ex:=by have:=HSEL.out; rw [if_pos hp] at this; omega
      subst hxe
      have HP:=Lib.hid hp
      clear hp
      go_wp2_with fail
      go_region_held3 (λ w'=>w'.cell? ⟨w.heap.size,0,none⟩ = some (.int .i64 g) /\ w'.cell? ⟨w.heap.size,1,none⟩ = some (.bool one) /\ w'.cell? ⟨w.heap.size,2,none⟩ = some (.slice A qs.length c)) ((repeat' apply And.intro) <;> first | assumption)
       (first
        | (go_at_call 103; refine (HCX.out _ (Below.refl _ _).drew).mono ?_; rintro e w3 ⟨rfl,hb3⟩; have HV3:=Lib.hid (show Below wr.heap.size wr w3 from ⟨hb3.os,hb3.tape,hb3.output,hb3.size,hb3.block⟩); obtain ⟨k0,k1,k2⟩:=a2U HV3.out (Nat.lt_of_lt_of_le HLT.out HBW.out.size) m0 m1 m2; clear hb3)
        | (go_at_call 95; refine (HAX.out _ HV3.out).mono ?_; rintro e w7 ⟨Bq,cq,rfl,hcq,hqC,hb7⟩; have HV7:=Lib.hid (And.intro hcq (And.intro hqC (a0g HV3.out hb7))); obtain ⟨l0,l1,l2⟩:=a2U HV7.out.2.2 (Nat.lt_of_lt_of_le HLT.out HBW.out.size) m0 m1 m2; clear hcq hqC hb7))
      clear k0 k1 k2 l0 l1 l2 m0 m1 m2
      obtain ⟨adb,rfl,hcb0⟩:=a0C (Kd.C_below HBB.out (a0g HBW.out HV7.out.2.2)) i HIX.out
      rw [HBI.out] at hcb0
      have hcb1 : w7.cell? (adb.add i) = some (.int .u8 (bi : Int)):=hcb0
      clear hcb0
      go_wp2_with fail
      refine (HSTP.out Bq cq w7 HV7.out.1 HV7.out.2.1).mono ?_
      rintro e w8 ⟨rfl,hb8⟩
      have HV8:=Lib.hid (a0g HV7.out.2.2 hb8)
      have HBW8:=Lib.hid (a0g HBW.out HV8.out)
      have HPU:=Lib.hid (a6E Al cl m L low n w8 HML.out (Kd.C_below HLC.out.2 HV8.out) HLC.out.1 (by omega) (by omega) (by omega))
      clear hb8
      go_wp2_with fail
      refine HPU.out.mono ?_
      rintro e w9 ⟨u,rfl,hu,hb9⟩
      have HN:=Lib.hid (HNX.out u w8 w9 HBW8.out (Nat.le_trans HBs.out HV8.out.size) hu hb9)
      rw [if_pos HP.out] at HN
      have hil2:=HIX.out
      clear hu hb9
      go_wp2_with fail
      go_roundw
      case rel=>exact ⟨k + 1,yn,ox,by rw [show ((b.length : Int) - 1 - ((k + 1 : Nat) : Int)) = (i : Int) - 1 by have:=HIK.out; omega],rfl,rfl,by omega,HN⟩
      case measure=>first | (simp [intOf]; done) | (simp [intOf]; omega)
    · have d1 : ((i : Int) % 2 == 1) = true:=by rw [beq_iff_eq]; omega
      have hxe : x = ox:=by have:=HSEL.out; rw [if_neg hp] at this; omega
      subst hxe
      have HP:=Lib.hid hp
      clear hp
      go_wp2_with fail
      go_region_held3 (λ w'=>w'.cell? ⟨w.heap.size,0,none⟩ = some (.int .i64 g) /\ w'.cell? ⟨w.heap.size,1,none⟩ = some (.bool one) /\ w'.cell? ⟨w.heap.size,2,none⟩ = some (.slice A qs.length c)) ((repeat' apply And.intro) <;> first | assumption)
       (first
        | (go_at_call 103; refine (HCX.out _ (Below.refl _ _).drew).mono ?_; rintro e w3 ⟨rfl,hb3⟩; have HV3:=Lib.hid (show Below wr.heap.size wr w3 from ⟨hb3.os,hb3.tape,hb3.output,hb3.size,hb3.block⟩); obtain ⟨k0,k1,k2⟩:=a2U HV3.out (Nat.lt_of_lt_of_le HLT.out HBW.out.size) m0 m1 m2; clear hb3)
        | (go_at_call 95; refine (HAX.out _ HV3.out).mono ?_; rintro e w7 ⟨Bq,cq,rfl,hcq,hqC,hb7⟩; have HV7:=Lib.hid (And.intro hcq (And.intro hqC (a0g HV3.out hb7))); obtain ⟨l0,l1,l2⟩:=a2U HV7.out.2.2 (Nat.lt_of_lt_of_le HLT.out HBW.out.size) m0 m1 m2; clear hcq hqC hb7))
      clear k0 k1 k2 l0 l1 l2 m0 m1 m2
      obtain ⟨adb,rfl,hcb0⟩:=a0C (Kd.C_below HBB.out (a0g HBW.out HV7.out.2.2)) i HIX.out
      rw [HBI.out] at hcb0
      have hcb1 : w7.cell? (adb.add i) = some (.int .u8 (bi : Int)):=hcb0
      clear hcb0
      go_wp2_with fail
      refine (HSTP.out Bq cq w7 HV7.out.1 HV7.out.2.1).mono ?_
      rintro e w8 ⟨rfl,hb8⟩
      have HV8:=Lib.hid (a0g HV7.out.2.2 hb8)
      have HBW8:=Lib.hid (a0g HBW.out HV8.out)
      have HPU:=Lib.hid (a6E Al cl m L low n w8 HML.out (Kd.C_below HLC.out.2 HV8.out) HLC.out.1 (by omega) (by omega) (by omega))
      clear hb8
      go_wp2_with fail
      refine HPU.out.mono ?_
      rintro e w9 ⟨u,rfl,hu,hb9⟩
      have HN:=Lib.hid (HNX.out u w8 w9 HBW8.out (Nat.le_trans HBs.out HV8.out.size) hu hb9)
      rw [if_neg HP.out] at HN
      have hil2:=HIX.out
      clear hu hb9
      go_wp2_with fail
      go_roundw
      case rel=>exact ⟨k + 1,ex,yn,by rw [show ((b.length : Int) - 1 - ((k + 1 : Nat) : Int)) = (i : Int) - 1 by have:=HIK.out; omega],rfl,rfl,by omega,HN⟩
      case measure=>first | (simp [intOf]; done) | (simp [intOf]; omega)
  · obtain rfl : k = b.length:=by omega
    rw [show ((b.length : Int) - 1 - (b.length : Int)) = (-1 : Int) by omega]
    have hrg:=a4i HX.out.1 HX.out.2.2.1 b.length (Nat.le_refl _)
    rw [H.out.2] at hrg
    simp only [Int.toNat_natCast] at hrg
    have hp12 : (2 : Nat) ^ g <= 2 ^ 12:=Nat.pow_le_pow_right (by omega) hg
    have e2 : (2 : Int) ^ g = ((2 ^ g : Nat) : Int):=by simp
    rw [e2] at hrg
    have hex : ex < 4096:=by omega
    have hox : ox < 4096:=by omega
    have HEQ : Hid (a0M g one qs b = (encN one qs b b.length).2 ++ a0i ox g ++ a0i ex g):=Lib.hid (by
     unfold a0M
     simp only []
     rw [H.out.2]; simp)
    obtain ⟨L,hL⟩ : ∃ L,L = (encN one qs b b.length).2:=⟨_,rfl⟩
    have hLL : L.length <= 100000:=by rw [hL]; have:=a4j HX.out.1 HX.out.2.2.1 b.length (Nat.le_refl _); omega
    rw [<- hL] at HLC HEQ ⊢
    obtain ⟨m,hm⟩ : ∃ m,m = L.length:=⟨_,rfl⟩
    rw [<- hm] at HLC hLL ⊢
    have HML:=Lib.hid hm
    obtain ⟨⟨m0,m1,m2⟩,_⟩:=cell3 (a0l HK.out HBW.out)
    have HPU:=Lib.hid (a6E Al cl m L ox g wr HML.out HLC.out.2 HLC.out.1 (by omega) (by omega) (by omega))
    clear hrg hp12 e2 H hL hm
    go_wp2_with fail
    refine HPU.out.mono ?_
    rintro e w2 ⟨u2,rfl,hu2,hb2⟩
    have HB2:=Lib.hid (a0g HBW.out hb2)
    obtain ⟨A2,c2,rfl,hc2,hl2⟩:=a8E (B0:=wr.heap.size) hu2
    obtain ⟨L2,hL2⟩ : ∃ L2,L2 = L ++ a0i ox g:=⟨_,rfl⟩
    have hLL2 : L2.length <= 100020:=by rw [hL2,List.length_append,a0D]; have:=HML.out; omega
    rw [<- hL2] at HEQ hc2 hl2 ⊢
    obtain ⟨m2',hm2⟩ : ∃ m,m = L2.length:=⟨_,rfl⟩
    rw [<- hm2] at hc2 hl2 hLL2 ⊢
    have HML2:=Lib.hid hm2
    have HPU2:=Lib.hid (a6E A2 c2 m2' L2 ex g w2 HML2.out hl2 hc2 (by omega) (by omega) (by omega))
    clear hu2 hb2 hL2 hm2 hc2 hl2 m0 m1 m2
    obtain ⟨⟨m0,m1,m2⟩,_⟩:=cell3 (a0l HK.out HB2.out)
    go_wp2_with fail
    refine HPU2.out.mono ?_
    rintro e w3 ⟨u3,rfl,hu3,hb3⟩
    have HU3:=Lib.hid hu3
    have HB3:=Lib.hid (a0g HB2.out hb3)
    have HS2 : Hid (w.heap.size <= w2.heap.size):=Lib.hid (Nat.le_trans HS0.out HB2.out.size)
    clear hu3 hb3
    go_wp2_with fail
    go_ret
    exact ⟨u3,rfl,by rw [HEQ.out]; exact Kd.R_lower HU3.out HS2.out,a0g HB.out HB3.out⟩
set_option maxRecDepth 100000 in
set_option maxHeartbeats 2000000 in
theorem b3O (lg : Int) (one : Bool) (A : Option Addr) (c : Nat) (qs : List (List Int)) (B : Option Addr) (cb : Nat) (b : List Int) (w : World) (hr : kq.C w A qs.length qs) (hc : qs.length <= c) (hl : qs.length <= 1000000) (hb : (Kd.int .u8).C w B b.length b) (hcb : b.length <= cb) (hby : Bytes b) (hbl : b.length <= 5000) :
    Calls Tryz.prog 30 #[.agg #[.int .i64 lg,.bool one,.slice A qs.length c],.slice B b.length cb] w (b2D lg one qs b w):=by
 obtain ⟨W1,hW1⟩ : ∃ W1,W1 = w.alloc (.cells #[.int .i64 lg,.bool one,.slice A qs.length c] 31):=⟨_,rfl⟩
 have HB:=Lib.hid ((Below.refl w.heap.size w).alloc (Nat.le_refl _) (.cells #[.int .i64 lg,.bool one,.slice A qs.length c] 31))
 have hk1 : W1.heap[w.heap.size]? = some (.cells #[.int .i64 lg,.bool one,.slice A qs.length c] 31 (0,0)):=by rw [hW1]; exact a0m _ _
 have HR : Hid (kq.C W1 A qs.length qs):=Lib.hid (by rw [hW1]; exact Kd.C_alloc hr _)
 have HBB : Hid ((Kd.int .u8).C W1 B b.length b):=Lib.hid (by rw [hW1]; exact Kd.C_alloc hb _)
 rw [<- hW1] at HB
 have HX:=Lib.hid (And.intro hc (And.intro hl (And.intro hcb (And.intro hby hbl))))
 have HK:=Lib.hid hk1
 have hbl2 : (b.length : Int) <= 5000:=by omega
 have d1 : decide (131072 < (b.length : Int)) = false:=decide_eq_false (by omega)
 obtain ⟨⟨m0,m1,m2⟩,_⟩:=cell3 hk1
 clear hr hc hl hb hcb hby hbl hk1
 go_enter Tryz.func30,Tryz.ntmps30
 go_wp2_with fail
 rw [<- hW1]
 clear hW1
 refine (c2W lg one A c qs B cb b W1 HR.out HX.out.1 HX.out.2.1 HBB.out HX.out.2.2.1 HX.out.2.2.2.1 (by omega)).mono ?_
 rintro e w2 ⟨rfl,hb2⟩
 have HB2:=Lib.hid (show Below W1.heap.size W1 w2 from hb2)
 clear hb2 m0 m1 m2
 cases hz : fitsM lg one qs b with
 | false=>
  have HF : Hid (canM lg one qs b = false):=Lib.hid (by unfold canM; rw [hz,Bool.and_false])
  clear hz
  go_wp2_with fail
  go_ret2
  exact ⟨λ _=>rfl,(λ h=>by rw [HF.out] at h; cases h),a0g HB.out HB2.out⟩
 | true=>
  have HF : Hid (canM lg one qs b = true):=Lib.hid (by unfold canM; rw [hz,Bool.and_true]; exact decide_eq_true (by omega))
  have HZ:=Lib.hid hz
  obtain ⟨g,rfl⟩ : ∃ g : Nat,lg = g:=⟨lg.toNat,by have:=(a1O (a2C hz)).1; omega⟩
  clear hz
  obtain ⟨⟨m0,m1,m2⟩,_⟩:=cell3 (a0l HK.out HB2.out)
  go_wp2_with fail
  refine (c2Z g one A c qs B cb b w2 (Kd.C_below HR.out HB2.out) (Kd.C_below HBB.out HB2.out) HX.out.2.2.1 HX.out.2.2.2.1 HX.out.2.2.2.2 HZ.out).mono ?_
  rintro e w3 ⟨u,rfl,hu,hb3⟩
  have HB3:=Lib.hid (a0g HB2.out hb3)
  obtain ⟨A3,c3,rfl,hc3,hl3⟩:=a8E (B0:=w2.heap.size) hu
  have hel:=a3n HZ.out HX.out.2.2.2.1
  have hS3 : Hid (w.heap.size <= w3.heap.size):=Lib.hid (Nat.le_trans HB.out.size HB3.out.size)
  have HCL:=Lib.hid (c2T A3 c3 _ w3 hl3 hc3 (by omega))
  clear hu hb3 hc3 hl3 hel
  go_wp2_with fail
  refine HCL.out.mono ?_
  rintro e w4 ⟨v,rfl,hv,hb4⟩
  have HV:=Lib.hid (And.intro hv hb4)
  clear hv hb4
  go_wp2_with fail
  go_ret2
  exact ⟨(λ h=>by rw [HF.out] at h; cases h),λ _=>⟨v,rfl,Kd.R_lower HV.out.1 hS3.out⟩,a0g HB.out (a0g HB3.out HV.out.2)⟩
set_option maxRecDepth 100000 in
theorem c3t (n : Nat) (w : World) (hn : n <= 4096) : Calls Tryz.prog 129 #[.int .i64 n] w (λ e w'=>e = .returned (.int .i64 (Lib.bitLen n : Nat)) /\ w = w'):=by
 go_enter Tryz.func129,Tryz.ntmps129
 go_wp2_with fail
 go_loop [0,3] (λ nv kv=>∃ m k : Nat,nv = .int .i64 m /\ kv = .int .i64 k /\ m <= 4096 /\ k <= 64 /\ k + Lib.bitLen m = Lib.bitLen n) (λ nv _=>(intOf nv).toNat)
 case atStart=>exact ⟨n,0,rfl,rfl,hn,by omega,by omega⟩
 case round=>
  obtain ⟨m,k,rfl,rfl,hm,hk,hs⟩:=hrel
  have HS:=Lib.hid hs
  have hb:=Lib.bitLen_le n 13 (by decide) (show n < 2 ^ 13 from by omega)
  clear hs
  by_cases h0 : m = 0
  · subst h0
    have HE : Hid (k = Lib.bitLen n):=Lib.hid (by have:=HS.out; have e : Lib.bitLen 0 = 0:=by decide
                                                  omega)
    clear HS hb
    go_wp2_with fail
    go_ret
    exact ⟨by rw [<- HE.out]; rfl,rfl⟩
  · have hh:=Lib.bitLen_half m h0 (by omega)
    have hmI : (0 : Int) < (m : Int):=by omega
    obtain ⟨m2,hm2⟩ : ∃ m2,m2 = m / 2:=⟨_,rfl⟩
    have hmd : (m : Int) / 2 = (m2 : Int):=by omega
    have hmt : (m : Int).tdiv 2 = (m2 : Int):=by rw [Int.tdiv_eq_ediv_of_nonneg (by omega)]; exact hmd
    rw [<- hm2] at hh
    have HX:=Lib.hid (And.intro hh (And.intro hm2 hb))
    have hk63 : k <= 63:=by have:=HS.out; omega
    clear h0 hh hm2 hb hk
    go_wp2_with fail
    go_round
    case rel=>exact ⟨m2,k + 1,rfl,by go_num,by have:=HX.out; omega,by omega,by have:=HX.out; have:=HS.out; omega⟩
    case measure=>have:=HX.out; simp [intOf]; omega
set_option maxRecDepth 100000 in
theorem c3u (v left : Nat) (w : World) (h1 : 1 <= left) (h2 : left <= 4096) (h3 : v <= left) : Calls Tryz.prog 128 #[.int .i64 v,.int .i64 left] w (λ e w'=>e = .returned (.bool true) /\ w = w'):=by
 have a1 : decide ((1 : Int) <= (left : Int)) = true:=decide_eq_true (by omega)
 have a2 : decide ((left : Int) <= 4096) = true:=decide_eq_true (by omega)
 have a3 : decide ((v : Int) <= (left : Int)) = true:=decide_eq_true (by omega)
 have a4 : decide ((0 : Int) <= (v : Int)) = true:=decide_eq_true (by omega)
 go_enter Tryz.func128,Tryz.ntmps128
 go_wp2_with fail
 go_ret
 exact ⟨by first | rfl | exact a0X (by simp; omega),rfl⟩
theorem c3v {n : Nat} (h : n <= 4096) : Lib.bitLen n <= 64:=Nat.le_trans (Lib.bitLen_le n 13 (by decide) (show n < 2 ^ 13 from by omega)) (by decide)
set_option maxRecDepth 100000 in
theorem c3w (A : Option Addr) (cp : Nat) (l : List Bool) (v left : Nat) (w : World) (hr : Kd.bool.C w A l.length l) (hc : l.length <= cp) (h1 : 1 <= left) (h2 : left <= 4096) (h3 : v <= left) (hl : l.length <= 1000000) :
    Calls Tryz.prog 73 #[.slice A l.length cp,.int .i64 v,.int .i64 left] w (MadeB (l ++ a0i v (Lib.bitLen left)) w):=by
 have HP:=Lib.hid (a5a A cp l v (Lib.bitLen left) w hr hc (c3v h2) (by omega) hl)
 have hw : IntKind.u32.wrap (v : Int) = (v : Int):=by rw [IntKind.wrap_u32']; omega
 have HW:=Lib.hid (c3t left w h2)
 have HC:=Lib.hid (c3u v left w h1 h2 h3)
 obtain ⟨k,hk⟩ : ∃ k,k = Lib.bitLen left:=⟨_,rfl⟩
 rw [<- hk] at HP HW ⊢
 clear hr hc h1 h2 h3 hl hk
 go_enter Tryz.func73,Tryz.ntmps73
 go_wp2_with fail
 refine HC.out.mono ?_
 rintro e w' ⟨rfl,rfl⟩
 go_wp2_with fail
 refine HW.out.mono ?_
 rintro e w' ⟨rfl,rfl⟩
 go_wp2_with fail
 refine HP.out.mono ?_
 rintro e w1 ⟨v1,rfl,hv,hb⟩
 have H1:=Lib.hid (And.intro hv hb)
 clear hv hb
 go_wp2_with fail
 go_ret
 exact ⟨v1,rfl,H1.out.1,H1.out.2⟩
set_option maxRecDepth 100000 in
theorem c3x (n : Nat) : ∀ (A : Option Addr) (cp : Nat) (l : List Bool) (w : World),Kd.bool.C w A l.length l -> l.length <= cp -> n <= 255 -> l.length + n <= 1000000 ->
    Calls Tryz.prog 74 #[.slice A l.length cp,.int .i64 n] w (MadeB (l ++ runB n) w):=by
 induction n using Nat.strongRecOn with
 | _ n ih=>
  intro A cp l w hr hc hn hl
  have a1 : decide ((n : Int) < 0) = false:=decide_eq_false (by omega)
  have a2 : decide ((255 : Int) < (n : Int)) = false:=decide_eq_false (by omega)
  by_cases h3 : 3 <= n
  · have HP:=Lib.hid (a5a A cp l 3 2 w hr hc (by decide) (by decide) (by omega))
    have HI:=Lib.hid (ih (n - 3) (by omega))
    have hI3 : (3 : Int) <= (n : Int):=by omega
    have hE : runB n = a0i 3 2 ++ runB (n - 3):=a6H h3
    rw [hE,<- List.append_assoc]
    obtain ⟨m,hm⟩ : ∃ m,m = n - 3:=⟨_,rfl⟩
    rw [<- hm] at HI ⊢
    have hmI : (n : Int) - 3 = (m : Int):=by omega
    obtain ⟨L,hL⟩ : ∃ L,L = l ++ a0i 3 2:=⟨_,rfl⟩
    have hLl : L.length = l.length + 2:=by rw [hL,List.length_append,a0D]
    have HLl:=Lib.hid (And.intro hLl (show L.length + m <= 1000000 from by omega))
    have hmw : m <= 255:=by omega
    rw [<- hL] at HP ⊢
    clear ih hr hc hn hl h3 hE hm hL hLl
    go_enter Tryz.func74,Tryz.ntmps74
    go_wp2_with fail
    refine HP.out.mono ?_
    rintro e w1 ⟨v1,rfl,hv,hb⟩
    obtain ⟨A1,c1,rfl⟩:=Kd.R_slice hv
    obtain ⟨_,hc1,hC1⟩:=Kd.R_reads' hv
    have H1:=Lib.hid (And.intro hC1 (And.intro (show L.length <= c1 from hc1) hb))
    clear hv hb hC1 hc1
    go_wp2_with fail
    refine (HI.out A1 c1 L w1 H1.out.1 H1.out.2.1 hmw HLl.out.2).mono ?_
    rintro e w2 ⟨v2,rfl,hv,hb⟩
    have H2:=Lib.hid (And.intro hv hb)
    clear hv hb
    go_wp2_with fail
    go_ret
    exact ⟨v2,rfl,Kd.R_lower H2.out.1 H1.out.2.2.size,a0g H1.out.2.2 H2.out.2⟩
  · have HP:=Lib.hid (a5a A cp l n 2 w hr hc (by decide) (by omega) (by omega))
    have hI3 : ¬ (3 : Int) <= (n : Int):=by omega
    have hw : IntKind.u32.wrap (n : Int) = (n : Int):=by rw [IntKind.wrap_u32']; omega
    rw [a6G (by omega)]
    clear ih hr hc hn hl h3
    go_enter Tryz.func74,Tryz.ntmps74
    go_wp2_with fail
    refine HP.out.mono ?_
    rintro e w1 ⟨v1,rfl,hv,hb⟩
    have H1:=Lib.hid (And.intro hv hb)
    clear hv hb
    go_wp2_with fail
    go_ret
    exact ⟨v1,rfl,H1.out.1,H1.out.2⟩
open Go.Proofs.YtipjlneepponpaaGreat.PRef
def ReadB (xs : List Bool) (w : World) (e : Ending) (w' : World) : Prop:=∃ A c,e = .returned (.slice A xs.length c) /\ Kd.bool.C w' A xs.length xs /\ xs.length <= c /\ Below w.heap.size w w'
theorem MadeB.out {xs : List Bool} {w : World} {e : Ending} {w' : World} (h : MadeB xs w e w') : ∃ A c,e = .returned (.slice A xs.length c) /\ Kd.bool.C w' A xs.length xs /\ xs.length <= c /\ Below w.heap.size w w':=by
 obtain ⟨v,rfl,hv,hb⟩:=h
 obtain ⟨A,c,rfl⟩:=Kd.R_slice hv
 obtain ⟨_,hc,hC⟩:=Kd.R_reads' hv
 exact ⟨A,c,rfl,hC,hc,hb⟩
theorem c3y (A : Option Addr) (cp r : Nat) (q : List Int) (w : World) (hr : (Kd.int .i64).C w A q.length q) (hc : q.length <= cp) (hn : Nrm q r) :
    Calls Tryz.prog 72 #[.slice A q.length cp] w (λ e w'=>e = .returned (.int .i64 (r : Nat)) /\ Below w.heap.size w w'):=by
 obtain ⟨k,hk⟩:=(a5G q).rounds
 rw [hn.log] at hk
 exact (puncheonref08_Log.calls k A cp q _ w hr hc hk).mono λ e w' h=>⟨h.1,by obtain ⟨n,hd⟩:=h.2; rw [hd]; exact a0b (Below.refl _ _) n⟩
structure HRel (q : List Int) (P : Nat) (l L : List Bool) (A : Option Addr) (c s left : Nat) (w wr : World) : Prop where
 row : Kd.bool.C wr A L.length L
 cap : L.length <= c
 bel : Below w.heap.size w wr
 all : ∃ d,L ++ hdrB q d s left = l ++ hdrB q 257 0 P /\ (q.drop s).sum = (left : Int) /\ 257 <= s + d
set_option maxRecDepth 100000 in
set_option maxHeartbeats 2000000 in
theorem b3W (A B : Option Addr) (cl cp r : Nat) (l : List Bool) (q : List Int) (w : World) (hr : Kd.bool.C w A l.length l) (hc : l.length <= cl) (hq : (Kd.int .i64).C w B q.length q) (hqc : q.length <= cp) (hn : Nrm q r) (hl : l.length <= 800000) :
    Calls Tryz.prog 29 #[.slice A l.length cl,.slice B 256 cp] w (ReadB (l ++ hdrB q 257 0 (2 ^ r)) w):=by
 have hp12 : 2 ^ r <= 2 ^ 12:=Nat.pow_le_pow_right (by omega) hn.r12
 have HLen : Hid ((l ++ hdrB q 257 0 (2 ^ r)).length <= 880000):=by
  show _ <= _
  have e2 : (2 : Int) ^ r = ((2 ^ r : Nat) : Int):=by simp
  have h1:=a3q hn.r12 hn.len hn.nn 257 0 (2 ^ r) (by omega) (by rw [List.drop_zero,hn.sum,e2]) (by rw [Nat.pow_succ]; have:=Nat.two_pow_pos r; omega)
  have h2 : (256 - 0) * (r + 3) <= 256 * 15:=Nat.mul_le_mul (by omega) (by have:=hn.r12; omega)
  rw [List.length_append]; omega
 obtain ⟨P,hP⟩ : ∃ P : Nat,P = 2 ^ r:=⟨_,rfl⟩
 have hPI : (2 : Int) ^ r = (P : Int):=by rw [hP]; simp
 have hPb : 1 <= P /\ P <= 4096:=by have:=Nat.two_pow_pos r; omega
 have HLog:=Lib.hid (c3y B cp r q w hq hqc hn)
 rw [hn.len] at HLog
 have hsum : (q.drop 0).sum = (P : Int):=by rw [List.drop_zero,hn.sum,hPI]
 have HN:=Lib.hid hn
 have HQ:=Lib.hid hq
 have HA:=Lib.hid (And.intro hr hc)
 have hr0 : ((r : Int) == 0) = false:=by have:=hn.r1; simp; omega
 have hr12 : r <= 12:=hn.r12
 have hr1 : 1 <= r:=hn.r1
 have HSu:=Lib.hid hsum
 rw [<- hP] at HLen ⊢
 clear hr hc hq hqc hn hl hp12 hP hsum
 go_enter Tryz.func29,Tryz.ntmps29
 go_wp2_with fail
 refine HLog.out.mono ?_
 rintro e w1 ⟨rfl,hb1⟩
 have H0 : Hid (HRel q P l l A cl 0 P w w1):=Lib.hid ⟨Kd.C_below HA.out.1 hb1,HA.out.2,hb1,257,rfl,HSu.out,by omega⟩
 clear hb1
 go_wp2_with fail
 go_loopw [0,6,7,8] (λ v lv sv _ wr=>∃ (L : List Bool) (Al : Option Addr) (c left s : Nat),v = .slice Al L.length c /\ lv = .int .i64 left /\ sv = .int .i64 s /\ left <= 4096 /\ s <= 256 /\ Hid (HRel q P l L Al c s left w wr)) (λ _ _ sv _ _=>257 - (intOf sv).toNat)
 case atStart=>exact ⟨l,A,cl,P,0,rfl,rfl,rfl,by omega,by omega,H0⟩
 case round=>
  obtain ⟨L,Al,c,left,s,rfl,rfl,rfl,hl4,hs,H⟩:=hrel
  obtain ⟨d,hbs,hsm,hd2⟩:=H.out.all
  by_cases h0 : left = 0
  · have HE : Hid (L = l ++ hdrB q 257 0 P):=Lib.hid (by
      have : hdrB q d s left = []:=by
       cases d with
       | zero=>rfl
       | succ d=>simp only [hdrB]; rw [if_pos h0]
      rw [this,List.append_nil] at hbs
      exact hbs)
    clear hbs hsm hd2
    subst h0
    go_wp2_with fail
    go_ret
    rw [<- HE.out]
    exact ⟨Al,c,rfl,H.out.row,H.out.cap,H.out.bel⟩
  · have hs256 : s < 256:=by
      by_cases e : s < 256
      · exact e
      · exfalso; rw [List.drop_of_length_le (by have:=HN.out.len; omega)] at hsm; simp at hsm; omega
    obtain ⟨d',rfl⟩ : ∃ d',d = d' + 1:=⟨d - 1,by omega⟩
    have hds:=a5c (q:=q) (s:=s) (by have:=HN.out.len; omega)
    have hdn:=a6K HN.out.nn (s + 1)
    have hx0:=HN.out.nn _ (a1t (show s < q.length by have:=HN.out.len; omega))
    obtain ⟨x,hx⟩ : ∃ x : Nat,q.getD s 0 = x:=⟨(q.getD s 0).toNat,by omega⟩
    have hxl : x <= left:=by omega
    have hunf : hdrB q (d' + 1) s left = a0i x (Lib.bitLen left) ++ (if x = 0 then runB (a0K q (s + 1)) ++ hdrB q d' (s + 1 + a0K q (s + 1)) left else hdrB q d' (s + 1) (left - x)):=by
     simp only [hdrB]
     rw [if_neg h0,hx,Int.toNat_natCast]
     by_cases e : x = 0
     · rw [if_pos (by omega),if_pos e]
     · rw [if_neg (by omega),if_neg e]
    rw [hunf] at hbs
    have hbl : L.length + (a0i x (Lib.bitLen left)).length <= 880000:=by
     have:=congrArg List.length hbs
     rw [List.length_append,List.length_append] at this
     have:=HLen.out; omega
    rw [hds,hx] at hsm
    have HS:=Lib.hid (And.intro hbs (And.intro hbl (And.intro hsm (And.intro hd2 hx))))
    obtain ⟨ad,hA,hcell⟩:=a0C (Kd.C_below HQ.out H.out.bel) s (by have:=HN.out.len; omega)
    rw [hx] at hcell
    subst hA
    have HP13:=Lib.hid (c3w Al c L x left wr H.out.row H.out.cap (by omega) hl4 hxl (by omega))
    obtain ⟨M,hM⟩ : ∃ M,M = L ++ a0i x (Lib.bitLen left):=⟨_,rfl⟩
    rw [<- hM] at HP13
    have HM:=Lib.hid hM
    have hs256I : (s : Int) < 256:=by omega
    have hleft0 : (0 : Int) < (left : Int):=by omega
    clear hbs hbl hsm hd2 hds hdn hx0 hunf hx hM
    go_wp2_with fail
    refine HP13.out.mono ?_
    intro e w2 h2
    obtain ⟨A2,c2,rfl,hC2,hc2,hb2⟩:=h2.out
    have HB2:=Lib.hid (a0g H.out.bel hb2)
    have hcell2:=a0t hb2 hcell
    have H2:=Lib.hid (And.intro hC2 hc2)
    obtain ⟨ls,hls⟩ : ∃ ls,ls = left - x:=⟨_,rfl⟩
    have hlsI : (left : Int) - (x : Int) = (ls : Int):=by omega
    have HLS:=Lib.hid hls
    clear h2 hC2 hc2 hb2 hcell
    by_cases hxz : x = 0
    · have hzs:=a4q q (s + 1) (by have:=HN.out.len; omega)
      have hzm:=a6L (q:=q) (t:=s + 1) (by have:=HN.out.len; omega) (a0K q (s + 1)) (Nat.le_refl _)
      have hbs:=HS.out.1
      rw [if_pos hxz] at hbs
      obtain ⟨z,hz⟩ : ∃ z,z = a0K q (s + 1):=⟨_,rfl⟩
      rw [<- hz] at hzs hzm hbs
      have hzlt : s + 1 + z < 256:=by
       by_cases e : s + 1 + z < 256
       · exact e
       · exfalso
         have h3:=HS.out.2.2.1
         rw [hzm,List.drop_of_length_le (by have:=HN.out.len; omega)] at h3
         simp at h3; omega
      have HZ:=Lib.hid (And.intro hzs (And.intro hzm hbs))
      have HXZ:=Lib.hid hxz
      subst hxz
      have hlsE : ls = left:=by omega
      subst hlsE
      clear hzs hzm hz hbs hls hlsI
      go_wp2_with fail
      go_loop [7,8] (λ sv nv=>∃ j : Nat,j <= z /\ sv = .int .i64 ((s + 1 + j : Nat) : Int) /\ nv = .int .i64 j) (λ _ nv=>z - (intOf nv).toNat)
      case atStart=>exact ⟨0,by omega,by go_num,rfl⟩
      case round=>
       obtain ⟨j,hj,rfl,rfl⟩:=hrel
       obtain ⟨ad3,hA3,hcell3⟩:=a0C (Kd.C_below HQ.out HB2.out) (s + 1 + j) (by have:=HN.out.len; omega)
       injection hA3 with hA3
       subst hA3
       by_cases hjz : j < z
       · have hq0:=HZ.out.1.2.1 j hjz
         rw [hq0] at hcell3
         obtain ⟨t,ht⟩ : ∃ t,t = s + 1 + j:=⟨_,rfl⟩
         have hT:=Lib.hid ht
         rw [<- ht] at hcell3 ⊢
         have ht256 : (t : Int) < 256:=by omega
         clear ht hq0
         go_wp2_with fail
         go_round
         case rel=>exact ⟨j + 1,by omega,by rw [show s + 1 + (j + 1) = t + 1 by have:=hT.out; omega]; go_num,by go_num⟩
         case measure=>simp [intOf]; omega
       · obtain rfl : j = z:=by omega
         have hqn:=HZ.out.1.2.2 (by have:=HN.out.len; omega)
         obtain ⟨y,hy⟩ : ∃ y,y = q.getD (s + 1 + j) 0:=⟨_,rfl⟩
         rw [<- hy] at hcell3 hqn
         have hyb : (y == 0) = false:=by simpa using hqn
         obtain ⟨t,ht⟩ : ∃ t,t = s + 1 + j:=⟨_,rfl⟩
         have hT:=Lib.hid ht
         rw [<- ht] at hcell3 ⊢
         have ht256 : (t : Int) < 256:=by omega
         have HP14:=Lib.hid (c3x j A2 c2 M w2 H2.out.1 H2.out.2 (by omega) (by have h:=HS.out.2.1; have h3:=HM.out; rw [h3,List.length_append]; omega))
         obtain ⟨M2,hM2⟩ : ∃ l,l = M ++ runB j:=⟨_,rfl⟩
         rw [<- hM2] at HP14
         have HM2:=Lib.hid hM2
         clear ht hqn hy hM2
         go_wp2_with fail
         refine HP14.out.mono ?_
         intro e w3 h3
         obtain ⟨A3,c3,rfl,hC3,hc3,hb3⟩:=h3.out
         have HR3 : Hid (HRel q P l M2 A3 c3 t ls w w3):=Lib.hid ⟨hC3,hc3,a0g HB2.out hb3,d',by
          rw [<- HZ.out.2.2,HM2.out,HM.out,hT.out]; simp only [List.append_assoc],by
          have h1:=HZ.out.2.1
          have h2:=HS.out.2.2.1
          rw [hT.out,<- h1]; omega,by have:=HS.out.2.2.2.1; have:=hT.out; omega⟩
         clear h3 hC3 hc3 hb3
         go_wp2_with fail
         go_roundw
         case rel=>exact ⟨M2,A3,c3,ls,t,rfl,by first | rfl | go_num,rfl,hl4,by omega,HR3⟩
         case measure=>have:=hT.out; simp [intOf]; omega
    · have hxb : (0 : Int) < (x : Int):=by omega
      have HR3 : Hid (HRel q P l M A2 c2 (s + 1) ls w w2):=Lib.hid ⟨H2.out.1,H2.out.2,HB2.out,d',by
       have hbs:=HS.out.1
       rw [if_neg hxz] at hbs
       rw [<- hbs,HM.out,HLS.out,List.append_assoc],by
       have h2:=HS.out.2.2.1; have:=HLS.out; omega,by have:=HS.out.2.2.2.1; omega⟩
      have hlsl : ls <= 4096:=by omega
      clear hls hxz
      go_wp2_with fail
      go_roundw
      case rel=>exact ⟨M,A2,c2,ls,s + 1,rfl,rfl,by go_num,hlsl,by omega,HR3⟩
      case measure=>simp [intOf]; omega
end Go.Proofs.YtipjlneepponpaaGreat
namespace Go.Proofs.YtipjlneepponpaaGreat
open Go.RowKit
def dirB (l : List Int) : List Bool:=(List.range 256).map (λ (c : Nat)=>decide ((c : Int) ∈ l))
def dirL (l : List Int) : List Int:=packB (dirB l)
theorem a2r (l : List Int) : (dirB l).length = 256:=by simp [dirB]
theorem a2F (l : List Int) : (dirL l).length = 32:=by unfold dirL; rw [a0x,a2r]
def onesN (ps : List Int) (k : Nat) : List Int:=((List.range k).filter (λ (c : Nat)=>decide (bitI ps c = 1))).map (λ (c : Nat)=>(c : Int))
theorem a5d (ps : List Int) (k : Nat) : onesN ps (k + 1) = if bitI ps k = 1 then onesN ps k ++ [(k : Int)] else onesN ps k:=by
 unfold onesN; rw [List.range_succ,List.filter_append,List.map_append]
 by_cases h : bitI ps k = 1
 · rw [if_pos h]; congr 1; simp only [List.filter_cons,List.filter_nil,h,decide_true]; rfl
 · rw [if_neg h]; simp only [List.filter_cons,List.filter_nil,h,decide_false]; simp
theorem b3X (ps : List Int) (k : Nat) : (onesN ps k).length <= k:=by
 unfold onesN; rw [List.length_map]; exact Nat.le_trans (List.length_filter_le _ _) (by simp)
theorem b3Y {ps : List Int} {k : Nat} {x : Int} (h : x ∈ onesN ps k) : ∃ c : Nat,x = c /\ c < k /\ bitI ps c = 1:=by
 unfold onesN at h
 obtain ⟨c,hc,rfl⟩:=List.mem_map.1 h
 obtain ⟨h1,h2⟩:=List.mem_filter.1 hc
 exact ⟨c,rfl,List.mem_range.1 h1,of_decide_eq_true h2⟩
def dirT (ps : List Int) : Int × List Int:=if ps.length < 32 then (3,[]) else if (onesN ps 256).getD 0 1 ≠ 0 then (13,[]) else (0,onesN ps 256)
def hdrsB (r : Nat) (qs : List (List Int)) : List Int -> List Bool
 | []=>[]
 | c :: l=>hdrB (qs.getD c.toNat []) 257 0 (2 ^ r) ++ hdrsB r qs l
def hdrsT (ps : List Int) (r : Nat) : List Int -> List (List Int) -> Nat -> Int × List (List Int) × Nat
 | [],qs,at_=>(0,qs,at_)
 | c :: l,qs,at_=>if (hdrT ps (8 * ps.length) 257 a0F 0 (2 ^ r) false at_).1 ≠ 0 then ((hdrT ps (8 * ps.length) 257 a0F 0 (2 ^ r) false at_).1,qs,at_) else
  hdrsT ps r l (qs.set c.toNat (hdrT ps (8 * ps.length) 257 a0F 0 (2 ^ r) false at_).2.1) (hdrT ps (8 * ps.length) 257 a0F 0 (2 ^ r) false at_).2.2
def a2s : List (List Int):=List.replicate 256 []
def a0H (ps : List Int) : Int × Nat × List (List Int) × List Int:=
 if ps.length = 0 then (3,0,[],[]) else if (ps.getD 0 0).toNat < 5 \/ 9 < (ps.getD 0 0).toNat then (13,0,[],[]) else
 if (dirT (ps.drop 1)).1 ≠ 0 then ((dirT (ps.drop 1)).1,0,[],[]) else
 if (hdrsT (ps.drop 33) (ps.getD 0 0).toNat (dirT (ps.drop 1)).2 a2s 0).1 ≠ 0 then ((hdrsT (ps.drop 33) (ps.getD 0 0).toNat (dirT (ps.drop 1)).2 a2s 0).1,0,[],[]) else
 if (hdrsT (ps.drop 33) (ps.getD 0 0).toNat (dirT (ps.drop 1)).2 a2s 0).2.2 % 8 ≠ 0 /\ ((ps.drop 33).getD ((hdrsT (ps.drop 33) (ps.getD 0 0).toNat (dirT (ps.drop 1)).2 a2s 0).2.2 / 8) 0).toNat / 2 ^ ((hdrsT (ps.drop 33) (ps.getD 0 0).toNat (dirT (ps.drop 1)).2 a2s 0).2.2 % 8) ≠ 0 then (4,0,[],[]) else
 (0,(ps.getD 0 0).toNat,(hdrsT (ps.drop 33) (ps.getD 0 0).toNat (dirT (ps.drop 1)).2 a2s 0).2.1,(ps.drop 33).drop (((hdrsT (ps.drop 33) (ps.getD 0 0).toNat (dirT (ps.drop 1)).2 a2s 0).2.2 + 7) / 8))
def a1b (b : List Int) : List Int:=[(a0o b : Int)] ++ dirL (presN b 256) ++ packB (hdrsB (a0o b) (a0y b) (presN b 256)) ++ packB (a0M (a0o b : Nat) false (a0y b) b ++ [true])
theorem a8I (b : List Int) (c : Nat) (hc : c < 256) : (c : Int) ∈ presN b 256 ↔ 0 < (a0n b (c : Int)).length:=by
 unfold presN
 constructor
 · intro h
   obtain ⟨d,hd,e⟩:=List.mem_map.1 h
   obtain ⟨_,h2⟩:=List.mem_filter.1 hd
   have : d = c:=by omega
   subst this; exact of_decide_eq_true h2
 · intro h
   exact List.mem_map.2 ⟨c,List.mem_filter.2 ⟨List.mem_range.2 hc,by simpa using h⟩,rfl⟩
theorem c3z (l p : List Int) : ∀ k,k <= 256 -> onesN (dirL l ++ p) k = ((List.range k).filter (λ (c : Nat)=>decide ((c : Int) ∈ l))).map (λ (c : Nat)=>(c : Int)):=by
 intro k hk
 unfold onesN
 congr 1
 refine List.filter_congr (λ c hc=>?_)
 have hc':=List.mem_range.1 hc
 have h1:=a8H (dirB l) p c (by rw [a2r]; omega)
 rw [Nat.zero_add] at h1
 have h1' : bitI (dirL l ++ p) c = ((dirB l).getD c false).toNat:=h1
 rw [h1']
 have h2 : (dirB l).getD c false = decide ((c : Int) ∈ l):=by
  rw [List.getD_eq_getElem?_getD,List.getElem?_eq_getElem (by rw [a2r]; omega),Option.getD_some]
  simp [dirB]
 rw [h2]
 by_cases h : (c : Int) ∈ l
 · rw [decide_eq_true h]; rfl
 · rw [decide_eq_false h]; rfl
theorem b3Z {b : List Int} (h0 : 0 < b.length) : (presN b 256).getD 0 1 = 0:=by
 have h1 : (0 : Int) ∈ presN b 256:=(a8I b 0 (by omega)).2 (by
  refine List.length_pos_iff_exists_mem.2 ⟨b.getD 0 0,?_⟩
  unfold a0n pkL
  exact List.mem_map.2 ⟨0,List.mem_filter.2 ⟨List.mem_range.2 h0,decide_eq_true (a4S b h0)⟩,rfl⟩)
 have h2 : presN b 256 = ((List.range 256).filter (λ (c : Nat)=>decide (0 < (a0n b (c : Int)).length))).map (λ (c : Nat)=>(c : Int)):=rfl
 have h3 : 0 < (a0n b ((0 : Nat) : Int)).length:=(a8I b 0 (by omega)).1 h1
 have h4 : List.range 256 = 0 :: (List.range 255).map Nat.succ:=List.range_succ_eq_map
 rw [h2,h4,List.filter_cons,if_pos (by simpa using h3)]
 rfl
theorem c3A {b p : List Int} (h0 : 0 < b.length) : dirT (dirL (presN b 256) ++ p) = (0,presN b 256):=by
 have h1 : onesN (dirL (presN b 256) ++ p) 256 = presN b 256:=by
  rw [c3z _ _ _ (Nat.le_refl _)]
  have h2 : presN b 256 = ((List.range 256).filter (λ (c : Nat)=>decide (0 < (a0n b (c : Int)).length))).map (λ (c : Nat)=>(c : Int)):=rfl
  conv=>rhs; rw [h2]
  congr 1
  refine List.filter_congr (λ c hc=>?_)
  have:=a8I b c (List.mem_range.1 hc)
  by_cases h : 0 < (a0n b (c : Int)).length
  · rw [decide_eq_true h,decide_eq_true (this.2 h)]
  · rw [decide_eq_false h,decide_eq_false (λ x=>h (this.1 x))]
 unfold dirT
 rw [if_neg (by rw [List.length_append,a2F]; omega),h1,if_neg (λ h=>h (b3Z h0))]
theorem a6N {b : List Int} (hb : Bytes b) (hl : b.length <= 1000000) {c : Nat} (hc : c < 256) (h0 : 0 < (a0n b (c : Int)).length) : (a1c b c).length = 256 /\ (∀ x ∈ a1c b c,0 <= x) /\ (a1c b c).sum = 2 ^ a0o b:=by
 have h:=a4p (a4X hb hl hc h0)
 unfold a1c; rw [if_pos h0]
 exact ⟨h.1.len,h.1.nonneg,h.2.1⟩
theorem c3B {ps q : List Int} {r at_ : Nat} (hr : r <= 12) (hq : q.length = 256) (hn : ∀ x ∈ q,0 <= x) (hs : q.sum = 2 ^ r) (hb : BitsAt ps at_ (hdrB q 257 0 (2 ^ r))) (hl : at_ + (hdrB q 257 0 (2 ^ r)).length <= 8 * ps.length) : hdrT ps (8 * ps.length) 257 a0F 0 (2 ^ r) false at_ = (0,q,at_ + (hdrB q 257 0 (2 ^ r)).length):=by
 have hp12 : 2 ^ r <= 2 ^ 12:=Nat.pow_le_pow_right (by omega) hr
 have e2 : (2 : Int) ^ r = ((2 ^ r : Nat) : Int):=by simp
 refine b3P hq hn 257 0 (2 ^ r) at_ a0F false (by omega) (by omega) (by rw [List.drop_zero,hs,e2]) (by omega) (λ h=>by cases h) (by unfold a0F; exact List.length_replicate) (λ k hk=>by omega) (λ k _=>?_) hb hl
 unfold a0F; rw [List.getD_eq_getElem?_getD,List.getElem?_replicate]; split <;> rfl
theorem c3C {b ps : List Int} (hb : Bytes b) (hl : b.length <= 1000000) : ∀ (d i at_ : Nat),i + d = (presN b 256).length -> BitsAt ps at_ (hdrsB (a0o b) (a0y b) ((presN b 256).drop i)) -> at_ + (hdrsB (a0o b) (a0y b) ((presN b 256).drop i)).length <= 8 * ps.length ->
    hdrsT ps (a0o b) ((presN b 256).drop i) (a2X b i) at_ = (0,a0y b,at_ + (hdrsB (a0o b) (a0y b) ((presN b 256).drop i)).length):=by
 intro d
 induction d with
 | zero=>
  intro i at_ hi _ _
  rw [List.drop_of_length_le (by omega),show i = (presN b 256).length by omega]
  simp only [hdrsT,hdrsB,List.length_nil,Nat.add_zero]
  rw [b3G]
 | succ d ih=>
  intro i at_ hi hB hL
  have hlt : i < (presN b 256).length:=by omega
  obtain ⟨c,hc,hc256,hpk⟩:=a6D b hlt
  have hr:=a2q b
  have hd : (presN b 256).drop i = (c : Int) :: (presN b 256).drop (i + 1):=by rw [a4k _ _ hlt,hc]
  have hq : (a0y b).getD c [] = a1c b c:=a6y b hc256
  obtain ⟨n1,n2,n3⟩:=a6N hb hl hc256 hpk
  rw [hd] at hB hL ⊢
  simp only [hdrsB,Int.toNat_natCast,hq] at hB hL ⊢
  rw [List.length_append] at hL ⊢
  have hh:=c3B (by omega) n1 n2 n3 hB.left (by omega)
  simp only [hdrsT,hh]
  rw [if_neg (λ h=>h rfl),Int.toNat_natCast,b3F b hlt hc]
  have:=ih (i + 1) (at_ + (hdrB (a1c b c) 257 0 (2 ^ a0o b)).length) (by omega) hB.right (by omega)
  rw [this,Nat.add_assoc]
theorem c3D {b : List Int} (hb : Bytes b) (hl : b.length <= 1000000) (h0 : 0 < b.length) : a0H (a1b b) = (0,a0o b,a0y b,packB (a0M (a0o b : Nat) false (a0y b) b ++ [true])):=by
 obtain ⟨p,hp⟩ : ∃ p,p = packB (a0M (a0o b : Nat) false (a0y b) b ++ [true]):=⟨_,rfl⟩
 obtain ⟨X,hX⟩ : ∃ X,X = hdrsB (a0o b) (a0y b) (presN b 256):=⟨_,rfl⟩
 have e1 : a1b b = (a0o b : Int) :: (dirL (presN b 256) ++ (packB X ++ p)):=by
  unfold a1b; rw [<- hp,<- hX]; simp
 have hr:=a2q b
 have e2 : (a1b b).getD 0 0 = a0o b:=by rw [e1]; rfl
 have e3 : (a1b b).drop 1 = dirL (presN b 256) ++ (packB X ++ p):=by rw [e1]; rfl
 have e4 : (a1b b).drop 33 = packB X ++ p:=by
  rw [show 33 = 1 + 32 from rfl,<- List.drop_drop,e3,List.drop_append_of_le_length (by rw [a2F]; exact Nat.le_refl _),List.drop_of_length_le (by rw [a2F]; exact Nat.le_refl _),List.nil_append]
 have hh:=c3C (ps:=packB X ++ p) hb hl (presN b 256).length 0 0 (by omega) (by rw [List.drop_zero,<- hX]; exact a8H X p) (by rw [List.drop_zero,<- hX,List.length_append,a0x]; omega)
 rw [List.drop_zero,b3E,<- hX,Nat.zero_add] at hh
 unfold a0H
 rw [if_neg (by rw [e1]; simp),e2,Int.toNat_natCast,if_neg (by omega),e3,c3A h0,e4]
 dsimp only
 rw [if_neg (λ h=>h rfl)]
 unfold a2s
 rw [hh]
 dsimp only
 rw [if_neg (λ h=>h rfl),if_neg (λ h=>h.2 (b3T _ p h.1))]
 rw [List.drop_append_of_le_length (by rw [a0x]; exact Nat.le_refl _),List.drop_of_length_le (by rw [a0x]; exact Nat.le_refl _),List.nil_append,<- hp]
def dec1M (ps : List Int) (n : Int) : Int × List Int:=if (a0H ps).1 ≠ 0 then ((a0H ps).1,[]) else decM ((a0H ps).2.1 : Nat) false (a0H ps).2.2.1 (a0H ps).2.2.2 n
def putN (l : List Int) : Nat -> Nat
 | 0=>0
 | i + 1=>(l.getD i 0).toNat + 1
structure Asc (l : List Int) : Prop where
 first : l.getD 0 1 = 0
 asc : ∀ i,i + 1 < l.length -> l.getD i 0 < l.getD (i + 1) 0
 lo : ∀ x ∈ l,0 <= x
 hi : ∀ x ∈ l,x < 256
theorem Asc.pos {l : List Int} (h : Asc l) : 0 < l.length:=by
 rcases Nat.eq_zero_or_pos l.length with e | e
 · have:=h.first
   rw [List.eq_nil_of_length_eq_zero e] at this; cases this
 · exact e
theorem Asc.zero {l : List Int} (h : Asc l) : l.getD 0 0 = 0:=by
 have h1:=h.first
 have h2:=h.pos
 rw [List.getD_eq_getElem?_getD,List.getElem?_eq_getElem h2,Option.getD_some] at h1 ⊢
 exact h1
theorem Asc.lt {l : List Int} (h : Asc l) : ∀ (d i : Nat),i + d + 1 < l.length -> l.getD i 0 < l.getD (i + d + 1) 0:=by
 intro d
 induction d with
 | zero=>intro i hi; exact h.asc i hi
 | succ d ih=>
  intro i hi
  have h1:=ih i (by omega)
  have h2:=h.asc (i + d + 1) (by omega)
  rw [show i + (d + 1) + 1 = i + d + 1 + 1 by omega]
  omega
theorem Asc.lt' {l : List Int} (h : Asc l) {i j : Nat} (hij : i < j) (hj : j < l.length) : l.getD i 0 < l.getD j 0:=by
 have:=h.lt (j - i - 1) i (by omega)
 rwa [show i + (j - i - 1) + 1 = j by omega] at this
theorem Asc.get {l : List Int} (h : Asc l) {i : Nat} (hi : i < l.length) : ∃ c : Nat,l.getD i 0 = c /\ c < 256:=by
 have hm:=a1t hi
 have h1:=h.lo _ hm
 have h2:=h.hi _ hm
 exact ⟨(l.getD i 0).toNat,by omega,by omega⟩
theorem Asc.put_le {l : List Int} (h : Asc l) {i c : Nat} (hi : i < l.length) (hc : l.getD i 0 = c) : putN l i <= c:=by
 cases i with
 | zero=>exact Nat.zero_le _
 | succ i=>
  have h1:=h.asc i hi
  have h2:=h.lo _ (a1t (show i < l.length by omega))
  show (l.getD i 0).toNat + 1 <= c
  omega
theorem a6O {l : List Int} {x : Int} (h : x ∈ l) : ∃ j,j < l.length /\ l.getD j 0 = x:=by
 obtain ⟨j,hj,rfl⟩:=List.getElem_of_mem h
 exact ⟨j,hj,by rw [List.getD_eq_getElem?_getD,List.getElem?_eq_getElem hj,Option.getD_some]⟩
theorem a6P (l : List Int) {n : Nat} (hn : n < 256) : (dirB l).getD n false = decide ((n : Int) ∈ l):=by
 rw [List.getD_eq_getElem?_getD,List.getElem?_eq_getElem (by rw [a2r]; omega),Option.getD_some]
 simp [dirB]
theorem Asc.gap {l : List Int} (h : Asc l) {i n c : Nat} (hi : i < l.length) (hc : l.getD i 0 = c) (h1 : putN l i <= n) (h2 : n < c) : (n : Int) ∉ l:=by
 intro hm
 obtain ⟨j,hj,e⟩:=a6O hm
 rcases Nat.lt_trichotomy j i with hlt | heq | hgt
 · cases i with
   | zero=>omega
   | succ i=>
    have h3 : (l.getD i 0).toNat + 1 <= n:=h1
    by_cases hji : j = i
    · subst hji; omega
    · have:=h.lt' (show j < i by omega) (by omega); omega
 · subst heq; omega
 · have:=h.lt' hgt hj; omega
theorem Asc.behind {l : List Int} (h : Asc l) {n : Nat} (h1 : putN l l.length <= n) : (n : Int) ∉ l:=by
 intro hm
 obtain ⟨j,hj,e⟩:=a6O hm
 obtain ⟨m,hm2⟩ : ∃ m,l.length = m + 1:=⟨l.length - 1,by omega⟩
 rw [hm2] at h1
 have h3 : (l.getD m 0).toNat + 1 <= n:=h1
 by_cases hjm : j = m
 · subst hjm; omega
 · have:=h.lt' (show j < m by omega) (by omega); omega
theorem c3E {l : List Int} (h : Asc l) {i n c : Nat} (hi : i < l.length) (hc : l.getD i 0 = c) (hc2 : c < 256) (h1 : putN l i <= n) (h2 : n < c) : (dirB l).take (n + 1) = (dirB l).take n ++ [false]:=by
 have hl:=a2r l
 rw [List.take_succ_eq_append_getElem (by omega)]
 congr 2
 have h3:=a6P l (n:=n) (by omega)
 rw [decide_eq_false (h.gap hi hc h1 h2),List.getD_eq_getElem?_getD,List.getElem?_eq_getElem (by omega),Option.getD_some] at h3
 exact h3
theorem c3F {l : List Int} {i c : Nat} (hi : i < l.length) (hc : l.getD i 0 = c) (hc2 : c < 256) : (dirB l).take (putN l (i + 1)) = (dirB l).take c ++ [true]:=by
 have hl:=a2r l
 have e : putN l (i + 1) = c + 1:=by show (l.getD i 0).toNat + 1 = _; omega
 rw [e,List.take_succ_eq_append_getElem (by omega)]
 congr 2
 have h3:=a6P l (n:=c) hc2
 rw [decide_eq_true (by rw [<- hc]; exact a1t hi),List.getD_eq_getElem?_getD,List.getElem?_eq_getElem (by omega),Option.getD_some] at h3
 exact h3
theorem c3G (bs : List Bool) (n : Nat) (hn : n <= bs.length) (h : ∀ k,n <= k -> bs.getD k false = false) : packB bs = packB (bs.take n) ++ List.replicate ((bs.length + 7) / 8 - (n + 7) / 8) 0:=by
 apply List.ext_getElem
 · rw [a0x,List.length_append,a0x,List.length_replicate,List.length_take]; omega
 · intro j h1 h2
   rw [a1N]
   rw [a0x] at h1
   have hb : ∀ (a b : List Bool),(∀ k,a.getD k false = b.getD k false) -> a.length <= b.length -> byteL a = byteL b:=by
    intro a b hab hle
    have e : b = a ++ List.replicate (b.length - a.length) false:=by
     apply List.ext_getElem
     · rw [List.length_append,List.length_replicate]; omega
     · intro k k1 k2
       have:=hab k
       rw [List.getD_eq_getElem?_getD,List.getD_eq_getElem?_getD,List.getElem?_eq_getElem k1,Option.getD_some] at this
       by_cases hk : k < a.length
       · rw [List.getElem?_eq_getElem hk,Option.getD_some] at this
         rw [List.getElem_append_left hk]; exact this.symm
       · rw [List.getElem?_eq_none (by omega)] at this
         rw [List.getElem_append_right (by omega),List.getElem_replicate]; exact this.symm
    have z : ∀ m,byteL (a ++ List.replicate m false) = byteL a:=by
     intro m
     induction m with
     | zero=>simp
     | succ m ih=>rw [List.replicate_succ',<- List.append_assoc,a2T,ih]; simp
    rw [e,z]
   by_cases hj : j < (packB (bs.take n)).length
   · rw [List.getElem_append_left hj,a1N]
     congr 1
     symm
     refine hb _ _ (λ k=>?_) ?_
     · simp only [List.getD_eq_getElem?_getD,List.getElem?_take,List.getElem?_drop]
       by_cases hk : k < 8
       · rw [if_pos hk,if_pos hk]
         by_cases hk2 : 8 * j + k < n
         · rw [if_pos hk2]
         · rw [if_neg hk2]
           have:=h (8 * j + k) (by omega)
           rw [List.getD_eq_getElem?_getD] at this
           rw [this]; rfl
       · rw [if_neg hk,if_neg hk]
     · simp only [List.length_take,List.length_drop]; omega
   · rw [List.getElem_append_right (by omega),List.getElem_replicate]
     rw [a0x,List.length_take,Nat.min_eq_left hn] at hj
     have : byteL ((bs.drop (8 * j)).take 8) = byteL []:=by
      symm
      refine hb _ _ (λ k=>?_) (by simp)
      simp only [List.getD_eq_getElem?_getD,List.getElem?_take,List.getElem?_drop,List.getElem?_nil]
      by_cases hk : k < 8
      · rw [if_pos hk]
        have:=h (8 * j + k) (by omega)
        rw [List.getD_eq_getElem?_getD] at this
        rw [this]; rfl
      · rw [if_neg hk]
     rw [this]; rfl
theorem c3H {l : List Int} (h : Asc l) : dirL l = packB ((dirB l).take (putN l l.length)) ++ List.replicate (32 - ((putN l l.length) + 7) / 8) 0:=by
 have hl:=a2r l
 have hn : putN l l.length <= 256:=by
  have hp:=h.pos
  obtain ⟨m,hm2⟩ : ∃ m,l.length = m + 1:=⟨l.length - 1,by omega⟩
  rw [hm2]
  show (l.getD m 0).toNat + 1 <= 256
  have:=h.hi _ (a1t (show m < l.length by omega)); omega
 have:=c3G (dirB l) (putN l l.length) (by omega) (λ k hk=>by
  by_cases hk2 : k < 256
  · rw [a6P l hk2,decide_eq_false (h.behind hk)]
  · rw [List.getD_eq_getElem?_getD,List.getElem?_eq_none (by omega)]; rfl)
 rw [hl] at this
 exact this
theorem b4a {b : List Int} (h0 : 0 < b.length) : Asc (presN b 256):=by
 refine ⟨b3Z h0,λ i hi=>?_,λ x hx=>?_,λ x hx=>?_⟩
 · have hp : (presN b 256).Pairwise (· < ·):=by
     unfold presN
     rw [List.pairwise_map]
     refine List.Pairwise.filter _ (List.Pairwise.imp (λ h=>?_) List.pairwise_lt_range)
     omega
   have:=List.pairwise_iff_getElem.1 hp i (i + 1) (by omega) hi (by omega)
   rw [List.getD_eq_getElem?_getD,List.getElem?_eq_getElem (by omega),List.getD_eq_getElem?_getD,List.getElem?_eq_getElem hi]
   exact this
 · unfold presN at hx
   obtain ⟨c,_,rfl⟩:=List.mem_map.1 hx; omega
 · unfold presN at hx
   obtain ⟨c,hc,rfl⟩:=List.mem_map.1 hx
   have:=List.mem_range.1 (List.mem_filter.1 hc).1; omega
open Go.IntWalk Go.Proofs.YtipjlneepponpaaGreatW.PrintWords
theorem a8J (w : World) : WrVal (w.alloc (.cells #[.slice none 0 0,.int .i64 0] 140)) w.heap.size w.heap.size (.slice none 0 0) []:=⟨a0m _ _,Kd.R_nil _ _ _ _ _⟩
theorem PutRel.bel {base p : Nat} {v0 : Value} {bs : List Bool} {w0 w w' : World} (h : PutRel base p v0 bs w w') (hb : Below w0.heap.size w0 w) (hp : w0.heap.size <= p) (hv : ∀ k,v0.ownBlock = some k -> w0.heap.size <= k) : Below w0.heap.size w0 w':=by
 obtain ⟨_,_,_,ho⟩:=h
 exact hb.trans (ho.below hb.size (λ k hk=>by
  rcases hk with hk | hk
  · exact hk ▸ hp
  · exact hv k hk))
theorem b4b : a0i 0 1 = [false]:=by decide
theorem b4c : a0i 1 1 = [true]:=by decide
theorem c3K {l : List Int} (h : Asc l) {i : Nat} (hi : i <= l.length) : putN l i <= 256:=by
 cases i with
 | zero=>exact Nat.zero_le _
 | succ i=>
  show (l.getD i 0).toNat + 1 <= 256
  have:=h.hi _ (a1t (show i < l.length by omega)); omega
theorem a6Q {l : List Int} {n : Nat} (hn : n <= 256) : ((dirB l).take n).length = n:=by
 rw [List.length_take,a2r]; omega
def DRel (P : Nat) (l : List Int) (n : Nat) (W wr : World) : Prop:=PutRel P P (.slice none 0 0) ((dirB l).take n) W wr
theorem DRel.cell {P n : Nat} {l : List Int} {W wr : World} (h : DRel P l n W wr) (hn : n <= 256) : wr.cell? ⟨P,1,none⟩ = some (.int .i64 n):=by
 obtain ⟨v,h1,_⟩:=h
 have:=(a0a h1.blk 1).trans rfl
 rw [a6Q hn] at this; exact this
theorem DRel.below {P n : Nat} {l : List Int} {w W wr : World} (h : DRel P l n W wr) (hb : Below w.heap.size w W) (hp : w.heap.size <= P) : Below w.heap.size w wr:=PutRel.bel h hb hp (λ k hk=>by simp [Value.ownBlock] at hk)
def c3L (l : List Int) (w : World) (e : Ending) (w' : World) : Prop:=∃ v,e = .returned (.tuple #[v,.bool true]) /\ (Kd.int .u8).R 5 w' w.heap.size (λ _=>True) v (dirL l) /\ Below w.heap.size w w'
set_option maxRecDepth 100000 in
set_option maxHeartbeats 4000000 in
theorem c3M (A : Option Addr) (cp : Nat) (l : List Int) (w : World) (hr : (Kd.int .i64).C w A l.length l) (hA : Asc l) (hl : l.length <= 256) :
    Calls Tryz.prog 99 #[.slice A l.length cp] w (c3L l w):=by
 obtain ⟨ad,rfl,hcs⟩:=a4I hr hA.pos
 have h00:=hcs 0 hA.pos
 rw [hA.zero,Addr.add_zero'] at h00
 obtain ⟨W,hW⟩ : ∃ W,W = w.alloc (.cells #[.slice none 0 0,.int .i64 0] 140):=⟨_,rfl⟩
 have hb1 : Below w.heap.size w W:=by rw [hW]; exact (Below.refl _ _).alloc (Nat.le_refl _) _
 have hw0 : WrVal W w.heap.size w.heap.size (.slice none 0 0) []:=by rw [hW]; exact a8J w
 obtain ⟨P,hP⟩ : ∃ P,P = w.heap.size:=⟨_,rfl⟩
 have HPW : Hid (P <= W.heap.size):=by rw [hP]; exact Lib.hid hb1.size
 rw [<- hP] at hw0
 have HP:=Lib.hid hP
 have HR:=Lib.hid (And.intro hr (And.intro hA hl))
 have HW0:=Lib.hid (And.intro hb1 hw0)
 have hne : ((l.length : Int) == 0) = false:=by have:=hA.pos; simp; intro e; subst e; simp at this
 have hpos : 0 < l.length:=hA.pos
 have hl256 : l.length <= 256:=hl
 have hne0 : ¬ l = []:=by intro e; subst e; simp at hpos
 clear hr hA hl hb1 hw0 hcs
 go_enter Tryz.func99,Tryz.ntmps99
 go_wp2_with fail
 refine (a5W _).mono ?_
 rw [<- hW,<- hP]
 clear hW hP h00
 rintro e w1 ⟨rfl,rfl⟩
 go_wp2_with fail
 go_loopw [19] (λ kv wr=>∃ i : Nat,i <= l.length /\ kv = .int .i64 i /\ Hid (DRel P l (putN l i) w1 wr)) (λ kv _=>l.length - (intOf kv).toNat)
 case atStart=>exact ⟨0,by omega,rfl,Lib.hid ⟨_,HW0.out.2,.inl rfl,Only.refl _ _⟩⟩
 case round=>
  obtain ⟨i,hi,rfl,H⟩:=hrel
  by_cases hlt : i < l.length
  · obtain ⟨c,hc,hc256⟩:=HR.out.2.1.get hlt
    have hB:=H.out.below HW0.out.1 (by have:=HP.out; omega)
    obtain ⟨ad2,hA2,hcx⟩:=a0C (Kd.C_below HR.out.1 hB) i hlt
    cases hA2
    rw [hc] at hcx
    have hgap : Hid ((¬ 0 < i /\ i = 0) \/ (0 < i /\ ∃ j c' : Nat,(i : Int) - 1 = (j : Int) /\ wr.cell? (ad.add j) = some (.int .i64 c') /\ c' < c /\ (j : Int) < (l.length : Int))):=by
     rcases Nat.eq_zero_or_pos i with h0 | h0
     · exact Lib.hid (.inl ⟨by omega,h0⟩)
     · obtain ⟨c',hc',_⟩:=HR.out.2.1.get (i:=i - 1) (by omega)
       obtain ⟨ad3,hA3,hcx'⟩:=a0C (Kd.C_below HR.out.1 hB) (i - 1) (by omega)
       cases hA3
       rw [hc'] at hcx'
       have h2:=HR.out.2.1.asc (i - 1) (by omega)
       rw [show i - 1 + 1 = i by omega] at h2
       exact Lib.hid (.inr ⟨h0,i - 1,c',by omega,hcx',by omega,by omega⟩)
    have hpl:=HR.out.2.1.put_le hlt hc
    have HC:=Lib.hid (And.intro hc (And.intro hc256 (And.intro hpl hlt)))
    have hc2 : c < 256:=hc256
    have HZ1:=Lib.hid (c3F (l:=l) hlt hc hc2)
    have HZ0 : Hid (∀ n,putN l i <= n -> n < c -> (dirB l).take (n + 1) = (dirB l).take n ++ [false]):=Lib.hid λ n g1 g2=>c3E HR.out.2.1 hlt hc hc2 g1 g2
    obtain ⟨i1,hi1⟩ : ∃ i1,i1 = i + 1:=⟨_,rfl⟩
    rw [<- hi1] at HZ1
    have HI : Hid (DRel P l (putN l i1) w1 wr -> i1 <= l.length /\ (i1 : Int) = (i : Int) + 1):=Lib.hid λ _=>⟨by omega,by omega⟩
    have HI1 : Hid (i1 <= l.length /\ (i1 : Int) = (i : Int) + 1):=Lib.hid ⟨by omega,by omega⟩
    obtain ⟨N0,hN0⟩ : ∃ N0,N0 = putN l i:=⟨_,rfl⟩
    rw [<- hN0] at H hpl HZ0
    have HPl:=Lib.hid hpl
    clear hc hc256 hB hpl hN0 hi1 HC HI
    have hd256 : decide ((256 : Int) <= (c : Int)) = false:=decide_eq_false (by omega)
    rcases hgap.out with ⟨hz,hz0⟩ | ⟨hz,j,c',hij,hcy,hcc,hjl⟩
    · subst hz0
      rw [Addr.add_zero'] at hcx
      rw [show ((0 : Nat) : Int) = 0 from rfl] at HI1 ⊢
      clear hz hgap
      go_wp2_with fail
      go_loopw [] (λ wr=>Hid (∃ n,N0 <= n /\ n <= c /\ DRel P l n w1 wr)) (λ wr=>c - (intOf ((wr.cell? ⟨P,1,none⟩).getD undef)).toNat)
      case atStart=>exact Lib.hid ⟨_,Nat.le_refl _,HPl.out,H.out⟩
      case round=>
       obtain ⟨n,hn1,hn2,hn3⟩:=hrel.out
       obtain ⟨v1,k1,k2,k3⟩:=hn3
       have hcell:=DRel.cell ⟨v1,k1,k2,k3⟩ (show n <= 256 by omega)
       have hlen:=a6Q (l:=l) (show n <= 256 by omega)
       have HK:=Lib.hid (And.intro k1 (And.intro k2 k3))
       have HBs : Hid (P <= wr.heap.size):=Lib.hid (Nat.le_trans HPW.out k3.size)
       have HN:=Lib.hid (And.intro hn1 hn2)
       have HBt:=Lib.hid (b2c P P v1 _ wr k1)
       rw [hlen] at HBt
       have HLe : Hid (((dirB l).take n).length <= 900000):=Lib.hid (by omega)
       have HCell:=Lib.hid hcell
       clear k1 k2 k3 hn1 hlen hrel hcell
       go_wp2_with fail
       refine HBt.out.mono ?_
       rintro e w2 ⟨rfl,rfl⟩
       by_cases hnc : n < c
       · have hz2:=HZ0.out n HN.out.1 hnc
         have HZ2:=Lib.hid hz2
         clear hz2
         go_wp2_with fail
         refine (a2c P P v1 _ 0 1 wr HK.out.1 HBs.out HLe.out (by decide) (by decide)).mono ?_
         rintro e w3 ⟨rfl,hp⟩
         have HP3 : Hid (DRel P l (n + 1) w1 w3):=Lib.hid (by
          have:=PutRel.trans HK.out hp
          unfold DRel
          rw [HZ2.out,<- b4b]; exact this)
         clear hp
         go_wp2_with fail
         go_roundw
         case rel=>exact Lib.hid ⟨n + 1,by have:=HN.out.1; omega,by omega,HP3.out⟩
         case measure=>
          rw [HP3.out.cell (by omega),HCell.out]
          simp [intOf]; omega
       · obtain rfl : n = c:=by omega
         go_wp2_with fail
         refine (a2c P P v1 _ 1 1 wr HK.out.1 HBs.out HLe.out (by decide) (by decide)).mono ?_
         rintro e w3 ⟨rfl,hp⟩
         have HP3 : Hid (DRel P l (putN l i1) w1 w3):=Lib.hid (by
          have:=PutRel.trans HK.out hp
          unfold DRel
          rw [HZ1.out,<- b4c]; exact this)
         clear hp
         go_wp2_with fail
         go_roundw
         case rel=>exact ⟨i1,HI1.out.1,by first | (rw [HI1.out.2]; done) | (rw [HI1.out.2]; rfl) | (rw [HI1.out.2]; go_num),HP3.out⟩
         case measure=>first | (simp [intOf]; done) | (simp [intOf]; omega)
    · clear hgap
      have hcd : decide (c <= c') = false:=decide_eq_false (by omega)
      clear hcc
      go_wp2_with fail
      go_loopw [] (λ wr=>Hid (∃ n,N0 <= n /\ n <= c /\ DRel P l n w1 wr)) (λ wr=>c - (intOf ((wr.cell? ⟨P,1,none⟩).getD undef)).toNat)
      case atStart=>exact Lib.hid ⟨_,Nat.le_refl _,HPl.out,H.out⟩
      case round=>
       obtain ⟨n,hn1,hn2,hn3⟩:=hrel.out
       obtain ⟨v1,k1,k2,k3⟩:=hn3
       have hcell:=DRel.cell ⟨v1,k1,k2,k3⟩ (show n <= 256 by omega)
       have hlen:=a6Q (l:=l) (show n <= 256 by omega)
       have HK:=Lib.hid (And.intro k1 (And.intro k2 k3))
       have HBs : Hid (P <= wr.heap.size):=Lib.hid (Nat.le_trans HPW.out k3.size)
       have HN:=Lib.hid (And.intro hn1 hn2)
       have HBt:=Lib.hid (b2c P P v1 _ wr k1)
       rw [hlen] at HBt
       have HLe : Hid (((dirB l).take n).length <= 900000):=Lib.hid (by omega)
       have HCell:=Lib.hid hcell
       clear k1 k2 k3 hn1 hlen hrel hcell
       go_wp2_with fail
       refine HBt.out.mono ?_
       rintro e w2 ⟨rfl,rfl⟩
       by_cases hnc : n < c
       · have hz2:=HZ0.out n HN.out.1 hnc
         have HZ2:=Lib.hid hz2
         clear hz2
         go_wp2_with fail
         refine (a2c P P v1 _ 0 1 wr HK.out.1 HBs.out HLe.out (by decide) (by decide)).mono ?_
         rintro e w3 ⟨rfl,hp⟩
         have HP3 : Hid (DRel P l (n + 1) w1 w3):=Lib.hid (by
          have:=PutRel.trans HK.out hp
          unfold DRel
          rw [HZ2.out,<- b4b]; exact this)
         clear hp
         go_wp2_with fail
         go_roundw
         case rel=>exact Lib.hid ⟨n + 1,by have:=HN.out.1; omega,by omega,HP3.out⟩
         case measure=>
          rw [HP3.out.cell (by omega),HCell.out]
          simp [intOf]; omega
       · obtain rfl : n = c:=by omega
         go_wp2_with fail
         refine (a2c P P v1 _ 1 1 wr HK.out.1 HBs.out HLe.out (by decide) (by decide)).mono ?_
         rintro e w3 ⟨rfl,hp⟩
         have HP3 : Hid (DRel P l (putN l i1) w1 w3):=Lib.hid (by
          have:=PutRel.trans HK.out hp
          unfold DRel
          rw [HZ1.out,<- b4c]; exact this)
         clear hp
         go_wp2_with fail
         go_roundw
         case rel=>exact ⟨i1,HI1.out.1,by first | (rw [HI1.out.2]; done) | (rw [HI1.out.2]; rfl) | (rw [HI1.out.2]; go_num),HP3.out⟩
         case measure=>first | (simp [intOf]; omega) | (simp [intOf]; done)
  · obtain rfl : i = l.length:=by omega
    have hB:=H.out.below HW0.out.1 (by have:=HP.out; omega)
    have hpn:=c3K HR.out.2.1 (Nat.le_refl l.length)
    obtain ⟨v1,k1,k2,k3⟩:=H.out
    have hE:=c3H HR.out.2.1
    obtain ⟨n,hn⟩ : ∃ n,n = putN l l.length:=⟨_,rfl⟩
    rw [<- hn] at k1 hE hpn
    have hlen:=a6Q (l:=l) hpn
    obtain ⟨bs,hbs⟩ : ∃ bs,bs = (dirB l).take n:=⟨_,rfl⟩
    rw [<- hbs] at k1 hE hlen
    have HK:=Lib.hid k1
    have HE:=Lib.hid hE
    have HB:=Lib.hid hB
    have hbl : (packB bs).length = (n + 7) / 8:=by rw [a0x,hlen]
    have HL:=Lib.hid (And.intro hlen hbl)
    obtain ⟨pb,hpb⟩ : ∃ pb,pb = packB bs:=⟨_,rfl⟩
    obtain ⟨q,hq⟩ : ∃ q,q = (n + 7) / 8:=⟨_,rfl⟩
    have hq32 : q <= 32:=by omega
    rw [<- hpb,<- hq] at HE
    have hpq : pb.length = q:=by rw [hpb,hq]; exact hbl
    have HPQ:=Lib.hid (And.intro hpb hpq)
    clear k1 k2 k3 hE hB hn hlen hbs hbl hpb hq hpq
    go_wp2_with fail
    refine (a6J P P v1 bs wr HK.out (by have:=HL.out.1; omega)).mono ?_
    rintro e w2 ⟨u2,rfl,hu2,hb2⟩
    rw [<- HPQ.out.1] at hu2
    obtain ⟨A2,c2,rfl⟩:=Kd.R_slice hu2
    rw [HPQ.out.2] at hu2 ⊢
    have HK2 : Hid (WrVal w2 P P v1 bs):=Lib.hid ⟨a0l HK.out.blk hb2,Kd.R_below HK.out.row hb2⟩
    have HU2:=Lib.hid hu2
    have HB2:=Lib.hid (a0g HB.out hb2)
    clear hu2 hb2
    go_wp2_with fail
    refine (a6J P P v1 bs w2 HK2.out (by have:=HL.out.1; omega)).mono ?_
    rintro e w3 ⟨u3,rfl,hu3,hb3⟩
    rw [<- HPQ.out.1] at hu3
    obtain ⟨A3,c3,rfl⟩:=Kd.R_slice hu3
    rw [HPQ.out.2] at hu3 ⊢
    have HU3 : Hid ((Kd.int .u8).R 5 w3 w.heap.size (λ _=>True) (.slice A2 q c2) pb):=Lib.hid (Kd.R_lower (Kd.R_below HU2.out hb3) HB.out.size)
    have HB3:=Lib.hid (a0g HB2.out hb3)
    have HS3:=Lib.hid HB3.out.size
    have HLn : Hid ((pb.length + ((32 : Int) - (q : Int)).toNat) * 1 <= 140737488355328):=Lib.hid (by have:=HPQ.out.2; omega)
    have hge : (0 : Int) <= 32 - (q : Int):=by omega
    have HGe:=Lib.hid hge
    clear hu3 hb3
    go_wp2_with (at_builtin; refine Kd.R_append_zeros (Kd.int .u8) (w0:=w) (W:=w3) w.heap.size rfl (.tmp 49) (.tmp 53) 22 3 5 (.int .u8 0) 1 rfl Tryz.underlying22 (k:=.i64) Tryz.underlying3 a1p rfl (by decide) (by decide) (.slice A2 q c2) pb (0 : Int) (kx:=.i64) (32 - (q : Int)) (λ _=>True) rfl rfl rfl (λ _ _=>trivial) HU3.out HGe.out HB3.out HS3.out HLn.out ?_; intro v4 w4 hr4 hb4 hg4 hat4; have HA4:=Lib.hid (And.intro hr4 hb4); clear hr4 hb4 hg4 hat4)
    go_ret2
    refine ⟨v4,rfl,?_,HA4.out.2⟩
    rw [HE.out]
    have h9:=HA4.out.1
    rw [show ((32 : Int) - (q : Int)).toNat = 32 - q by omega] at h9
    exact h9
theorem c3T : Tryz.zeroCells126 = madeCells #[.int .i64 0] 256:=by kernel_rfl
theorem a8M (n : Nat) (e : TypeId) (W : World) (ok : Nat -> Prop) (hok : ok W.heap.size) (base : Nat) (hb : base <= W.heap.size) (hn : n <= 1000000) : (Kd.int .i64).R e (W.alloc (.cells (madeCells #[.int .i64 0] n) e)) base ok (.slice (some ⟨W.heap.size,0,none⟩) n n) (List.replicate n 0):=by
 have hr:=Kd.reps_made (R:=(Kd.int .i64).M (W.alloc (.cells (madeCells #[.int .i64 0] n) e)) base (λ k=>ok k /\ some k ≠ (Value.slice (some ⟨W.heap.size,0,none⟩) n n).ownBlock)) (z:=.int .i64 0) (size:=1) (z0:=(0 : Int)) rfl Nat.one_pos rfl n
 have e' : (Value.int .i64 0).cells = #[.int .i64 0]:=rfl
 rw [e',Nat.mul_one] at hr
 refine ⟨λ k hk=>by cases hk; exact hok,_,⟨?_,.inr ⟨W.heap.size,n,madeCells #[.int .i64 0] n,by simp,hb,a0m W _,by simp,by unfold maxLen; omega,?_,?_⟩⟩,hr⟩
 · simp [size_madeCells]; exact (Nat.mul_one n).symm
 · rw [size_madeCells]; exact (Nat.mul_one n).symm
 · rw [List.length_replicate]; exact List.take_of_length_le (by simp [size_madeCells]; exact Nat.le_of_eq (Nat.mul_one n).symm)
theorem c3U : histL [] = List.replicate 256 0:=by
 unfold histL mapR
 rw [List.map_congr_left (g:=λ _=>(0 : Int)) (λ _ _=>by simp),List.map_const',List.length_range]
theorem c3V (b : List Int) (k : Nat) (hk : k < b.length) {y : Nat} (hy : b.getD k 0 = y) (h : y < 256) : histL (b.take (k + 1)) = (histL (b.take k)).set y ((histL (b.take k)).getD y 0 + 1):=by
 rw [List.take_succ_eq_append_getElem hk]
 have e : b[k] = (y : Int):=by rw [<- hy,List.getD_eq_getElem?_getD,List.getElem?_eq_getElem hk]; rfl
 rw [e,b3e _ h,a4U _ h]
def c3W (b : List Int) (w : World) (e : Ending) (w' : World) : Prop:=∃ v,e = .returned v /\ (Kd.int .i64).R 3 w' w.heap.size (λ _=>True) v (histL b) /\ Below w.heap.size w w'
set_option maxRecDepth 100000 in
set_option maxHeartbeats 1000000 in
theorem b4g (A : Option Addr) (cp : Nat) (b : List Int) (w : World) (hr : (Kd.int .u8).C w A b.length b) (hl : b.length <= 1000000) (hb : ∀ x ∈ b,0 <= x /\ x < 256) :
    Calls Tryz.prog 54 #[.slice A b.length cp] w (c3W b w):=by
 have HR:=Lib.hid (And.intro hr (And.intro hl hb))
 have HI : Hid ((Kd.int .i64).R 126 (w.alloc (.cells Tryz.zeroCells126 126)) w.heap.size (λ _=>True) (.slice (some ⟨w.heap.size,0,none⟩) 256 256) (histL (b.take 0)) /\ Below w.heap.size w (w.alloc (.cells Tryz.zeroCells126 126))):=by
  rw [c3T,List.take_zero,c3U]
  exact ⟨a8M 256 _ w _ trivial _ (Nat.le_refl _) (by omega),(Below.refl _ _).alloc (Nat.le_refl _) _⟩
 clear hr hb
 go_enter Tryz.func54,Tryz.ntmps54
 go_wp2_with fail
 go_loopw [8] (λ kv wr=>∃ (k : Nat),kv = .int .i64 k /\ k <= b.length /\ Hid ((Kd.int .i64).R 126 wr w.heap.size (λ _=>True) (.slice (some ⟨w.heap.size,0,none⟩) 256 256) (histL (b.take k)) /\ Below w.heap.size w wr)) (λ kv _=>b.length - (intOf kv).toNat)
 case atStart=>exact ⟨0,rfl,by omega,HI⟩
 case round=>
  obtain ⟨k,rfl,hk,H⟩:=hrel
  by_cases hlt : k < b.length
  · obtain ⟨ad,rfl,hcell⟩:=a0C HR.out.1 k hlt
    have hcw:=a0t H.out.2 hcell
    obtain ⟨x,hx⟩ : ∃ x : Nat,b.getD k 0 = x:=by
     have : 0 <= b.getD k 0:=(HR.out.2.2 _ (a2a hlt)).1
     exact ⟨(b.getD k 0).toNat,by omega⟩
    have hx2 : x < 256:=by have:=(HR.out.2.2 _ (a2a hlt)).2; omega
    rw [hx] at hcw
    obtain ⟨hc3,hf3⟩:=a1w H.out.1 x hx2
    obtain ⟨y,hy⟩ : ∃ y,y = (histL (b.take k)).getD x 0:=⟨_,rfl⟩
    have hyr : 0 <= y /\ y <= 1000000:=by
     rw [hy,a4U _ hx2]
     have:=List.count_le_length (a:=(x : Int)) (l:=b.take k)
     rw [List.length_take] at this
     omega
    obtain ⟨hy0,hy1⟩:=hyr
    rw [<- hy] at hc3
    have HY:=Lib.hid (And.intro hy hx)
    have hx256 : (x : Int) < 256:=by omega
    clear hy hx hcell
    go_wp2_with fail
    go_roundw
    case rel=>
     refine ⟨k + 1,by go_num,by omega,?_,H.out.2.setCell (Nat.le_refl _) _⟩
     rw [c3V b k hlt HY.out.2 hx2,<- HY.out.1]
     have:=Kd.R_putn H.out.1 (x : Int) (y + 1)
     rw [Int.toNat_natCast] at this
     exact this
    case measure=>simp [intOf]; omega
  · obtain rfl : k = b.length:=by omega
    rw [List.take_length] at H
    have hrd:=Kd.R_reads' H.out.1
    have hcl : (histL b).length = 256:=a1s _
    have HE:=Lib.hid (a5U .i64 3 wr w.heap.size (λ _=>True) H.out.2.size trivial)
    have HC : Hid ((Kd.int .i64).C (wr.alloc (.cells #[] 3)) (some ⟨w.heap.size,0,none⟩) 256 (histL b)):=by
     have:=Kd.C_alloc hrd.2.2 (.cells #[] 3)
     rw [hcl] at this; exact this
    have HL : Hid ((([] : List Int).length + (histL b).length) * 8 <= 140737488355328):=by show _ <= _; rw [hcl]; decide
    have HB:=Lib.hid (H.out.2.alloc H.out.2.size (.cells #[] 3))
    have HS : Hid (w.heap.size <= (wr.alloc (.cells #[] 3)).heap.size):=by show _ <= _; have:=H.out.2.size; simp; omega
    clear hrd hcl hlt
    go_wp2_with (at_builtin; refine Kd.R_append_rows (Kd.int .i64) (Rr:=(Kd.int .i64).K (wr.alloc (.cells #[] 3))) (w0:=w) (W:=wr.alloc (.cells #[] 3)) w.heap.size rfl (.tmp 18) (.tmp 19) 47 3 (.int .i64 0) 8 rfl Tryz.underlying47 a4d rfl (by decide) (by decide) (.slice (some ⟨wr.heap.size,0,none⟩) 0 0) [] (histL b) (some ⟨w.heap.size,0,none⟩) 256 256 (λ _=>True) (λ _=>False) rfl rfl HE.out HC.out (λ _ _ h=>h) (λ _ h=>h.elim) (λ _ _=>trivial) HB.out HS.out HL.out ?_; intro vi w2 hr2 hb2 hg2 hat2; have HR2:=Lib.hid hr2; have HB2:=Lib.hid hb2; clear hr2 hb2 hg2 hat2)
    go_ret
    rw [List.nil_append] at HR2
    exact ⟨_,rfl,HR2.out,HB2.out⟩
def panE (n : Int) : Ending:=.panicked [{ v:=.iface 24 (.int .i64 n),recovered:=false }]
set_option maxRecDepth 100000 in
theorem a4s (w : World) : Calls Tryz.prog 131 #[.bool false] w λ e w'=>e = .returned (.tuple #[]) /\ w = w':=by
 go_enter Tryz.func131,Tryz.ntmps131
 go_wp2_with fail
 go_end0
 exact ⟨rfl,rfl⟩
set_option maxRecDepth 100000 in
theorem a8N (w : World) : Calls Tryz.prog 131 #[.bool true] w λ e w'=>e = panE 13 /\ w = w':=by
 go_enter Tryz.func131,Tryz.ntmps131
 go_wp2_with fail
 first | exact ⟨rfl,rfl⟩ | (simp [bodyPost,panE])
set_option maxRecDepth 100000 in
theorem a4t (n : Int) (w : World) : Calls Tryz.prog 132 #[.int .i64 n,.int .i64 0] w λ e w'=>e = .returned (.int .i64 n) /\ w = w':=by
 go_enter Tryz.func132,Tryz.ntmps132
 go_wp2_with fail
 go_ret
 exact ⟨rfl,rfl⟩
set_option maxRecDepth 100000 in
theorem a8O (n e : Int) (w : World) (h : ¬ e = 0) : Calls Tryz.prog 132 #[.int .i64 n,.int .i64 e] w λ en w'=>en = panE e /\ w = w':=by
 have hb : (e == 0) = false:=beq_eq_false_iff_ne.2 h
 have hn : (e != 0) = true:=by simp [h]
 go_enter Tryz.func132,Tryz.ntmps132
 go_wp2_with fail
 first | exact ⟨rfl,rfl⟩ | (simp [bodyPost,panE])
theorem c3X {ps : List Int} {T : Nat} : ∀ (f at_ n most : Nat),(runT ps T f at_ n most).1 = 0 -> (runT ps T f at_ n most).2.1 <= most:=by
 intro f
 induction f with
 | zero=>intro _ _ _ h; simp [runT] at h
 | succ f ih=>
  intro at_ n most
  simp only [runT]
  by_cases h1 : T < at_ + 2
  · rw [if_pos h1]; intro h; cases h
  · rw [if_neg h1]
    by_cases h2 : most < n + takeF ps at_ 2
    · rw [if_pos h2]; intro h; cases h
    · rw [if_neg h2]
      by_cases h3 : takeF ps at_ 2 = 3
      · rw [if_pos h3]; exact ih _ _ _
      · rw [if_neg h3]; intro _; simp only []; omega
structure HcRel (base p g : Nat) (ps : List Int) (H : Int × List Int × Nat) (w : World) (left s : Nat) (again : Bool) (q : List Int) (at_ d : Nat) (wr : World) : Prop where
 rd : RfAt wr base p ps at_
 row : (Kd.int .i64).R 3 wr w.heap.size (λ _=>True) (.slice (some ⟨g,0,none⟩) 256 256) q
 ql : q.length = 256
 at_le : at_ <= 8 * ps.length
 eq : hdrT ps (8 * ps.length) d q s left again at_ = H
 fuel : 257 <= s + d
 only : Only (λ k=>k = p) w wr
 gt : p < g /\ w.heap.size <= g
def c3Y (base p : Nat) (ps : List Int) (H : Int × List Int × Nat) (w : World) (e : Ending) (w' : World) : Prop:=
 (H.1 = 0 -> ∃ g,e = .returned (.slice (some ⟨g,0,none⟩) 256 256) /\ (Kd.int .i64).R 3 w' w.heap.size (λ _=>True) (.slice (some ⟨g,0,none⟩) 256 256) H.2.1 /\ H.2.1.length = 256 /\ RfAt w' base p ps H.2.2) /\
 (H.1 ≠ 0 -> e = panE H.1) /\ Only (λ k=>k = p) w w'
theorem HcRel.put {base p g : Nat} {ps : List Int} {H : Int × List Int × Nat} {w wr w1 : World} {left s : Nat} {again : Bool} {q : List Int} {at_ d : Nat} (h : HcRel base p g ps H w left s again q at_ d wr) {at2 : Nat} (hr : RfAt w1 base p ps at2) (ho : Only (λ k=>k = p) wr w1) (x : Int) :
    RfAt (w1.setCell ⟨g,s,none⟩ (.int .i64 x)) base p ps at2 /\ (Kd.int .i64).R 3 (w1.setCell ⟨g,s,none⟩ (.int .i64 x)) w.heap.size (λ _=>True) (.slice (some ⟨g,0,none⟩) 256 256) (q.set s x) /\ Only (λ k=>k = p) w (w1.setCell ⟨g,s,none⟩ (.int .i64 x)) /\
     (Kd.int .i64).R 3 w1 w.heap.size (λ _=>True) (.slice (some ⟨g,0,none⟩) 256 256) q:=by
 have hgp:=h.gt
 have h1 : (Kd.int .i64).R 3 w1 w.heap.size (λ _=>True) (.slice (some ⟨g,0,none⟩) 256 256) q:=a2Q rfl h.row ho (λ k hk e=>by
  have : g = k:=by simpa [Value.ownBlock] using hk
  omega)
 have h2:=Kd.R_putn h1 (s : Int) x
 rw [Int.toNat_natCast] at h2
 refine ⟨hr.far hgp.1 s _,h2,?_,h1⟩
 have h3:=h.only.trans ho
 exact ⟨h3.os,h3.tape,h3.output,by simp; exact h3.size,λ k hk hs=>by rw [Below.heap_setCell _ _ _ _ (by show k ≠ g; omega)]; exact h3.block k hk hs⟩
end Go.Proofs.YtipjlneepponpaaGreat
