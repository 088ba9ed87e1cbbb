/- Plain: what the printed references of counts answer (right, total, log). -/
import Derived.Test.YtfnobinenolhhaaWLast
import Derived.Test.YtfnobinenolhhaaWAt
import Derived.Test.YtfnobinenolhhaaWGuard
import Derived.Test.YtfnobinenolhhaaWEqStruct
import Derived.Test.YtfnobinenolhhaaR2
import Derived.Test.YtfnobinenolhhaaWRepsOne
import Derived.Test.YtfnobinenolhhaaWInv
import Derived.Test.YtfnobinenolhhaaWApart
import Derived.Test.YtfnobinenolhhaaWZeros
import Derived.Test.YtfnobinenolhhaaWMore
import Derived.Test.YtfnobinenolhhaaWInvWords
import Derived.Test.YtfnobinenolhhaaR1
import Derived.Test.YtfnobinenolhhaaWNEv
import Derived.Test.YtfnobinenolhhaaM1
import Derived.Test.YtfnobinenolhhaaWKept
import Derived.Test.YtfnobinenolhhaaWFoot
import Derived.Test.YtfnobinenolhhaaWShare
import Derived.Test.YtfnobinenolhhaaWTab
import Derived.Test.YtfnobinenolhhaaWWords
import Derived.Test.YtfnobinenolhhaaWN
import Derived.Test.YtfnobinenolhhaaWFour
import Derived.Test.YtfnobinenolhhaaWQPut
import Derived.Test.YtfnobinenolhhaaWArr
import Derived.Test.YtfnobinenolhhaaWFootNe
import Derived.Test.YtfnobinenolhhaaM2
import Derived.Test.YtfnobinenolhhaaM0
import Derived.Deep.LoopGhost
import Derived.Laws.Rows
import Derived.Deep.DeepCutAuto
import Derived.Deep.RegionHeld3
namespace Go.Proofs.Ytfnobinenolhhaa
open Go.RowKit Go.Proofs.Ytfnobinenolhhaa.PRef Go.Proofs.YtfnobinenolhhaaW.PrintWords Go.Proofs.YtfnobinenolhhaaW.PrintLast Go.Proofs.YtfnobinenolhhaaW.PrintMore
theorem rd_nat (xs : List Int) (i : Nat) : rd xs (i : Int) = xs.getD i 0 := rfl
theorem wS (i : Nat) (h : i ≤ 1000000000) : wrap64 ((i : Int) + 1) = ((i + 1 : Nat) : Int) := by rw [w64 (by omega)]; simp
theorem take_snoc_mem {c : List Int} {i : Nat} (h : i < c.length) {P : Int → Prop} (h1 : ∀ x ∈ c.take i, P x) (h2 : P (c.getD i 0)) : ∀ x ∈ c.take (i + 1), P x := by
  intro x hx
  rw [List.take_succ_eq_append_getElem h] at hx
  rcases List.mem_append.1 hx with hx | hx
  · exact h1 x hx
  · rw [List.mem_singleton.1 hx]
    rw [List.getD_eq_getElem?_getD, List.getElem?_eq_getElem h] at h2; exact h2
theorem getD_mem {c : List Int} {i : Nat} (h : i < c.length) : c.getD i 0 ∈ c := by
  rw [List.getD_eq_getElem?_getD, List.getElem?_eq_getElem h]; exact List.getElem_mem h
theorem refRight_loop (c : List Int) (hl : c.length = 256) : ∀ (d i : Nat) (s : Int), i + d = 256 → i ≤ 256 → s = (c.take i).sum → (∀ x ∈ c.take i, 0 ≤ x ∧ x ≤ 1073741824) → 0 ≤ s → s ≤ i * 1073741824 →
    Ev (fun k => puncheonref05_Right.l0 k c s (i : Int)) (rightC c) := by
  intro d
  induction d with
  | zero =>
    intro i s hd hi hs ha h0 h1
    refine Ev.step (fun k => (show puncheonref05_Right.l0 (k + 1) c s (i : Int) = _ by simp only [puncheonref05_Right.l0]; rw [if_neg (by omega)])) ?_
    rw [List.take_of_length_le (by omega)] at hs ha
    have e : rightC c = decide (s ≤ 1073741824) := by
      unfold rightC; rw [hs]; exact decide_eq_decide.2 ⟨fun h => h.2.2, fun h => ⟨hl, fun x hx => (ha x hx).1, h⟩⟩
    rw [e]; exact Ev.now _
  | succ d ih =>
    intro i s hd hi hs ha h0 h1
    have hlt : i < c.length := by omega
    have hts := take_sum hlt
    by_cases hn : c.getD i 0 < 0
    · refine Ev.step (fun k => (show puncheonref05_Right.l0 (k + 1) c s (i : Int) = _ by simp only [puncheonref05_Right.l0]; rw [if_pos (by omega), if_pos (by omega), if_pos (by omega), rd_nat, if_pos hn])) ?_
      have e : rightC c = false := by
        rw [← Bool.not_eq_true, rightC_iff]; intro h
        have := h.2.1 _ (getD_mem hlt); omega
      rw [e]; exact Ev.now _
    · by_cases hb : c.getD i 0 > 1073741824
      · refine Ev.step (fun k => (show puncheonref05_Right.l0 (k + 1) c s (i : Int) = _ by simp only [puncheonref05_Right.l0]; rw [if_pos (by omega), if_pos (by omega), if_pos (by omega), rd_nat, if_neg hn, if_pos hb])) ?_
        have e : rightC c = false := by
          rw [← Bool.not_eq_true, rightC_iff]; intro h
          have := le_sum h.2.1 (getD_mem hlt); omega
        rw [e]; exact Ev.now _
      · refine Ev.step (fun k => (show puncheonref05_Right.l0 (k + 1) c s (i : Int) = _ by simp only [puncheonref05_Right.l0]; rw [if_pos (by omega), if_pos (by omega), if_pos (by omega), rd_nat, if_neg hn, if_neg hb, wS i (by omega), w64 (n := s + c.getD i 0) (by omega)])) ?_
        exact ih (i + 1) _ (by omega) (by omega) (by rw [hts, hs]) (take_snoc_mem hlt ha (by omega)) (by omega) (by omega)
theorem refRight_eq (c : List Int) : Ev (fun k => puncheonref05_Right.f k c) (rightC c) := by
  by_cases hl : c.length = 256
  · refine Ev.congr (fun k => (show puncheonref05_Right.f k c = _ by unfold puncheonref05_Right.f; rw [if_pos (by omega)])) ?_
    exact refRight_loop c hl 256 0 0 (by omega) (by omega) (by simp) (by simp) (by omega) (by omega)
  · refine Ev.congr (fun k => (show puncheonref05_Right.f k c = _ by unfold puncheonref05_Right.f; rw [if_neg (by omega)])) ?_
    have e : rightC c = false := by rw [← Bool.not_eq_true, rightC_iff]; exact fun h => hl h.1
    rw [e]; exact Ev.now _
theorem refTotal_loop (c : List Int) (hr : rightC c = true) : ∀ (d i : Nat) (s : Int), c.length - i = d → i ≤ c.length → s = (c.take i).sum → Ev (fun k => puncheonref05_Total.l0 k c s true (i : Int)) c.sum
  | 0, i, s, hd, hi, hs => by
    refine Ev.step (fun k => (show puncheonref05_Total.l0 (k + 1) c s true (i : Int) = _ by simp only [puncheonref05_Total.l0]; rw [if_neg (by omega)])) ?_
    rw [List.take_of_length_le (by omega)] at hs
    rw [← hs]; exact Ev.now _
  | d + 1, i, s, hd, hi, hs => by
    have hlt : i < c.length := by omega
    have hts := take_sum hlt
    have hR := rightC_iff.1 hr
    have h1 := take_sum_le hR.2.1 (i + 1)
    have h2 : 0 ≤ (c.take (i + 1)).sum := sum_nonneg (fun x hx => hR.2.1 x (List.mem_of_mem_take hx))
    refine Ev.step (fun k => (show puncheonref05_Total.l0 (k + 1) c s true (i : Int) = _ by simp only [puncheonref05_Total.l0]; rw [if_pos (by omega), if_pos trivial, if_pos (by omega), rd_nat, wS i (by omega), w64 (n := s + c.getD i 0) (by omega)])) ?_
    exact refTotal_loop c hr d (i + 1) _ (by omega) (by omega) (by rw [hts, hs])
theorem refTotal_eq (c : List Int) : Ev (fun k => puncheonref05_Total.f k c) (totalC c) := by
  unfold puncheonref05_Total.f
  refine Ev.bind (refRight_eq c) ?_
  unfold totalC
  cases hr : rightC c with
  | true => rw [if_pos rfl]; exact refTotal_loop c hr _ 0 0 rfl (by omega) (by simp)
  | false =>
    rw [if_neg (by decide)]
    refine Ev.step (fun k => (show puncheonref05_Total.l0 (k + 1) c 0 false 0 = some 0 by simp only [puncheonref05_Total.l0]; split <;> simp)) (Ev.now _)
theorem refPower_loop (r : Nat) (hr : r ≤ 30) : ∀ (d i : Nat), r - i = d → i ≤ r → Ev (fun k => puncheonref08_power.l0 k (r : Int) ((2 ^ i : Nat) : Int) (i : Int)) ((2 ^ r : Nat) : Int)
  | 0, i, hd, hi => by
    obtain rfl : i = r := by omega
    exact Ev.step (fun k => (show puncheonref08_power.l0 (k + 1) (i : Int) _ (i : Int) = _ by simp only [puncheonref08_power.l0]; rw [if_neg (by omega)])) (Ev.now _)
  | d + 1, i, hd, hi => by
    have hp : 2 ^ (i + 1) ≤ 2 ^ 30 := Nat.pow_le_pow_right (by omega) (by omega)
    have e : (2 : Int) * ((2 ^ i : Nat) : Int) = ((2 ^ (i + 1) : Nat) : Int) := by rw [Nat.pow_succ]; omega
    have e2 : wrap64 ((2 ^ (i + 1) : Nat) : Int) = ((2 ^ (i + 1) : Nat) : Int) := by
      generalize 2 ^ (i + 1) = P at hp ⊢
      exact w64 (by omega)
    refine Ev.step (fun k => (show puncheonref08_power.l0 (k + 1) (r : Int) _ (i : Int) = _ by simp only [puncheonref08_power.l0]; rw [if_pos (by omega), wS i (by omega), e, e2])) ?_
    exact refPower_loop r hr d (i + 1) (by omega) (by omega)
theorem refPower_eq (r : Nat) (hr : r ≤ 30) : Ev (fun k => puncheonref08_power.f k (r : Int)) ((2 ^ r : Nat) : Int) := by
  unfold puncheonref08_power.f; exact refPower_loop r hr r 0 (by omega) (by omega)
theorem refLog_loop (t : Int) : ∀ (d i : Nat), i + d = 13 → 1 ≤ i → i ≤ 13 → (∀ r, 1 ≤ r → r < i → t ≠ 2 ^ r) → Ev (fun k => puncheonref08_Log.l0 k t (i : Int)) ((logT t : Nat) : Int)
  | 0, i, hd, h1, hi, hn => by
    obtain rfl : i = 13 := by omega
    rw [logT_none (fun r a b => hn r a (by omega))]
    exact Ev.step (fun k => (show puncheonref08_Log.l0 (k + 1) t ((13 : Nat) : Int) = _ by simp only [puncheonref08_Log.l0]; rw [if_neg (by decide)]; rfl)) (Ev.now _)
  | d + 1, i, hd, h1, hi, hn => by
    refine Ev.step (fun k => (show puncheonref08_Log.l0 (k + 1) t (i : Int) = _ by simp only [puncheonref08_Log.l0]; rw [if_pos (by omega)])) ?_
    refine Ev.bind (refPower_eq i (by omega)) ?_
    have e : ((2 ^ i : Nat) : Int) = 2 ^ i := by simp
    by_cases ht : t = 2 ^ i
    · refine Ev.congr (fun k => if_pos (by rw [e]; exact ht)) ?_
      rw [logT_found h1 (by omega) ht]; exact Ev.now _
    · refine Ev.congr (fun k => (if_neg (by rw [e]; exact ht)).trans (by rw [wS i (by omega)])) ?_
      refine refLog_loop t d (i + 1) (by omega) (by omega) (by omega) (fun r a b => ?_)
      by_cases hri : r = i
      · rw [hri]; exact ht
      · exact hn r a (by omega)
theorem refLog_eq (c : List Int) : Ev (fun k => puncheonref08_Log.f k c) ((logC c : Nat) : Int) := by
  unfold puncheonref08_Log.f
  exact Ev.bind (refTotal_eq c) (refLog_loop _ 12 1 (by omega) (by omega) (by omega) (fun r a b => by omega))
end Go.Proofs.Ytfnobinenolhhaa
namespace Go.Proofs.Ytfnobinenolhhaa
open Go.RowKit Go.Proofs.Ytfnobinenolhhaa.PRef Go.Proofs.YtfnobinenolhhaaW.PrintWords Go.Proofs.YtfnobinenolhhaaW.PrintLast Go.Proofs.YtfnobinenolhhaaW.PrintMore
/-- 256 numbers, told by a function -/
def mapR (f : Nat → Int) : List Int := (List.range 256).map f
theorem mapR_len (f : Nat → Int) : (mapR f).length = 256 := by simp [mapR]
theorem mapR_get (f : Nat → Int) {v : Nat} (h : v < 256) : (mapR f).getD v 0 = f v := by
  unfold mapR; rw [List.getD_eq_getElem?_getD, List.getElem?_map, List.getElem?_range h]; rfl
theorem mapR_congr {f g : Nat → Int} (h : ∀ v, v < 256 → f v = g v) : mapR f = mapR g := by
  unfold mapR; exact List.map_congr_left (fun v hv => h v (List.mem_range.1 hv))
theorem mapR_set (f : Nat → Int) {v : Nat} (_ : v < 256) (y : Int) : (mapR f).set v y = mapR (fun u => if u = v then y else f u) := by
  apply List.ext_getElem
  · simp [mapR]
  · intro i h1 h2
    rw [List.getElem_set]
    simp only [mapR, List.getElem_map, List.getElem_range]
    by_cases e : v = i
    · rw [if_pos e, if_pos e.symm]
    · rw [if_neg e, if_neg (fun x => e x.symm)]
theorem mapR_mem {f : Nat → Int} {x : Int} (h : x ∈ mapR f) : ∃ v, v < 256 ∧ x = f v := by
  unfold mapR at h
  obtain ⟨v, hv, rfl⟩ := List.mem_map.1 h
  exact ⟨v, List.mem_range.1 hv, rfl⟩
/-- how often each byte comes -/
def histL (b : List Int) : List Int := mapR (fun v => (b.count (v : Int) : Int))
theorem count_take_succ (b : List Int) (i : Nat) (h : i < b.length) (v : Int) : (b.take (i + 1)).count v = (b.take i).count v + (if b.getD i 0 = v then 1 else 0) := by
  rw [List.take_succ_eq_append_getElem h, List.count_append, List.getD_eq_getElem?_getD, List.getElem?_eq_getElem h, Option.getD_some, List.count_singleton]
  congr 1
  by_cases e : b[i] = v
  · simp [e]
  · simp [e]
def ofAt (b : List Int) (v i : Nat) : List Int := mapR (fun u => if u < v then (b.count (u : Int) : Int) else if u = v then ((b.take i).count (v : Int) : Int) else 0)
theorem refOf_in (b : List Int) (hb : Bytes b) (hl : b.length ≤ 1000000) (v : Nat) (hv : v < 256) (R : List Int) (hn : Ev (fun k => puncheonref05_Of.l0 k b (ofAt b (v + 1) 0) ((v + 1 : Nat) : Int)) R) : ∀ (d i : Nat), i + d = b.length → Ev (fun k => puncheonref05_Of.l1 k b (ofAt b v i) (v : Int) (i : Int)) R := by
  intro d
  induction d with
  | zero =>
    intro i hi
    obtain rfl : i = b.length := by omega
    refine Ev.step (fun k => (show puncheonref05_Of.l1 (k + 1) b _ (v : Int) (b.length : Int) = _ by simp only [puncheonref05_Of.l1]; rw [if_neg (by omega), wS v (by omega)])) ?_
    have e : ofAt b v b.length = ofAt b (v + 1) 0 := by
      unfold ofAt
      refine mapR_congr (fun u _ => ?_)
      rw [List.take_length]
      by_cases h1 : u < v
      · rw [if_pos h1, if_pos (by omega)]
      · by_cases h2 : u = v
        · rw [if_neg h1, if_pos h2, if_pos (by omega), h2]
        · rw [if_neg h1, if_neg h2, if_neg (by omega)]; split <;> simp
    rw [e]; exact hn
  | succ d ih =>
    intro i hi
    have hlt : i < b.length := by omega
    have hg := hb.get i
    have hw : wrap64 (b.getD i 0) = b.getD i 0 := w64 (by omega)
    by_cases e : b.getD i 0 = v
    · have hc : (b.take i).count (v : Int) ≤ 1000000 := by
        have := List.count_le_length (a := (v : Int)) (l := b.take i); rw [List.length_take] at this; omega
      have hget : rd (ofAt b v i) (v : Int) = ((b.take i).count (v : Int) : Int) := by
        rw [rd_nat]; unfold ofAt; rw [mapR_get _ hv, if_neg (by omega), if_pos rfl]
      refine Ev.step (fun k => (show puncheonref05_Of.l1 (k + 1) b _ (v : Int) (i : Int) = _ by simp only [puncheonref05_Of.l1]; rw [if_pos (by omega), if_pos (by omega), rd_nat, hw, if_pos e, if_pos (by omega), if_pos (by unfold ofAt; rw [mapR_len]; omega), hget, wS i (by omega), w64 (n := ((b.take i).count (v : Int) : Int) + 1) (by omega), Int.toNat_natCast])) ?_
      have e2 : (ofAt b v i).set v (((b.take i).count (v : Int) : Int) + 1) = ofAt b v (i + 1) := by
        unfold ofAt
        rw [mapR_set _ hv]
        refine mapR_congr (fun u _ => ?_)
        by_cases h2 : u = v
        · subst h2
          rw [if_pos rfl, if_neg (by omega), if_pos rfl, count_take_succ b i hlt, if_pos e]; simp
        · rw [if_neg h2]
          split
          · rfl
          · first | rfl | rw [if_neg h2, if_neg h2]
      rw [e2]; exact ih (i + 1) (by omega)
    · refine Ev.step (fun k => (show puncheonref05_Of.l1 (k + 1) b _ (v : Int) (i : Int) = _ by simp only [puncheonref05_Of.l1]; rw [if_pos (by omega), if_pos (by omega), rd_nat, hw, if_neg e, wS i (by omega)])) ?_
      have e2 : ofAt b v i = ofAt b v (i + 1) := by
        unfold ofAt
        refine mapR_congr (fun u _ => ?_)
        rw [count_take_succ b i hlt, if_neg e]; rfl
      rw [e2]; exact ih (i + 1) (by omega)
theorem refOf_out (b : List Int) (hb : Bytes b) (hl : b.length ≤ 1000000) : ∀ (d v : Nat), v + d = 256 → Ev (fun k => puncheonref05_Of.l0 k b (ofAt b v 0) (v : Int)) (histL b) := by
  intro d
  induction d with
  | zero =>
    intro v hv
    refine Ev.step (fun k => (show puncheonref05_Of.l0 (k + 1) b _ (v : Int) = _ by simp only [puncheonref05_Of.l0]; rw [if_neg (by omega)])) ?_
    have e : ofAt b v 0 = histL b := by
      unfold ofAt histL
      exact mapR_congr (fun u hu => by rw [if_pos (by omega)])
    rw [e]; exact Ev.now _
  | succ d ih =>
    intro v hv
    refine Ev.step (fun k => (show puncheonref05_Of.l0 (k + 1) b _ (v : Int) = _ by simp only [puncheonref05_Of.l0]; rw [if_pos (by omega)])) ?_
    exact refOf_in b hb hl v (by omega) _ (ih (v + 1) (by omega)) b.length 0 (by omega)
theorem refOf_eq (b : List Int) (hb : Bytes b) (hl : b.length ≤ 1000000) : Ev (fun k => puncheonref05_Of.f k b) (histL b) := by
  refine Ev.congr (fun k => (show puncheonref05_Of.f k b = _ by unfold puncheonref05_Of.f; rw [if_pos (by decide)])) ?_
  have e : List.replicate 256 (0 : Int) = ofAt b 0 0 := by
    unfold ofAt mapR
    rw [← List.length_range (n := 256), ← List.map_const', List.length_range]
    exact List.map_congr_left (fun u _ => by rw [if_neg (by omega)]; split <;> simp)
  rw [e]; exact refOf_out b hb hl 256 0 (by omega)
/-- how many are above 0 -/
def posC (c : List Int) (k : Nat) : Nat := (c.take k).countP (fun x => decide (0 < x))
def manyC (c : List Int) : Nat := if rightC c then c.countP (fun x => decide (0 < x)) else 0
theorem posC_succ (c : List Int) (i : Nat) (h : i < c.length) : posC c (i + 1) = posC c i + (if 0 < c.getD i 0 then 1 else 0) := by
  unfold posC
  rw [List.take_succ_eq_append_getElem h, List.countP_append, List.getD_eq_getElem?_getD, List.getElem?_eq_getElem h, Option.getD_some]
  congr 1
  by_cases e : 0 < c[i] <;> simp [e]
theorem posC_le (c : List Int) (i : Nat) : posC c i ≤ i := by
  unfold posC; have := List.countP_le_length (p := fun x => decide (0 < x)) (l := c.take i); rw [List.length_take] at this; omega
theorem refMany_loop (c : List Int) (hl : c.length ≤ 1000000) : ∀ (d i : Nat), i + d = c.length → Ev (fun k => puncheonref05_Many.l0 k c (posC c i : Int) true (i : Int)) ((c.countP (fun x => decide (0 < x)) : Nat) : Int) := by
  intro d
  induction d with
  | zero =>
    intro i hi
    refine Ev.step (fun k => (show puncheonref05_Many.l0 (k + 1) c _ true (i : Int) = _ by simp only [puncheonref05_Many.l0]; rw [if_neg (by omega)])) ?_
    refine Ev.step (fun k => (show puncheonref05_Many.j1 (k + 1) c _ true (i : Int) false = _ by simp only [puncheonref05_Many.j1]; rw [if_neg (by decide)])) ?_
    have e : posC c i = c.countP (fun x => decide (0 < x)) := by unfold posC; rw [List.take_of_length_le (by omega)]
    rw [e]; exact Ev.now _
  | succ d ih =>
    intro i hi
    have hlt : i < c.length := by omega
    have hs := posC_succ c i hlt
    have hle := posC_le c i
    refine Ev.step (fun k => (show puncheonref05_Many.l0 (k + 1) c _ true (i : Int) = _ by simp only [puncheonref05_Many.l0]; rw [if_pos (by omega)])) ?_
    by_cases e : c.getD i 0 > 0
    · refine Ev.step (fun k => (show puncheonref05_Many.j1 (k + 1) c _ true (i : Int) true = _ by simp only [puncheonref05_Many.j1]; rw [if_pos trivial, if_pos (by omega), if_pos (by omega), rd_nat, if_pos e, wS i (by omega), wS (posC c i) (by omega)])) ?_
      rw [if_pos (by omega)] at hs
      rw [← hs]; exact ih (i + 1) (by omega)
    · refine Ev.step (fun k => (show puncheonref05_Many.j1 (k + 1) c _ true (i : Int) true = _ by simp only [puncheonref05_Many.j1]; rw [if_pos trivial, if_pos (by omega), if_pos (by omega), rd_nat, if_neg e, wS i (by omega)])) ?_
      rw [if_neg (by omega)] at hs
      have := ih (i + 1) (by omega)
      rw [hs] at this; exact this
theorem refMany_eq (c : List Int) (hl : c.length ≤ 1000000) : Ev (fun k => puncheonref05_Many.f k c) ((manyC c : Nat) : Int) := by
  unfold puncheonref05_Many.f
  refine Ev.bind (refRight_eq c) ?_
  unfold manyC
  cases hr : rightC c with
  | true => rw [if_pos rfl]; exact refMany_loop c hl c.length 0 (by omega)
  | false =>
    rw [if_neg (by decide)]
    by_cases h : (0 : Int) < (c.length : Int)
    · refine Ev.step (fun k => (show puncheonref05_Many.l0 (k + 1) c 0 false 0 = _ by simp only [puncheonref05_Many.l0]; rw [if_pos h])) ?_
      exact Ev.step (fun k => (show puncheonref05_Many.j1 (k + 1) c 0 false 0 false = some 0 by simp [puncheonref05_Many.j1])) (Ev.now _)
    · refine Ev.step (fun k => (show puncheonref05_Many.l0 (k + 1) c 0 false 0 = _ by simp only [puncheonref05_Many.l0]; rw [if_neg h])) ?_
      exact Ev.step (fun k => (show puncheonref05_Many.j1 (k + 1) c 0 false 0 false = some 0 by simp [puncheonref05_Many.j1])) (Ev.now _)
theorem refAt_eq (b : List Int) (hb : Bytes b) (hl : b.length ≤ 1000000) (i : Int) : puncheonref06_At.f b i = some (ctxI b i) := by
  unfold puncheonref06_At.f ctxI
  by_cases h1 : i < 0
  · rw [if_pos h1, if_pos (.inl h1)]
  · by_cases h2 : i ≥ (b.length : Int)
    · rw [if_neg h1, if_pos h2, if_pos (.inr h2)]
    · rw [if_neg h1, if_neg h2, if_neg (by omega)]
      simp only [Option.bind_some]
      rw [if_pos (by simp; omega), if_pos (by omega), if_pos (by simp; omega)]
      have hw : ∀ x : Int, 0 ≤ x ∧ x < 256 → wrap64 x = x := fun x hx => w64 (by omega)
      by_cases h3 : i = 0
      · subst h3; rw [if_pos rfl]; exact congrArg some (hw 0 (by decide))
      · rw [if_neg h3]
        have e : rd ([0] ++ b) i = b.getD (i - 1).toNat 0 := by
          unfold rd
          rw [show i.toNat = (i - 1).toNat + 1 by omega]; rfl
        rw [e, hw _ (hb.get _)]
end Go.Proofs.Ytfnobinenolhhaa
namespace Go.Proofs.Ytfnobinenolhhaa
open Go.RowKit Go.Proofs.Ytfnobinenolhhaa.PRef Go.Proofs.YtfnobinenolhhaaW.PrintWords Go.Proofs.YtfnobinenolhhaaW.PrintLast Go.Proofs.YtfnobinenolhhaaW.PrintMore
/-- the bytes of a context, among the first k -/
def pkL (b : List Int) (c : Int) (k : Nat) : List Int := ((List.range k).filter (fun j => decide (ctxI b (j : Nat) = c))).map (fun j => b.getD j 0)
def pickedL (b : List Int) (c : Int) : List Int := pkL b c b.length
theorem pkL_hit {b : List Int} {c : Int} {k : Nat} (h : ctxI b (k : Nat) = c) : pkL b c (k + 1) = pkL b c k ++ [b.getD k 0] := by
  unfold pkL; rw [List.range_succ, List.filter_append, List.map_append]; congr 1
  simp only [List.filter_cons, List.filter_nil, h, decide_true]; rfl
theorem pkL_miss {b : List Int} {c : Int} {k : Nat} (h : ctxI b (k : Nat) ≠ c) : pkL b c (k + 1) = pkL b c k := by
  unfold pkL; rw [List.range_succ, List.filter_append, List.map_append]
  simp only [List.filter_cons, List.filter_nil, h, decide_false]; simp
theorem pkL_len (b : List Int) (c : Int) (k : Nat) : (pkL b c k).length ≤ k := by
  unfold pkL; rw [List.length_map]; exact Nat.le_trans (List.length_filter_le _ _) (by simp)
theorem pkL_bytes {b : List Int} (hb : Bytes b) (c : Int) (k : Nat) : Bytes (pkL b c k) := by
  intro x hx
  unfold pkL at hx
  obtain ⟨j, _, rfl⟩ := List.mem_map.1 hx
  exact hb.get j
theorem histL_snoc (l : List Int) {y : Nat} (hy : y < 256) : histL (l ++ [(y : Int)]) = (histL l).set y ((l.count (y : Int) : Int) + 1) := by
  unfold histL
  rw [mapR_set _ hy]
  refine mapR_congr (fun u _ => ?_)
  rw [List.count_append, List.count_singleton]
  by_cases e : u = y
  · subst e; rw [if_pos rfl]; simp
  · rw [if_neg e]
    have : ¬ (y : Int) = (u : Int) := by omega
    simp [this]
theorem histL_get (l : List Int) {y : Nat} (hy : y < 256) : (histL l).getD y 0 = (l.count (y : Int) : Int) := by unfold histL; rw [mapR_get _ hy]
theorem refFor_loop (b : List Int) (hb : Bytes b) (hl : b.length ≤ 1000000) (c : Int) : ∀ (d i : Nat), i + d = b.length → Ev (fun k => puncheonref06_For.l0 k b c (histL (pkL b c i)) (i : Int)) (histL (pickedL b c)) := by
  intro d
  induction d with
  | zero =>
    intro i hi
    obtain rfl : i = b.length := by omega
    refine Ev.step (fun k => (show puncheonref06_For.l0 (k + 1) b c _ (b.length : Int) = _ by simp only [puncheonref06_For.l0]; rw [if_neg (by omega)])) ?_
    exact Ev.now _
  | succ d ih =>
    intro i hi
    have hlt : i < b.length := by omega
    have hg := hb.get i
    obtain ⟨y, hy⟩ : ∃ y : Nat, b.getD i 0 = y := ⟨(b.getD i 0).toNat, by omega⟩
    have hy2 : y < 256 := by omega
    refine Ev.step (fun k => (show puncheonref06_For.l0 (k + 1) b c _ (i : Int) = _ by simp only [puncheonref06_For.l0]; rw [if_pos (by omega), refAt_eq b hb hl, Option.bind_some])) ?_
    by_cases e : ctxI b (i : Nat) = c
    · have hc : (pkL b c i).count (y : Int) ≤ 1000000 := by
        have := List.count_le_length (a := (y : Int)) (l := pkL b c i); have := pkL_len b c i; omega
      refine Ev.congr (fun k => (show _ = _ by rw [if_pos e, if_pos (by omega), rd_nat, hy, if_pos (by omega), if_pos (by unfold histL; rw [mapR_len]; omega), rd_nat, histL_get _ hy2, w64 (n := ((pkL b c i).count (y : Int) : Int) + 1) (by omega), wS i (by omega), Int.toNat_natCast])) ?_
      have e2 : (histL (pkL b c i)).set y (((pkL b c i).count (y : Int) : Int) + 1) = histL (pkL b c (i + 1)) := by rw [pkL_hit e, hy, histL_snoc _ hy2]
      rw [e2]; exact ih (i + 1) (by omega)
    · refine Ev.congr (fun k => (show _ = _ by rw [if_neg e, wS i (by omega)])) ?_
      rw [← pkL_miss e]; exact ih (i + 1) (by omega)
theorem refFor_eq (b : List Int) (hb : Bytes b) (hl : b.length ≤ 1000000) (c : Int) : Ev (fun k => puncheonref06_For.f k b c) (histL (pickedL b c)) := by
  refine Ev.congr (fun k => (show puncheonref06_For.f k b c = _ by unfold puncheonref06_For.f; rw [if_pos (by decide)])) ?_
  have e : List.replicate 256 (0 : Int) = histL (pkL b c 0) := by
    unfold histL mapR
    rw [← List.length_range (n := 256), ← List.map_const', List.length_range]
    exact List.map_congr_left (fun u _ => by simp [pkL])
  rw [e]; exact refFor_loop b hb hl c b.length 0 (by omega)
/-- the most unlike bytes of a context -/
def widN (b : List Int) : Nat → Nat
  | 0 => 0
  | k + 1 => max (widN b k) (manyC (histL (pickedL b (k : Nat))))
theorem manyC_le (c : List Int) : manyC c ≤ 256 := by
  unfold manyC
  split
  · rename_i h
    have := List.countP_le_length (p := fun x => decide (0 < x)) (l := c); have := (rightC_iff.1 h).1; omega
  · omega
theorem widN_le (b : List Int) : ∀ k, widN b k ≤ 256
  | 0 => by simp [widN]
  | k + 1 => by
    have := widN_le b k; have := manyC_le (histL (pickedL b (k : Nat)))
    simp only [widN]; omega
theorem mx_nat (a b : Nat) : mx (a : Int) (b : Int) = ((max a b : Nat) : Int) := by unfold mx; split <;> omega
theorem refWidest_loop (b : List Int) (hb : Bytes b) (hl : b.length ≤ 1000000) : ∀ (d i : Nat), i + d = 256 → Ev (fun k => puncheonref06_Widest.l0 k b ((widN b i : Nat) : Int) (i : Int)) ((widN b 256 : Nat) : Int) := by
  intro d
  induction d with
  | zero =>
    intro i hi
    refine Ev.step (fun k => (show puncheonref06_Widest.l0 (k + 1) b _ (i : Int) = _ by simp only [puncheonref06_Widest.l0]; rw [if_neg (by omega)])) ?_
    rw [show i = 256 by omega]; exact Ev.now _
  | succ d ih =>
    intro i hi
    refine Ev.step (fun k => (show puncheonref06_Widest.l0 (k + 1) b _ (i : Int) = _ by simp only [puncheonref06_Widest.l0]; rw [if_pos (by omega)])) ?_
    refine Ev.bind (refFor_eq b hb hl i) ?_
    refine Ev.bind (refMany_eq _ (by unfold histL; rw [mapR_len]; omega)) ?_
    refine Ev.congr (fun k => (show _ = _ by rw [mx_nat, wS i (by omega)])) ?_
    exact ih (i + 1) (by omega)
theorem refWidest_eq (b : List Int) (hb : Bytes b) (hl : b.length ≤ 1000000) : Ev (fun k => puncheonref06_Widest.f k b) ((widN b 256 : Nat) : Int) := by
  unfold puncheonref06_Widest.f; exact refWidest_loop b hb hl 256 0 (by omega)
/-- the contexts that there are, among the first k -/
def presN (b : List Int) (k : Nat) : List Int := ((List.range k).filter (fun (c : Nat) => decide (0 < (pickedL b (c : Int)).length))).map (fun (c : Nat) => (c : Int))
theorem presN_succ (b : List Int) (k : Nat) : presN b (k + 1) = if 0 < (pickedL b (k : Int)).length then presN b k ++ [(k : Int)] else presN b k := by
  unfold presN; rw [List.range_succ, List.filter_append, List.map_append]
  by_cases h : 0 < (pickedL b (k : Int)).length
  · rw [if_pos h]; congr 1; simp only [List.filter_cons, List.filter_nil, h, decide_true]; rfl
  · rw [if_neg h]; simp only [List.filter_cons, List.filter_nil, h, decide_false]; simp
theorem presN_len (b : List Int) (k : Nat) : (presN b k).length ≤ k := by
  unfold presN; rw [List.length_map]; exact Nat.le_trans (List.length_filter_le _ _) (by simp)
theorem refPres_in (b : List Int) (hb : Bytes b) (hl : b.length ≤ 1000000) (c : Nat) (hc : c < 256) (R : List Int) (hn : Ev (fun k => puncheonref06_Present.l0 k b (presN b (c + 1)) ((c + 1 : Nat) : Int)) R) : ∀ (d i : Nat), i + d = b.length → Ev (fun k => puncheonref06_Present.l1 k b (presN b c) (c : Int) ((pkL b (c : Int) i).length : Int) (i : Int)) R := by
  intro d
  induction d with
  | zero =>
    intro i hi
    obtain rfl : i = b.length := by omega
    have hs := presN_succ b c
    have hpl := presN_len b c
    by_cases h : 0 < (pickedL b (c : Int)).length
    · refine Ev.step (fun k => (show puncheonref06_Present.l1 (k + 1) b (presN b c) (c : Int) _ (b.length : Int) = _ by simp only [puncheonref06_Present.l1]; rw [if_neg (by omega), if_pos (by unfold pickedL at h; omega), if_pos (by omega), wS c (by omega)])) ?_
      rw [if_pos h] at hs
      rw [← hs]; exact hn
    · refine Ev.step (fun k => (show puncheonref06_Present.l1 (k + 1) b (presN b c) (c : Int) _ (b.length : Int) = _ by simp only [puncheonref06_Present.l1]; rw [if_neg (by omega), if_neg (by unfold pickedL at h; omega), wS c (by omega)])) ?_
      rw [if_neg h] at hs
      rw [← hs]; exact hn
  | succ d ih =>
    intro i hi
    have hle := pkL_len b (c : Int) i
    refine Ev.step (fun k => (show puncheonref06_Present.l1 (k + 1) b (presN b c) (c : Int) _ (i : Int) = _ by simp only [puncheonref06_Present.l1]; rw [if_pos (by omega), refAt_eq b hb hl, Option.bind_some])) ?_
    by_cases e : ctxI b (i : Nat) = (c : Int)
    · refine Ev.congr (fun k => (show _ = _ by rw [if_pos e, wS i (by omega), wS _ (show (pkL b (c : Int) i).length ≤ 1000000000 by omega)])) ?_
      have := ih (i + 1) (by omega)
      rw [pkL_hit e, List.length_append, List.length_singleton] at this; exact this
    · refine Ev.congr (fun k => (show _ = _ by rw [if_neg e, wS i (by omega)])) ?_
      have := ih (i + 1) (by omega)
      rw [pkL_miss e] at this; exact this
theorem refPres_out (b : List Int) (hb : Bytes b) (hl : b.length ≤ 1000000) : ∀ (d c : Nat), c + d = 256 → Ev (fun k => puncheonref06_Present.l0 k b (presN b c) (c : Int)) (presN b 256) := by
  intro d
  induction d with
  | zero =>
    intro c hc
    refine Ev.step (fun k => (show puncheonref06_Present.l0 (k + 1) b _ (c : Int) = _ by simp only [puncheonref06_Present.l0]; rw [if_neg (by omega)])) ?_
    rw [show c = 256 by omega]; exact Ev.now _
  | succ d ih =>
    intro c hc
    refine Ev.step (fun k => (show puncheonref06_Present.l0 (k + 1) b _ (c : Int) = _ by simp only [puncheonref06_Present.l0]; rw [if_pos (by omega)])) ?_
    exact refPres_in b hb hl c (by omega) _ (ih (c + 1) (by omega)) b.length 0 (by omega)
theorem refPres_eq (b : List Int) (hb : Bytes b) (hl : b.length ≤ 1000000) : Ev (fun k => puncheonref06_Present.f k b) (presN b 256) := by
  unfold puncheonref06_Present.f; exact refPres_out b hb hl 256 0 (by omega)
theorem refFloor_loop (n : Nat) (hn : n < 2 ^ 40) : ∀ (d j : Nat), j + d = 41 → (j = 0 ∨ 2 ^ j ≤ n) → Ev (fun k => puncheonref07_Floor.l0 k (n : Int) (j : Int) ((2 ^ (j + 1) : Nat) : Int)) ((floorI n : Nat) : Int) := by
  intro d
  induction d with
  | zero =>
    intro j hj h
    have : 2 ^ 40 ≤ 2 ^ j := Nat.pow_le_pow_right (by omega) (by omega)
    exfalso; omega
  | succ d ih =>
    intro j hj h
    have hp : 2 ^ (j + 2) ≤ 2 ^ 43 := Nat.pow_le_pow_right (by omega) (by omega)
    have e : wrap64 (2 * ((2 ^ (j + 1) : Nat) : Int)) = ((2 ^ (j + 1 + 1) : Nat) : Int) := by
      have : 2 ^ (j + 2) = 2 * 2 ^ (j + 1) := Nat.pow_succ'
      rw [show j + 1 + 1 = j + 2 by omega, this]
      rw [this] at hp
      generalize 2 ^ (j + 1) = P at hp ⊢
      rw [w64 (by omega)]; omega
    by_cases hc : 2 ^ (j + 1) ≤ n
    · refine Ev.step (fun k => (show puncheonref07_Floor.l0 (k + 1) (n : Int) (j : Int) _ = _ by simp only [puncheonref07_Floor.l0]; rw [if_pos (Int.ofNat_le.2 hc), if_pos (by omega), wS j (by omega), e])) ?_
      exact ih (j + 1) (by omega) (.inr hc)
    · refine Ev.step (fun k => (show puncheonref07_Floor.l0 (k + 1) (n : Int) (j : Int) _ = _ by simp only [puncheonref07_Floor.l0]; rw [if_neg (fun h => hc (Int.ofNat_le.1 h))])) ?_
      have ef : floorI (n : Int) = j := by
        rcases Nat.eq_zero_or_pos n with h0 | h0
        · subst h0
          have : j = 0 := by
            rcases h with h | h
            · exact h
            · have := Nat.two_pow_pos j; omega
          rw [this]; rfl
        · have h1 : 2 ^ j ≤ n := by
            rcases h with h | h
            · rw [h, Nat.pow_zero]; exact h0
            · exact h
          unfold floorI widthI
          rw [Int.toNat_natCast, bitLen_of h1 (by omega) (by omega)]; omega
      rw [ef]; exact Ev.now _
theorem refFloor_eq (n : Nat) (hn : n < 2 ^ 40) : Ev (fun k => puncheonref07_Floor.f k (n : Int)) ((floorI n : Nat) : Int) := by
  unfold puncheonref07_Floor.f; exact refFloor_loop n hn 41 0 rfl (.inl rfl)
/-- a log, rounded up -/
def ceilI (n : Int) : Nat := widthI (n - 1)
theorem refCeil_loop (n : Nat) (hn : n < 2 ^ 40) : ∀ (d j : Nat), j + d = 41 → (j = 0 ∨ 2 ^ (j - 1) < n) → Ev (fun k => puncheonref07_Ceil.l0 k (n : Int) (j : Int) ((2 ^ j : Nat) : Int)) ((ceilI n : Nat) : Int) := by
  intro d
  induction d with
  | zero =>
    intro j hj h
    have : 2 ^ 40 ≤ 2 ^ (j - 1) := Nat.pow_le_pow_right (by omega) (by omega)
    exfalso; omega
  | succ d ih =>
    intro j hj h
    have hp : 2 ^ (j + 1) ≤ 2 ^ 43 := Nat.pow_le_pow_right (by omega) (by omega)
    have e : wrap64 (2 * ((2 ^ j : Nat) : Int)) = ((2 ^ (j + 1) : Nat) : Int) := by
      have : 2 ^ (j + 1) = 2 * 2 ^ j := Nat.pow_succ'
      rw [this]
      rw [this] at hp
      generalize 2 ^ j = P at hp ⊢
      rw [w64 (by omega)]; omega
    by_cases hc : 2 ^ j < n
    · refine Ev.step (fun k => (show puncheonref07_Ceil.l0 (k + 1) (n : Int) (j : Int) _ = _ by simp only [puncheonref07_Ceil.l0]; rw [if_pos (Int.ofNat_lt.2 hc), if_pos (by omega), wS j (by omega), e])) ?_
      exact ih (j + 1) (by omega) (.inr (by simpa using hc))
    · refine Ev.step (fun k => (show puncheonref07_Ceil.l0 (k + 1) (n : Int) (j : Int) _ = _ by simp only [puncheonref07_Ceil.l0]; rw [if_neg (fun h => hc (Int.ofNat_lt.1 h))])) ?_
      have ef : ceilI (n : Int) = j := by
        unfold ceilI widthI
        rcases h with h | h
        · subst h
          rw [show ((n : Int) - 1).toNat = 0 by simp at hc; omega]; rfl
        · obtain ⟨i, rfl⟩ : ∃ i, j = i + 1 := ⟨j - 1, by
            have : j ≠ 0 := by
              intro h0; subst h0; simp at hc h; omega
            omega⟩
          rw [show ((n : Int) - 1).toNat = n - 1 by omega]
          rw [Nat.add_sub_cancel] at h
          exact bitLen_of (by omega) (by omega) (by omega)
      rw [ef]; exact Ev.now _
theorem refCeil_eq (n : Nat) (hn : n < 2 ^ 40) : Ev (fun k => puncheonref07_Ceil.f k (n : Int)) ((ceilI n : Nat) : Int) := by
  unfold puncheonref07_Ceil.f; exact refCeil_loop n hn 41 0 rfl (.inl rfl)
/-- a table's log -/
def pickI (n m : Nat) (most : Int) : Int := mx (mx (mn ((floorI n : Int) - 2) most) 5) (ceilI m)
theorem floorI_le (n : Nat) (h : n < 2 ^ 40) : floorI (n : Int) ≤ 40 := by
  rcases Nat.eq_zero_or_pos n with h0 | h0
  · subst h0; decide
  · have := (floor_pow n h0 (by omega)).1
    have a : ¬ 41 ≤ floorI (n : Int) := fun e => by
      have := Nat.pow_le_pow_right (n := 2) (by omega) e; omega
    omega
theorem refPick_eq (n m : Nat) (most : Int) (hn : n < 2 ^ 40) (hm : m < 2 ^ 40) : Ev (fun k => puncheonref07_Pick.f k (n : Int) (m : Int) most) (pickI n m most) := by
  unfold puncheonref07_Pick.f
  refine Ev.bind (refFloor_eq n hn) (Ev.bind (refCeil_eq m hm) ?_)
  have := floorI_le n hn
  refine Ev.congr (fun k => (show _ = _ by rw [w64 (n := (floorI (n : Int) : Int) - 2) (by omega)]; exact rfl)) (Ev.now _)
end Go.Proofs.Ytfnobinenolhhaa
namespace Go.Proofs.Ytfnobinenolhhaa
open Go.RowKit Go.Proofs.Ytfnobinenolhhaa.PRef Go.Proofs.YtfnobinenolhhaaW.PrintWords Go.Proofs.YtfnobinenolhhaaW.PrintLast Go.Proofs.YtfnobinenolhhaaW.PrintMore
/-- who has one more next, among the first -/
def needN (rest : List Int) (had : List Bool) : Nat → Int
  | 0 => -1
  | k + 1 => if had.getD k false = true then needN rest had k else if needN rest had k < 0 then (k : Int) else if rest.getD k 0 > rest.getD (needN rest had k).toNat 0 then (k : Int) else needN rest had k
theorem needN_lt (rest : List Int) (had : List Bool) : ∀ k, -1 ≤ needN rest had k ∧ needN rest had k < k ∧ (0 ≤ needN rest had k → had.getD (needN rest had k).toNat false = false)
  | 0 => by simp [needN]
  | k + 1 => by
    obtain ⟨h1, h2, h3⟩ := needN_lt rest had k
    simp only [needN]
    cases hk : had.getD k false with
    | true => rw [if_pos rfl]; exact ⟨h1, by omega, h3⟩
    | false =>
      rw [if_neg (by decide)]
      split
      · exact ⟨by omega, by omega, fun _ => by rw [Int.toNat_natCast]; exact hk⟩
      · split
        · exact ⟨by omega, by omega, fun _ => by rw [Int.toNat_natCast]; exact hk⟩
        · exact ⟨h1, by omega, h3⟩
theorem needN_some (rest : List Int) (had : List Bool) {s : Nat} (hs : had.getD s false = false) : ∀ k, s < k → 0 ≤ needN rest had k
  | 0, h => by omega
  | k + 1, h => by
    simp only [needN]
    by_cases e : s = k
    · subst e
      rw [hs, if_neg (by decide)]
      split
      · omega
      · split <;> omega
    · have ih := needN_some rest had hs k (by omega)
      split
      · exact ih
      · rw [if_neg (by omega)]
        split <;> omega
theorem refNeed_loop (rest : List Int) (had : List Bool) (hr : rest.length = 256) (hh : had.length = 256) : ∀ (d i : Nat), i + d = 256 → Ev (fun k => puncheonref08_neediest.l0 k rest had (needN rest had i) (i : Int)) (needN rest had 256) := by
  intro d
  induction d with
  | zero =>
    intro i hi
    refine Ev.step (fun k => (show puncheonref08_neediest.l0 (k + 1) rest had _ (i : Int) = _ by simp only [puncheonref08_neediest.l0]; rw [if_neg (by omega)])) ?_
    rw [show i = 256 by omega]; exact Ev.now _
  | succ d ih =>
    intro i hi
    have hn := needN_lt rest had i
    have hrd : rdOf false had (i : Int) = had.getD i false := rfl
    have hs : needN rest had (i + 1) = if had.getD i false = true then needN rest had i else if needN rest had i < 0 then (i : Int) else if rest.getD i 0 > rest.getD (needN rest had i).toNat 0 then (i : Int) else needN rest had i := rfl
    by_cases e1 : had.getD i false = true
    · refine Ev.step (fun k => (show puncheonref08_neediest.l0 (k + 1) rest had _ (i : Int) = _ by simp only [puncheonref08_neediest.l0]; rw [if_pos (by omega), if_pos (by omega), if_pos (by omega), hrd, if_pos e1, wS i (by omega)])) ?_
      rw [if_pos e1] at hs; rw [← hs]; exact ih (i + 1) (by omega)
    · rw [if_neg e1] at hs
      by_cases e2 : needN rest had i < 0
      · refine Ev.step (fun k => (show puncheonref08_neediest.l0 (k + 1) rest had _ (i : Int) = _ by simp only [puncheonref08_neediest.l0]; rw [if_pos (by omega), if_pos (by omega), if_pos (by omega), hrd, if_neg e1, if_pos e2, wS i (by omega)])) ?_
        rw [if_pos e2] at hs
        have := ih (i + 1) (by omega); rw [hs] at this; exact this
      · rw [if_neg e2] at hs
        have hrd2 : rd rest (needN rest had i) = rest.getD (needN rest had i).toNat 0 := rfl
        by_cases e3 : rest.getD i 0 > rest.getD (needN rest had i).toNat 0
        · refine Ev.step (fun k => (show puncheonref08_neediest.l0 (k + 1) rest had _ (i : Int) = _ by simp only [puncheonref08_neediest.l0]; rw [if_pos (by omega), if_pos (by omega), if_pos (by omega), hrd, if_neg e1, if_neg e2, if_pos (by omega), if_pos (by omega), if_pos (by omega), rd_nat, hrd2, if_pos e3, wS i (by omega)])) ?_
          rw [if_pos e3] at hs
          have := ih (i + 1) (by omega); rw [hs] at this; exact this
        · refine Ev.step (fun k => (show puncheonref08_neediest.l0 (k + 1) rest had _ (i : Int) = _ by simp only [puncheonref08_neediest.l0]; rw [if_pos (by omega), if_pos (by omega), if_pos (by omega), hrd, if_neg e1, if_neg e2, if_pos (by omega), if_pos (by omega), if_pos (by omega), rd_nat, hrd2, if_neg e3, wS i (by omega)])) ?_
          rw [if_neg e3] at hs; rw [← hs]; exact ih (i + 1) (by omega)
theorem refNeed_eq (rest : List Int) (had : List Bool) (hr : rest.length = 256) (hh : had.length = 256) : Ev (fun k => puncheonref08_neediest.f k rest had) (needN rest had 256) := by
  unfold puncheonref08_neediest.f; exact refNeed_loop rest had hr hh 256 0 (by omega)
/-- who has one less next, among the first -/
def richN (q c : List Int) : Nat → Nat
  | 0 => 0
  | k + 1 => if q.getD k 0 > q.getD (richN q c k) 0 ∨ q.getD k 0 = q.getD (richN q c k) 0 ∧ c.getD k 0 ≤ c.getD (richN q c k) 0 then k else richN q c k
theorem richN_lt (q c : List Int) : ∀ k, richN q c k ≤ k - 1
  | 0 => by simp [richN]
  | k + 1 => by
    have := richN_lt q c k
    simp only [richN]; split <;> omega
theorem richN_max (q c : List Int) : ∀ k, ∀ s, s < k → q.getD s 0 ≤ q.getD (richN q c k) 0
  | 0, s, h => by omega
  | k + 1, s, h => by
    have ih := richN_max q c k
    simp only [richN]
    split
    · rename_i hc
      by_cases e : s = k
      · subst e; exact Int.le_refl _
      · have := ih s (by omega); omega
    · rename_i hc
      by_cases e : s = k
      · subst e; omega
      · exact ih s (by omega)
theorem richN_one (q c : List Int) : richN q c 1 = 0 := by simp only [richN]; split <;> rfl
theorem refRich_loop (q c : List Int) (hq : q.length = 256) (hc : c.length = 256) : ∀ (d i : Nat), i + d = 256 → 1 ≤ i → Ev (fun k => puncheonref08_richest.l0 k q c ((richN q c i : Nat) : Int) (i : Int)) ((richN q c 256 : Nat) : Int) := by
  intro d
  induction d with
  | zero =>
    intro i hi _
    refine Ev.step (fun k => (show puncheonref08_richest.l0 (k + 1) q c _ (i : Int) = _ by simp only [puncheonref08_richest.l0]; rw [if_neg (by omega)])) ?_
    rw [show i = 256 by omega]; exact Ev.now _
  | succ d ih =>
    intro i hi h1
    have hlt := richN_lt q c i
    have hs : richN q c (i + 1) = if q.getD i 0 > q.getD (richN q c i) 0 ∨ q.getD i 0 = q.getD (richN q c i) 0 ∧ c.getD i 0 ≤ c.getD (richN q c i) 0 then i else richN q c i := rfl
    by_cases e1 : q.getD i 0 > q.getD (richN q c i) 0
    · refine Ev.step (fun k => (show puncheonref08_richest.l0 (k + 1) q c _ (i : Int) = _ by simp only [puncheonref08_richest.l0]; rw [if_pos (by omega), if_pos (by omega), if_pos (by omega), if_pos (by omega), if_pos (by omega), rd_nat, rd_nat, if_pos e1, wS i (by omega)])) ?_
      rw [if_pos (.inl e1)] at hs
      have := ih (i + 1) (by omega) (by omega); rw [hs] at this; exact this
    · by_cases e2 : q.getD i 0 = q.getD (richN q c i) 0
      · by_cases e3 : c.getD i 0 ≤ c.getD (richN q c i) 0
        · refine Ev.step (fun k => (show puncheonref08_richest.l0 (k + 1) q c _ (i : Int) = _ by simp only [puncheonref08_richest.l0]; rw [if_pos (by omega), if_pos (by omega), if_pos (by omega), if_pos (by omega), if_pos (by omega), rd_nat, rd_nat, if_neg e1, if_pos e2, if_pos (by omega), if_pos (by omega), rd_nat, rd_nat, if_pos e3, wS i (by omega)])) ?_
          rw [if_pos (.inr ⟨e2, e3⟩)] at hs
          have := ih (i + 1) (by omega) (by omega); rw [hs] at this; exact this
        · refine Ev.step (fun k => (show puncheonref08_richest.l0 (k + 1) q c _ (i : Int) = _ by simp only [puncheonref08_richest.l0]; rw [if_pos (by omega), if_pos (by omega), if_pos (by omega), if_pos (by omega), if_pos (by omega), rd_nat, rd_nat, if_neg e1, if_pos e2, if_pos (by omega), if_pos (by omega), rd_nat, rd_nat, if_neg e3, wS i (by omega)])) ?_
          rw [if_neg (by omega)] at hs
          have := ih (i + 1) (by omega) (by omega); rw [hs] at this; exact this
      · refine Ev.step (fun k => (show puncheonref08_richest.l0 (k + 1) q c _ (i : Int) = _ by simp only [puncheonref08_richest.l0]; rw [if_pos (by omega), if_pos (by omega), if_pos (by omega), if_pos (by omega), if_pos (by omega), rd_nat, rd_nat, if_neg e1, if_neg e2, wS i (by omega)])) ?_
        rw [if_neg (by omega)] at hs
        have := ih (i + 1) (by omega) (by omega); rw [hs] at this; exact this
theorem refRich_eq (q c : List Int) (hq : q.length = 256) (hc : c.length = 256) : Ev (fun k => puncheonref08_richest.f k q c) ((richN q c 256 : Nat) : Int) := by
  unfold puncheonref08_richest.f
  have := refRich_loop q c hq hc 255 1 rfl (by omega)
  rw [richN_one] at this; exact this
theorem refSum_loop (q : List Int) (hq : ∀ x ∈ q, 0 ≤ x ∧ x ≤ 1000000000) (hl : q.length ≤ 1000000) : ∀ (d i : Nat) (s : Int), i + d = q.length → s = (q.take i).sum → 0 ≤ s ∧ s ≤ i * 1000000000 → Ev (fun k => puncheonref08_sum.l0 k q s (i : Int)) q.sum := by
  intro d
  induction d with
  | zero =>
    intro i s hi hs _
    refine Ev.step (fun k => (show puncheonref08_sum.l0 (k + 1) q s (i : Int) = _ by simp only [puncheonref08_sum.l0]; rw [if_neg (by omega)])) ?_
    rw [List.take_of_length_le (by omega)] at hs
    rw [← hs]; exact Ev.now _
  | succ d ih =>
    intro i s hi hs hb
    have hlt : i < q.length := by omega
    have hx := hq _ (getD_mem hlt)
    have hts := take_sum hlt
    refine Ev.step (fun k => (show puncheonref08_sum.l0 (k + 1) q s (i : Int) = _ by simp only [puncheonref08_sum.l0]; rw [if_pos (by omega), if_pos (by omega), rd_nat, wS i (by omega), w64 (n := s + q.getD i 0) (by omega)])) ?_
    exact ih (i + 1) _ (by omega) (by rw [hts, hs]) (by omega)
theorem refSum_eq (q : List Int) (hq : ∀ x ∈ q, 0 ≤ x ∧ x ≤ 1000000000) (hl : q.length ≤ 1000000) : Ev (fun k => puncheonref08_sum.f k q) q.sum := by
  unfold puncheonref08_sum.f; exact refSum_loop q hq hl q.length 0 0 (by omega) (by simp) (by omega)
end Go.Proofs.Ytfnobinenolhhaa
namespace Go.Proofs.Ytfnobinenolhhaa
open Go.RowKit
theorem sum_set (q : List Int) (s : Nat) (y : Int) (h : s < q.length) : (q.set s y).sum = q.sum - q.getD s 0 + y := by
  induction q generalizing s with
  | nil => simp at h
  | cons a q ih =>
    cases s with
    | zero => simp; omega
    | succ s =>
      have := ih s (by simpa using h)
      simp only [List.set_cons_succ, List.sum_cons, List.getD_cons_succ, this]; omega
theorem getD_set (q : List Int) (s t : Nat) (y : Int) (h : s < q.length) : (q.set s y).getD t 0 = if t = s then y else q.getD t 0 := by
  rw [List.getD_eq_getElem?_getD, List.getElem?_set]
  by_cases e : s = t
  · subst e; rw [if_pos rfl, if_pos h, if_pos rfl]; rfl
  · rw [if_neg e, if_neg (fun x => e x.symm), List.getD_eq_getElem?_getD]
/-- the first of the counts, what is left, and who has had enough -/
def q0F (c : List Int) (P n : Int) (s : Nat) : Int := if c.getD s 0 * P / n = 0 then min (c.getD s 0) 1 else c.getD s 0 * P / n
def q0L (c : List Int) (P n : Int) : List Int := mapR (q0F c P n)
def restL (c : List Int) (P n : Int) : List Int := mapR (fun s => c.getD s 0 * P % n)
def hadL (c : List Int) (P n : Int) : List Bool := (List.range 256).map (fun s => decide (c.getD s 0 * P / n = 0))
def giveIt (rest : List Int) : Nat → List Int × List Bool → List Int × List Bool
  | 0, st => st
  | m + 1, st => let r := giveIt rest m st; (r.1.set (needN rest r.2 256).toNat (r.1.getD (needN rest r.2 256).toNat 0 + 1), r.2.set (needN rest r.2 256).toNat true)
def takeIt (c : List Int) : Nat → List Int → List Int
  | 0, q => q
  | m + 1, q => let r := takeIt c m q; r.set (richN r c 256) (r.getD (richN r c 256) 0 - 1)
def giveM (c : List Int) (P n : Int) : Nat := (P - (q0L c P n).sum).toNat
def normL (c : List Int) (r : Nat) : List Int :=
  let P : Int := 2 ^ r
  let n := c.sum
  let g := (giveIt (restL c P n) (giveM c P n) (q0L c P n, hadL c P n)).1
  takeIt c (g.sum - P).toNat g
theorem mapR_sum_le {f g : Nat → Int} (h : ∀ s, s < 256 → f s ≤ g s) : (mapR f).sum ≤ (mapR g).sum := by
  unfold mapR
  have key : ∀ l : List Nat, (∀ s ∈ l, f s ≤ g s) → (l.map f).sum ≤ (l.map g).sum := by
    intro l
    induction l with
    | nil => intro _; simp
    | cons a l ih =>
      intro hl
      have := ih (fun s hs => hl s (by simp [hs])); have := hl a (by simp)
      simp only [List.map_cons, List.sum_cons]; omega
  exact key _ (fun s hs => h s (List.mem_range.1 hs))
theorem mapR_self {c : List Int} (h : c.length = 256) : mapR (fun s => c.getD s 0) = c := by
  apply List.ext_getElem
  · rw [mapR_len, h]
  · intro i h1 h2; simp [mapR, List.getElem?_eq_getElem h2]
theorem mapR_sum_mul (f : Nat → Int) (k : Int) : (mapR (fun s => f s * k)).sum = (mapR f).sum * k := by
  unfold mapR
  induction List.range 256 with
  | nil => simp
  | cons a l ih => simp only [List.map_cons, List.sum_cons, ih, Int.add_mul]
theorem mapR_sum_add (f g : Nat → Int) : (mapR (fun s => f s + g s)).sum = (mapR f).sum + (mapR g).sum := by
  unfold mapR
  induction List.range 256 with
  | nil => simp
  | cons a l ih => simp only [List.map_cons, List.sum_cons, ih]; omega
/-- how many haven't had enough -/
def freeN (had : List Bool) : Nat := had.countP (fun b => !b)
theorem free_sum (c : List Int) (P n : Int) : ((freeN (hadL c P n) : Nat) : Int) = (mapR (fun s => if c.getD s 0 * P / n = 0 then 0 else 1)).sum := by
  unfold freeN hadL mapR
  induction List.range 256 with
  | nil => simp
  | cons a l ih =>
    have e1 : ((if (!decide (c.getD a 0 * P / n = 0)) = true then 1 else 0 : Nat) : Int) = if c.getD a 0 * P / n = 0 then 0 else 1 := by
      by_cases e : c.getD a 0 * P / n = 0
      · rw [if_pos e, decide_eq_true e]; rfl
      · rw [if_neg e, decide_eq_false e]; rfl
    rw [List.map_cons, List.map_cons, List.countP_cons, List.sum_cons, Int.natCast_add, ih, e1]; omega
/-- counts that can be normalized -/
structure Can (c : List Int) (r : Nat) : Prop where
  len : c.length = 256
  nonneg : ∀ x ∈ c, 0 ≤ x
  pos : 0 < c.sum
  le : c.sum ≤ 1073741824
  r1 : 1 ≤ r
  r12 : r ≤ 12
  many : c.countP (fun x => decide (0 < x)) ≤ 2 ^ r
theorem Can.get {c : List Int} {r : Nat} (h : Can c r) (s : Nat) : 0 ≤ c.getD s 0 ∧ c.getD s 0 ≤ c.sum := by
  by_cases hs : s < c.length
  · exact ⟨h.nonneg _ (getD_mem hs), le_sum h.nonneg (getD_mem hs)⟩
  · rw [List.getD_eq_getElem?_getD, List.getElem?_eq_none (by omega)]; have := h.pos; simp; omega
theorem Can.q0 {c : List Int} {r : Nat} (h : Can c r) (s : Nat) : 0 ≤ q0F c (2 ^ r) c.sum s ∧ q0F c (2 ^ r) c.sum s ≤ 4096 ∧ (0 < q0F c (2 ^ r) c.sum s ↔ 0 < c.getD s 0) ∧ c.getD s 0 * 2 ^ r ≤ (q0F c (2 ^ r) c.sum s + (if c.getD s 0 * 2 ^ r / c.sum = 0 then 0 else 1)) * c.sum := by
  have hg := h.get s
  have hp := h.pos
  have h2 := pow_le12 h.r12
  have hm0 : 0 ≤ c.getD s 0 * 2 ^ r := Int.mul_nonneg hg.1 (by omega)
  have hd0 : 0 ≤ c.getD s 0 * 2 ^ r / c.sum := Int.ediv_nonneg hm0 (by omega)
  have hdm := Int.mul_ediv_add_emod (c.getD s 0 * 2 ^ r) c.sum
  have hml := Int.emod_lt_of_pos (c.getD s 0 * 2 ^ r) hp
  have hmn := Int.emod_nonneg (c.getD s 0 * 2 ^ r) (b := c.sum) (by omega)
  have hle : c.getD s 0 * 2 ^ r / c.sum ≤ 2 ^ r := by
    refine Int.ediv_le_of_le_mul hp ?_
    rw [Int.mul_comm]; exact Int.mul_le_mul_of_nonneg_left hg.2 (by omega)
  unfold q0F
  by_cases e : c.getD s 0 * 2 ^ r / c.sum = 0
  · rw [if_pos e, if_pos e]
    rw [e, Int.mul_zero, Int.zero_add] at hdm
    refine ⟨by omega, by omega, by omega, ?_⟩
    by_cases e2 : c.getD s 0 = 0
    · rw [e2, show min (0 : Int) 1 = 0 by decide]; simp
    · rw [show min (c.getD s 0) 1 = 1 by omega]; omega
  · rw [if_neg e, if_neg e]
    refine ⟨hd0, by omega, ⟨fun _ => ?_, fun _ => by omega⟩, ?_⟩
    · by_cases e2 : c.getD s 0 = 0
      · rw [e2] at e; simp at e
      · omega
    · rw [Int.add_mul, Int.one_mul, Int.mul_comm (c.getD s 0 * 2 ^ r / c.sum)]; omega
/-- enough haven't had enough -/
theorem Can.enough {c : List Int} {r : Nat} (h : Can c r) : (2 : Int) ^ r ≤ (q0L c (2 ^ r) c.sum).sum + freeN (hadL c (2 ^ r) c.sum) := by
  have h1 : (mapR (fun s => c.getD s 0 * 2 ^ r)).sum ≤ (mapR (fun s => (q0F c (2 ^ r) c.sum s + (if c.getD s 0 * 2 ^ r / c.sum = 0 then 0 else 1)) * c.sum)).sum := mapR_sum_le (fun s _ => (h.q0 s).2.2.2)
  rw [mapR_sum_mul, mapR_sum_mul, mapR_sum_add, mapR_self h.len, ← free_sum, Int.mul_comm c.sum] at h1
  exact Int.le_of_mul_le_mul_right h1 h.pos
theorem free_exists {had : List Bool} (hl : had.length = 256) (h : 0 < freeN had) : ∃ s, s < 256 ∧ had.getD s false = false := by
  unfold freeN at h
  obtain ⟨b, hb, hbf⟩ := List.countP_pos_iff.1 h
  obtain ⟨s, hs, rfl⟩ := List.getElem_of_mem hb
  refine ⟨s, by omega, ?_⟩
  rw [List.getD_eq_getElem?_getD, List.getElem?_eq_getElem hs]; simpa using hbf
theorem free_set {had : List Bool} {s : Nat} (hs : s < had.length) (h : had.getD s false = false) : freeN (had.set s true) + 1 = freeN had := by
  unfold freeN
  induction had generalizing s with
  | nil => simp at hs
  | cons a l ih =>
    cases s with
    | zero => simp at h; subst h; simp
    | succ s =>
      have := ih (s := s) (by simpa using hs) (by simpa using h)
      simp only [List.set_cons_succ, List.countP_cons]; omega
/-- counts on the way -/
structure Way (c q : List Int) : Prop where
  len : q.length = 256
  rng : ∀ s, 0 ≤ q.getD s 0 ∧ q.getD s 0 ≤ 100000
  iff : ∀ s, 0 < q.getD s 0 ↔ 0 < c.getD s 0
theorem give_way {c : List Int} {r : Nat} (h : Can c r) : ∀ m, m ≤ giveM c (2 ^ r) c.sum →
    let st := giveIt (restL c (2 ^ r) c.sum) m (q0L c (2 ^ r) c.sum, hadL c (2 ^ r) c.sum)
    st.1.length = 256 ∧ st.2.length = 256 ∧ (∀ s, 0 ≤ st.1.getD s 0 ∧ st.1.getD s 0 ≤ 4096 + m) ∧ (∀ s, 0 < st.1.getD s 0 ↔ 0 < c.getD s 0) ∧ st.1.sum = (q0L c (2 ^ r) c.sum).sum + m ∧ freeN st.2 + m = freeN (hadL c (2 ^ r) c.sum) ∧
      (∀ s, s < 256 → st.2.getD s false = false → 0 < c.getD s 0)
  | 0, _ => by
    have hlen : (q0L c (2 ^ r) c.sum).length = 256 := mapR_len _
    refine ⟨hlen, by simp [giveIt, hadL], fun s => ?_, fun s => ?_, by simp [giveIt], rfl, fun s hs hf => ?_⟩
    · show 0 ≤ (q0L c (2 ^ r) c.sum).getD s 0 ∧ (q0L c (2 ^ r) c.sum).getD s 0 ≤ 4096 + ((0 : Nat) : Int)
      by_cases hs : s < 256
      · unfold q0L; rw [mapR_get _ hs]; have := h.q0 s; exact ⟨this.1, by have := this.2.1; omega⟩
      · rw [List.getD_eq_getElem?_getD, List.getElem?_eq_none (by omega)]; simp
    · show 0 < (q0L c (2 ^ r) c.sum).getD s 0 ↔ _
      by_cases hs : s < 256
      · unfold q0L; rw [mapR_get _ hs]; exact (h.q0 s).2.2.1
      · rw [List.getD_eq_getElem?_getD, List.getElem?_eq_none (by omega), List.getD_eq_getElem?_getD, List.getElem?_eq_none (by have := h.len; omega)]
    · have hf2 : (hadL c (2 ^ r) c.sum).getD s false = false := hf
      unfold hadL at hf2
      rw [List.getD_eq_getElem?_getD, List.getElem?_map, List.getElem?_range hs] at hf2
      simp only [Option.map_some, Option.getD_some, decide_eq_false_iff_not] at hf2
      have := (h.get s).1
      by_cases e2 : c.getD s 0 = 0
      · rw [e2] at hf2; simp at hf2
      · omega
  | m + 1, hm => by
    obtain ⟨h1, h2, h3, h4, h5, h6, h7⟩ := give_way h m (by omega)
    have hen := h.enough
    obtain ⟨st, hst⟩ : ∃ st, st = giveIt (restL c (2 ^ r) c.sum) m (q0L c (2 ^ r) c.sum, hadL c (2 ^ r) c.sum) := ⟨_, rfl⟩
    simp only [giveIt]
    rw [← hst] at h1 h2 h3 h4 h5 h6 h7 ⊢
    have hM : (m : Int) + 1 ≤ 2 ^ r - (q0L c (2 ^ r) c.sum).sum := by unfold giveM at hm; omega
    obtain ⟨s0, hs0, hf0⟩ := free_exists h2 (by omega)
    have hn0 := needN_some (restL c (2 ^ r) c.sum) st.2 hf0 256 hs0
    have hnl := needN_lt (restL c (2 ^ r) c.sum) st.2 256
    obtain ⟨t, ht⟩ : ∃ t : Nat, needN (restL c (2 ^ r) c.sum) st.2 256 = t := ⟨_, (Int.toNat_of_nonneg hn0).symm⟩
    rw [ht] at hnl ⊢
    have htf := hnl.2.2 (by omega)
    rw [Int.toNat_natCast] at htf ⊢
    have ht256 : t < 256 := by omega
    have hct := h7 t ht256 htf
    have hg := h3 t
    refine ⟨by rw [List.length_set]; exact h1, by rw [List.length_set]; exact h2, fun s => ?_, fun s => ?_, ?_, ?_, fun s hs hf => ?_⟩
    · rw [getD_set _ _ _ _ (by omega)]
      have := h3 s
      split <;> omega
    · rw [getD_set _ _ _ _ (by omega)]
      by_cases e : s = t
      · subst e; rw [if_pos rfl]; exact ⟨fun _ => hct, fun _ => by omega⟩
      · rw [if_neg e]; exact h4 s
    · rw [sum_set _ _ _ (by omega), h5]; omega
    · have := free_set (had := st.2) (s := t) (by omega) htf; omega
    · refine h7 s hs ?_
      by_cases e : s = t
      · subst e; exact htf
      · rw [List.getD_eq_getElem?_getD, List.getElem?_set_ne (fun x => e x.symm), ← List.getD_eq_getElem?_getD] at hf; exact hf
theorem sum_le_pos {q : List Int} (h : ∀ x ∈ q, 0 ≤ x ∧ x ≤ 1) : q.sum ≤ (q.countP (fun x => decide (0 < x)) : Nat) := by
  induction q with
  | nil => simp
  | cons a l ih =>
    have := ih (fun x hx => h x (by simp [hx]))
    have ha := h a (by simp)
    rw [List.sum_cons, List.countP_cons]
    by_cases e : 0 < a
    · simp [e]; omega
    · simp [e]; omega
theorem pos_same {c q : List Int} (hc : c.length = 256) (hq : q.length = 256) (h : ∀ s, 0 < q.getD s 0 ↔ 0 < c.getD s 0) : q.countP (fun x => decide (0 < x)) = c.countP (fun x => decide (0 < x)) := by
  have e : ∀ l : List Int, l.length = 256 → l.countP (fun x => decide (0 < x)) = (List.range 256).countP (fun s => decide (0 < l.getD s 0)) := by
    intro l hl
    have := mapR_self hl
    conv => lhs; rw [← this]
    unfold mapR
    rw [List.countP_map]; rfl
  rw [e q hq, e c hc]
  exact List.countP_congr (fun s _ => by simp only [decide_eq_true_eq]; exact h s)
theorem take_way {c : List Int} {r : Nat} (h : Can c r) {q : List Int} (hq : Way c q) : ∀ m, m ≤ (q.sum - 2 ^ r).toNat →
    Way c (takeIt c m q) ∧ (takeIt c m q).sum = q.sum - m
  | 0, _ => ⟨hq, by simp [takeIt]⟩
  | m + 1, hm => by
    obtain ⟨h1, h2⟩ := take_way h hq m (by omega)
    simp only [takeIt]
    obtain ⟨t, ht⟩ : ∃ t, t = takeIt c m q := ⟨_, rfl⟩
    rw [← ht] at h1 h2 ⊢
    obtain ⟨b, hb⟩ : ∃ b, b = richN t c 256 := ⟨_, rfl⟩
    have hbl := richN_lt t c 256
    have hmax := richN_max t c 256
    rw [← hb] at hbl hmax ⊢
    have hlen := h1.len
    have hbig : 2 ≤ t.getD b 0 := by
      by_cases e : 2 ≤ t.getD b 0
      · exact e
      · exfalso
        have hle : t.sum ≤ (t.countP (fun x => decide (0 < x)) : Nat) := sum_le_pos (fun x hx => by
          obtain ⟨s, hs, rfl⟩ := List.getElem_of_mem hx
          have a := hmax s (by omega); have a2 := h1.rng s
          rw [List.getD_eq_getElem?_getD, List.getElem?_eq_getElem hs, Option.getD_some] at a a2
          omega)
        rw [pos_same h.len hlen h1.iff] at hle
        have hmny := h.many
        have e2 : (2 : Int) ^ r = ((2 ^ r : Nat) : Int) := by simp
        have hmI : (m : Int) + 1 ≤ q.sum - 2 ^ r := by omega
        rw [e2] at hmI; omega
    have hrb := h1.rng b
    have hib := h1.iff b
    refine ⟨⟨by rw [List.length_set]; exact hlen, fun s => ?_, fun s => ?_⟩, ?_⟩
    · rw [getD_set _ _ _ _ (by omega)]
      have := h1.rng s
      split <;> omega
    · rw [getD_set _ _ _ _ (by omega)]
      by_cases e : s = b
      · subst e; rw [if_pos rfl]; exact ⟨fun _ => hib.1 (by omega), fun _ => by omega⟩
      · rw [if_neg e]; exact h1.iff s
    · rw [sum_set _ _ _ (by omega), h2]; omega
theorem give_end {c : List Int} {r : Nat} (h : Can c r) : Way c (giveIt (restL c (2 ^ r) c.sum) (giveM c (2 ^ r) c.sum) (q0L c (2 ^ r) c.sum, hadL c (2 ^ r) c.sum)).1 ∧ 2 ^ r ≤ (giveIt (restL c (2 ^ r) c.sum) (giveM c (2 ^ r) c.sum) (q0L c (2 ^ r) c.sum, hadL c (2 ^ r) c.sum)).1.sum := by
  obtain ⟨h1, h2, h3, h4, h5, h6, h7⟩ := give_way h _ (Nat.le_refl _)
  have h0 : 0 ≤ (q0L c (2 ^ r) c.sum).sum := sum_nonneg (fun x hx => by
    obtain ⟨v, hv, rfl⟩ := mapR_mem hx; exact (h.q0 v).1)
  have hp := pow_le12 h.r12
  have hM : giveM c (2 ^ r) c.sum ≤ 4096 := by unfold giveM; omega
  refine ⟨⟨h1, fun s => ⟨(h3 s).1, by have := (h3 s).2; omega⟩, h4⟩, ?_⟩
  rw [h5]; unfold giveM; omega
/-- the normalized counts -/
theorem norm_ok {c : List Int} {r : Nat} (h : Can c r) : Good (normL c r) ∧ (normL c r).sum = 2 ^ r ∧ ∀ s, 0 < (normL c r).getD s 0 ↔ 0 < c.getD s 0 := by
  obtain ⟨hw, hs⟩ := give_end h
  obtain ⟨h1, h2⟩ := take_way h hw _ (Nat.le_refl _)
  have hp := pow_le12 h.r12
  have e : normL c r = takeIt c ((giveIt (restL c (2 ^ r) c.sum) (giveM c (2 ^ r) c.sum) (q0L c (2 ^ r) c.sum, hadL c (2 ^ r) c.sum)).1.sum - 2 ^ r).toNat (giveIt (restL c (2 ^ r) c.sum) (giveM c (2 ^ r) c.sum) (q0L c (2 ^ r) c.sum, hadL c (2 ^ r) c.sum)).1 := rfl
  rw [← e] at h1 h2
  have hsum : (normL c r).sum = 2 ^ r := by rw [h2]; omega
  refine ⟨⟨h1.len, fun x hx => ?_, by omega⟩, hsum, h1.iff⟩
  obtain ⟨s, hs, rfl⟩ := List.getElem_of_mem hx
  have := h1.rng s
  rw [List.getD_eq_getElem?_getD, List.getElem?_eq_getElem hs] at this; exact this.1
theorem norm_log {c : List Int} {r : Nat} (h : Can c r) : logC (normL c r) = r := by
  obtain ⟨h1, h2, _⟩ := norm_ok h
  have hp := pow_le12 h.r12
  have hr : rightC (normL c r) = true := rightC_iff.2 ⟨h1.len, h1.nonneg, by omega⟩
  unfold logC totalC
  rw [if_pos hr, h2]
  exact logT_found h.r1 h.r12 rfl
end Go.Proofs.Ytfnobinenolhhaa
namespace Go.Proofs.Ytfnobinenolhhaa
open Go.RowKit Go.IntWalk Go.Proofs.Ytfnobinenolhhaa.PRef Go.Proofs.YtfnobinenolhhaaW.PrintWords Go.Proofs.YtfnobinenolhhaaW.PrintLast Go.Proofs.YtfnobinenolhhaaW.PrintMore
section
variable (A : Option Addr) (cp : Nat) (c : List Int) (w : World)
theorem rTotal_any (hr : (Kd.int .i64).C w A c.length c) (hc : c.length ≤ cp) : Calls Try.prog 79 #[.slice A c.length cp] w (Ret (.int .i64 (totalC c)) w) := by
  obtain ⟨k, hk⟩ := (refTotal_eq c).rounds
  exact (puncheonref05_Total.calls k A cp c _ w hr hc hk).mono fun e w' h => ⟨h.1, h.2.below⟩
theorem rMany_any (hr : (Kd.int .i64).C w A c.length c) (hc : c.length ≤ cp) (hl : c.length ≤ 1000000) : Calls Try.prog 71 #[.slice A c.length cp] w (Ret (.int .i64 (manyC c)) w) := by
  obtain ⟨k, hk⟩ := (refMany_eq c hl).rounds
  exact (puncheonref05_Many.calls k A cp c _ w hr hc hk).mono fun e w' h => ⟨h.1, h.2.below⟩
theorem rPower_any (r : Nat) (hr : r ≤ 30) : Calls Try.prog 80 #[.int .i64 r] w (Ret (.int .i64 ((2 ^ r : Nat) : Int)) w) := by
  obtain ⟨k, hk⟩ := (refPower_eq r hr).rounds
  exact (puncheonref08_power.calls k r _ w hk).mono fun e w' h => ⟨h.1, h.2.below⟩
theorem rSum_any (hr : (Kd.int .i64).C w A c.length c) (hc : c.length ≤ cp) (hq : ∀ x ∈ c, 0 ≤ x ∧ x ≤ 1000000000) (hl : c.length ≤ 1000000) : Calls Try.prog 89 #[.slice A c.length cp] w (Ret (.int .i64 c.sum) w) := by
  obtain ⟨k, hk⟩ := (refSum_eq c hq hl).rounds
  exact (puncheonref08_sum.calls k A cp c _ w hr hc hk).mono fun e w' h => ⟨h.1, h.2.below⟩
theorem rNeed_any (B : Option Addr) (cb : Nat) (had : List Bool) (hr : (Kd.int .i64).C w A c.length c) (hc : c.length ≤ cp) (hb : Kd.bool.C w B had.length had) (hcb : had.length ≤ cb) (hl : c.length = 256) (hh : had.length = 256) : Calls Try.prog 90 #[.slice A c.length cp, .slice B had.length cb] w (Ret (.int .i64 (needN c had 256)) w) := by
  obtain ⟨k, hk⟩ := (refNeed_eq c had hl hh).rounds
  exact (puncheonref08_neediest.calls k A cp c B cb had _ w hr hc hb hcb hk).mono fun e w' h => ⟨h.1, h.2.below⟩
theorem rRich_any (B : Option Addr) (cb : Nat) (q : List Int) (hq : (Kd.int .i64).C w B q.length q) (hcb : q.length ≤ cb) (hr : (Kd.int .i64).C w A c.length c) (hc : c.length ≤ cp) (hl : c.length = 256) (hh : q.length = 256) : Calls Try.prog 91 #[.slice B q.length cb, .slice A c.length cp] w (Ret (.int .i64 (richN q c 256)) w) := by
  obtain ⟨k, hk⟩ := (refRich_eq q c hh hl).rounds
  exact (puncheonref08_richest.calls k B cb q A cp c _ w hq hcb hr hc hk).mono fun e w' h => ⟨h.1, h.2.below⟩
theorem rLog_any (hr : (Kd.int .i64).C w A c.length c) (hc : c.length ≤ cp) : Calls Try.prog 57 #[.slice A c.length cp] w (Ret (.int .i64 (logC c)) w) := by
  obtain ⟨k, hk⟩ := (refLog_eq c).rounds
  exact (puncheonref08_Log.calls k A cp c _ w hr hc hk).mono fun e w' h => ⟨h.1, h.2.below⟩
end
/-- a row that is made -/
def MadeI (xs : List Int) (w : World) (e : Ending) (w' : World) : Prop := ∃ v, e = .returned v ∧ (Kd.int .i64).R 3 w' w.heap.size (fun _ => True) v xs ∧ Below w.heap.size w w'
section
variable (A : Option Addr) (cp : Nat) (b : List Int) (w : World) (hr : (Kd.int .u8).C w A b.length b) (hc : b.length ≤ cp) (hb : Bytes b) (hl : b.length ≤ 1000000)
include hr hc hb hl
theorem rOf_any : Calls Try.prog 69 #[.slice A b.length cp] w (MadeI (histL b) w) := by
  obtain ⟨k, hk⟩ := (refOf_eq b hb hl).rounds
  exact (puncheonref05_Of.calls k A cp b _ w hr hc hk)
theorem rFor_any (c : Int) : Calls Try.prog 75 #[.slice A b.length cp, .int .i64 c] w (MadeI (histL (pickedL b c)) w) := by
  obtain ⟨k, hk⟩ := (refFor_eq b hb hl c).rounds
  exact (puncheonref06_For.calls k A cp b c _ w hr hc hk)
theorem rWidest_any : Calls Try.prog 73 #[.slice A b.length cp] w (Ret (.int .i64 (widN b 256)) w) := by
  obtain ⟨k, hk⟩ := (refWidest_eq b hb hl).rounds
  exact (puncheonref06_Widest.calls k A cp b _ w hr hc hk)
theorem rPres_any : Calls Try.prog 74 #[.slice A b.length cp] w (MadeI (presN b 256) w) := by
  obtain ⟨k, hk⟩ := (refPres_eq b hb hl).rounds
  exact (puncheonref06_Present.calls k A cp b _ w hr hc hk)
theorem rAt_any (i : Int) : Calls Try.prog 29 #[.slice A b.length cp, .int .i64 i] w (Ret (.int .i64 (ctxI b i)) w) :=
  puncheonref06_At.calls A cp b i _ w hr hc (refAt_eq b hb hl i)
end
theorem rPick_any (n m : Nat) (most : Int) (w : World) (hn : n < 2 ^ 40) (hm : m < 2 ^ 40) : Calls Try.prog 70 #[.int .i64 n, .int .i64 m, .int .i64 most] w (Ret (.int .i64 (pickI n m most)) w) := by
  obtain ⟨k, hk⟩ := (refPick_eq n m most hn hm).rounds
  exact (puncheonref07_Pick.calls k n m most _ w hk)
theorem made_i64 (n : Nat) (hn : n ≤ 1000000) (w : World) : (Instr.makeSlice 42 (.int .i64 n) (.int .i64 n)).run Try.prog w = .ok (.slice (some ⟨w.heap.size, 0, none⟩) n n) (w.alloc (.cells (madeCells #[.int .i64 0] n) 3)) := by
  obtain ⟨i0, hi, hzz⟩ := Option.map_eq_some_iff.1 infoInt
  simp only [Prod.mk.injEq] at hzz
  obtain ⟨hz0, hz1, hz2⟩ := hzz
  have hr := run_make (P := Try.prog) w 42 3 i0 (.int .i64 0) Try.underlying42 hi hz0 .i64 .i64 (n : Int) (n : Int) (by omega) (by omega) (by rw [hz2]; omega) (by omega)
  rw [hz1] at hr
  simpa [Value.cells] using hr
theorem made_rowK {α : Type} {enc : α → Value} {h1 : ∀ x, (enc x).oneCell' = true} (z0 : α) (t : TypeId) (hz : (enc z0).cells = #[enc z0]) (n : Nat) (hn : n ≤ 1000000) (W : World) (ok : Nat → Prop) (hok : ok W.heap.size) (base : Nat) (hb : base ≤ W.heap.size) : (Kd.scalar enc h1).R t (W.alloc (.cells (madeCells #[enc z0] n) t)) base ok (.slice (some ⟨W.heap.size, 0, none⟩) n n) (List.replicate n z0) := by
  have hr := Kd.reps_made (R := (Kd.scalar enc h1).M (W.alloc (.cells (madeCells #[enc z0] n) t)) base (fun k => ok k ∧ some k ≠ (Value.slice (some ⟨W.heap.size, 0, none⟩) n n).ownBlock)) (z := enc z0) (size := 1) (z0 := z0) (by rw [hz]; rfl) Nat.one_pos (by rw [hz]; rfl) n
  rw [hz, Nat.mul_one] at hr
  refine ⟨fun k hk => by cases hk; exact hok, _, ⟨?_, .inr ⟨W.heap.size, n, madeCells #[enc z0] n, by simp, hb, blk_new W _, by simp, by unfold maxLen; omega, ?_, ?_⟩⟩, hr⟩
  · simp [size_madeCells]; exact (Nat.mul_one n).symm
  · rw [size_madeCells]; exact (Nat.mul_one n).symm
  · rw [List.length_replicate]; exact List.take_of_length_le (by simp [size_madeCells]; exact Nat.le_of_eq (Nat.mul_one n).symm)
end Go.Proofs.Ytfnobinenolhhaa
namespace Go.Proofs.Ytfnobinenolhhaa
open Go.RowKit Go.IntWalk Go.Proofs.YtfnobinenolhhaaW.PrintWords
theorem infoBool : (Try.prog.info? 4).map (fun i => (i.zero, i.size, i.bytes)) = some (some (.bool false), 1, 1) := by kernel_rfl
theorem made_bool (n : Nat) (hn : n ≤ 1000000) (w : World) : (Instr.makeSlice 31 (.int .i64 n) (.int .i64 n)).run Try.prog w = .ok (.slice (some ⟨w.heap.size, 0, none⟩) n n) (w.alloc (.cells (madeCells #[.bool false] n) 4)) := by
  obtain ⟨i0, hi, hzz⟩ := Option.map_eq_some_iff.1 infoBool
  simp only [Prod.mk.injEq] at hzz
  obtain ⟨hz0, hz1, hz2⟩ := hzz
  have hr := run_make (P := Try.prog) w 31 4 i0 (.bool false) Try.underlying31 hi hz0 .i64 .i64 (n : Int) (n : Int) (by omega) (by omega) (by rw [hz2]; omega) (by omega)
  rw [hz1] at hr
  simpa [Value.cells] using hr
/-- a bool's cell -/
theorem bools_cells {e : TypeId} {W : World} {base : Nat} {ok : Nat → Prop} {g n cap : Nat} {xs : List Bool} (h : Kd.bool.R e W base ok (.slice (some ⟨g, 0, none⟩) n cap) xs) (i : Nat) (hi : i < n) :
    W.cell? ⟨g, i, none⟩ = some (.bool (xs.getD i false)) ∧ W.frozen? ⟨g, i, none⟩ = false := by
  obtain ⟨c, hl, hm, hc, hf⟩ := Kd.R_elem h false (i : Int) (by omega) (by omega)
  have hm' : c = [.bool (xs.getD (i : Int).toNat false)] := hm
  subst hm'
  simp only [Int.toNat_natCast] at hc hf
  have e1 : i * Kd.bool.sz + 0 = i := by show i * 1 + 0 = i; omega
  have h1 := hc 0 _ rfl
  have h2 := hf 0
  rw [e1] at h1 h2
  exact ⟨h1, h2⟩
/-- three rows of the call's own, side by side -/
structure Three (N : Nat) (w0 : World) (q r : List Int) (h : List Bool) (w : World) : Prop where
  q : (Kd.int .i64).R 3 w N (fun b => b = N) (.slice (some ⟨N, 0, none⟩) 256 256) q
  r : (Kd.int .i64).R 3 w N (fun b => b = N + 1) (.slice (some ⟨N + 1, 0, none⟩) 256 256) r
  h : Kd.bool.R 4 w N (fun b => b = N + 2) (.slice (some ⟨N + 2, 0, none⟩) 256 256) h
  below : Below N w0 w
theorem Three.setq {N : Nat} {w0 w : World} {q r : List Int} {h : List Bool} (H : Three N w0 q r h w) (s : Nat) (y : Int) : Three N w0 (q.set s y) r h (w.setCell ⟨N, s, none⟩ (.int .i64 y)) :=
  ⟨Kd.R_putn H.q (s : Int) y, Kd.R_far (p := ⟨N, s, none⟩) H.r (fun k hk => by show k ≠ N; omega) _, Kd.R_far (p := ⟨N, s, none⟩) H.h (fun k hk => by show k ≠ N; omega) _, H.below.setCell (Nat.le_refl _) _⟩
theorem Three.setr {N : Nat} {w0 w : World} {q r : List Int} {h : List Bool} (H : Three N w0 q r h w) (s : Nat) (y : Int) : Three N w0 q (r.set s y) h (w.setCell ⟨N + 1, s, none⟩ (.int .i64 y)) :=
  ⟨Kd.R_far (p := ⟨N + 1, s, none⟩) H.q (fun k hk => by show k ≠ N + 1; omega) _, Kd.R_putn H.r (s : Int) y, Kd.R_far (p := ⟨N + 1, s, none⟩) H.h (fun k hk => by show k ≠ N + 1; omega) _, H.below.setCell (by show N ≤ N + 1; omega) _⟩
theorem Three.seth {N : Nat} {w0 w : World} {q r : List Int} {h : List Bool} (H : Three N w0 q r h w) (s : Nat) (y : Bool) : Three N w0 q r (h.set s y) (w.setCell ⟨N + 2, s, none⟩ (.bool y)) :=
  ⟨Kd.R_far (p := ⟨N + 2, s, none⟩) H.q (fun k hk => by show k ≠ N + 2; omega) _, Kd.R_far (p := ⟨N + 2, s, none⟩) H.r (fun k hk => by show k ≠ N + 2; omega) _, Kd.R_putn H.h (s : Int) y, H.below.setCell (by show N ≤ N + 2; omega) _⟩
theorem Three.later {N : Nat} {w0 w w' : World} {q r : List Int} {h : List Bool} (H : Three N w0 q r h w) (hb : Below w.heap.size w w') : Three N w0 q r h w' :=
  ⟨Kd.R_below H.q hb, Kd.R_below H.r hb, Kd.R_below H.h hb, H.below.trans (hb.mono (by have := (Kd.R_bound H.q).1 N rfl; omega))⟩
theorem Three.cells {N : Nat} {w0 w : World} {q r : List Int} {h : List Bool} (H : Three N w0 q r h w) (k : Nat) (hk : k < 256) :
    (w.cell? ⟨N, k, none⟩ = some (.int .i64 (q.getD k 0)) ∧ w.frozen? ⟨N, k, none⟩ = false) ∧ (w.cell? ⟨N + 1, k, none⟩ = some (.int .i64 (r.getD k 0)) ∧ w.frozen? ⟨N + 1, k, none⟩ = false) ∧ (w.cell? ⟨N + 1 + 1, k, none⟩ = some (.bool (h.getD k false)) ∧ w.frozen? ⟨N + 1 + 1, k, none⟩ = false) :=
  ⟨ints_cells H.q k hk, ints_cells H.r k hk, bools_cells H.h k hk⟩
theorem Three.at_ {N : Nat} {w0 w ww : World} {q r : List Int} {h : List Bool} {A : Option Addr} {c : List Int} (H : Three N w0 q r h ww) (hr : (Kd.int .i64).C w A c.length c) (hb : Below w.heap.size w w0) (hN : w0.heap.size = N) : (Kd.int .i64).C ww A c.length c :=
  Kd.C_below hr (hb.trans (H.below.mono (by have := hb.size; omega)))
theorem at_cell {W : World} {ad : Addr} {c : List Int} (h : (Kd.int .i64).C W (some ad) c.length c) (k : Nat) (hk : k < c.length) : W.cell? (ad.add k) = some (.int .i64 (c.getD k 0)) := by
  obtain ⟨ad', e, hc⟩ := ints_get h k hk
  cases e; exact hc
theorem three_made (w : World) : Three w.heap.size w (List.replicate 256 0) (List.replicate 256 0) (List.replicate 256 false) (((w.alloc (.cells (madeCells #[.int .i64 0] 256) 3)).alloc (.cells (madeCells #[.int .i64 0] 256) 3)).alloc (.cells (madeCells #[.bool false] 256) 4)) := by
  have b1 : Below w.heap.size w (w.alloc (.cells (madeCells #[.int .i64 0] 256) 3)) := (Below.refl _ _).alloc (Nat.le_refl _) _
  have s1 : (w.alloc (.cells (madeCells #[.int .i64 0] 256) 3)).heap.size = w.heap.size + 1 := by simp
  have s2 : ((w.alloc (.cells (madeCells #[.int .i64 0] 256) 3)).alloc (.cells (madeCells #[.int .i64 0] 256) 3)).heap.size = w.heap.size + 2 := by simp
  refine ⟨Kd.R_alloc (Kd.R_alloc (made_rowK (enc := Value.int .i64) (h1 := fun _ => rfl) (0 : Int) 3 rfl 256 (by omega) w (fun b => b = w.heap.size) rfl w.heap.size (Nat.le_refl _)) _) _, Kd.R_alloc ?_ _, ?_, ((b1.alloc (by omega) _).alloc (by omega) _)⟩
  · have := made_rowK (enc := Value.int .i64) (h1 := fun _ => rfl) (0 : Int) 3 rfl 256 (by omega) (w.alloc (.cells (madeCells #[.int .i64 0] 256) 3)) (fun b => b = w.heap.size + 1) s1 w.heap.size (by omega)
    rw [s1] at this; exact this
  · have := made_rowK (enc := Value.bool) (h1 := fun _ => rfl) false 4 rfl 256 (by omega) ((w.alloc (.cells (madeCells #[.int .i64 0] 256) 3)).alloc (.cells (madeCells #[.int .i64 0] 256) 3)) (fun b => b = w.heap.size + 2) s2 w.heap.size (by omega)
    rw [s2] at this; exact this
/-- the rows behind the first k symbols -/
def qTo (c : List Int) (P n : Int) (k : Nat) : List Int := mapR (fun s => if s < k then q0F c P n s else 0)
def rTo (c : List Int) (P n : Int) (k : Nat) : List Int := mapR (fun s => if s < k then c.getD s 0 * P % n else 0)
def hTo (c : List Int) (P n : Int) (k : Nat) : List Bool := (List.range 256).map (fun s => if s < k then decide (c.getD s 0 * P / n = 0) else false)
theorem to_zero (c : List Int) (P n : Int) : qTo c P n 0 = List.replicate 256 0 ∧ rTo c P n 0 = List.replicate 256 0 ∧ hTo c P n 0 = List.replicate 256 false := by
  have e : ∀ {α : Type} (z : α) (f : Nat → α), (∀ s, f s = z) → (List.range 256).map f = List.replicate 256 z := fun z f h => by
    rw [show f = fun _ => z from funext h, List.map_const', List.length_range]
  exact ⟨e 0 (fun s => if s < 0 then q0F c P n s else 0) (fun s => by rw [if_neg (by omega)]), e 0 (fun s => if s < 0 then c.getD s 0 * P % n else 0) (fun s => by rw [if_neg (by omega)]), e false (fun s => if s < 0 then decide (c.getD s 0 * P / n = 0) else false) (fun s => by rw [if_neg (by omega)])⟩
theorem to_all (c : List Int) (P n : Int) : qTo c P n 256 = q0L c P n ∧ rTo c P n 256 = restL c P n ∧ hTo c P n 256 = hadL c P n :=
  ⟨mapR_congr (fun s h => by rw [if_pos h]), mapR_congr (fun s h => by rw [if_pos h]), List.map_congr_left (fun s h => by rw [if_pos (List.mem_range.1 h)])⟩
theorem mapR_to (f : Nat → Int) {k : Nat} (hk : k < 256) : (mapR (fun s => if s < k then f s else 0)).set k (f k) = mapR (fun s => if s < k + 1 then f s else 0) := by
  rw [mapR_set _ hk]
  refine mapR_congr (fun s _ => ?_)
  by_cases e : s = k
  · subst e; rw [if_pos rfl, if_pos (by omega)]
  · rw [if_neg e]
    by_cases e2 : s < k
    · rw [if_pos e2, if_pos (by omega)]
    · rw [if_neg e2, if_neg (by omega)]
theorem hTo_set (c : List Int) (P n : Int) {k : Nat} (_ : k < 256) : (hTo c P n k).set k (decide (c.getD k 0 * P / n = 0)) = hTo c P n (k + 1) := by
  unfold hTo
  apply List.ext_getElem
  · simp
  · intro i h1 h2
    rw [List.getElem_set]
    simp only [List.getElem_map, List.getElem_range]
    by_cases e : k = i
    · subst e; rw [if_pos rfl, if_pos (by omega)]
    · rw [if_neg e]
      by_cases e2 : i < k
      · rw [if_pos e2, if_pos (by omega)]
      · rw [if_neg e2, if_neg (by omega)]
theorem hTo_same (c : List Int) (P n : Int) {k : Nat} (h : c.getD k 0 * P / n ≠ 0) (hk : k < 256) : hTo c P n (k + 1) = hTo c P n k := by
  rw [← hTo_set c P n hk, decide_eq_false h]
  unfold hTo
  apply List.ext_getElem
  · simp
  · intro i h1 h2
    rw [List.getElem_set]
    split
    · rename_i e; subst e; simp
    · rfl
theorem set_set_same (q : List Int) (k : Nat) (x y : Int) : (q.set k x).set k y = q.set k y := by simp
theorem three_end {c : List Int} {k x n P m dq rm : Nat} (hk : k < 256) (hx : c.getD k 0 = x) (hm : m = x * P) (hd : dq = m / n) (hr : rm = m % n) :
    (dq = 0 → (((qTo c P n k).set k (dq : Int)).set k (min (x : Int) 1) = qTo c P n (k + 1) ∧ (hTo c P n k).set k true = hTo c P n (k + 1))) ∧ (dq ≠ 0 → ((qTo c P n k).set k (dq : Int) = qTo c P n (k + 1) ∧ hTo c P n k = hTo c P n (k + 1))) ∧ (rTo c P n k).set k (rm : Int) = rTo c P n (k + 1) := by
  have e1 : c.getD k 0 * (P : Int) / (n : Int) = dq := by rw [hx, hd, hm]; simp
  have e2 : c.getD k 0 * (P : Int) % (n : Int) = rm := by rw [hx, hr, hm]; simp
  refine ⟨fun hz => ⟨?_, ?_⟩, fun hz => ⟨?_, ?_⟩, ?_⟩
  · rw [set_set_same]
    have := mapR_to (q0F c P n) hk
    unfold q0F at this
    rw [e1, if_pos (by omega), hx] at this; exact this
  · have := hTo_set c P n hk
    rw [e1, decide_eq_true (by omega)] at this; exact this
  · have := mapR_to (q0F c P n) hk
    unfold q0F at this
    rw [e1, if_neg (by omega)] at this; exact this
  · exact (hTo_same c P n (by rw [e1]; omega) hk).symm
  · have := mapR_to (fun s => c.getD s 0 * (P : Int) % (n : Int)) hk
    rw [e2] at this; exact this
theorem rSum256 (A : Option Addr) (q : List Int) (w : World) (hr : (Kd.int .i64).C w A q.length q) (hl : q.length = 256) (hq : ∀ s, 0 ≤ q.getD s 0 ∧ q.getD s 0 ≤ 100000) : Calls Try.prog 89 #[.slice A 256 256] w (Ret (.int .i64 q.sum) w) := by
  have h := rSum_any A 256 q w hr (by omega) (fun x hx => by
    obtain ⟨s, hs, rfl⟩ := List.getElem_of_mem hx
    have := hq s
    rw [List.getD_eq_getElem?_getD, List.getElem?_eq_getElem hs] at this
    exact ⟨this.1, by have := this.2; simp only [Option.getD_some] at this; omega⟩) (by omega)
  rw [hl] at h; exact h
theorem rNeed256 (A B : Option Addr) (c : List Int) (had : List Bool) (w : World) (hr : (Kd.int .i64).C w A c.length c) (hb : Kd.bool.C w B had.length had) (hl : c.length = 256) (hh : had.length = 256) : Calls Try.prog 90 #[.slice A 256 256, .slice B 256 256] w (Ret (.int .i64 (needN c had 256)) w) := by
  have h := rNeed_any A 256 c w B 256 had hr (by omega) hb (by omega) hl hh
  rw [hl, hh] at h; exact h
theorem rRich256 (A B : Option Addr) (cp : Nat) (c q : List Int) (w : World) (hq : (Kd.int .i64).C w B q.length q) (hr : (Kd.int .i64).C w A c.length c) (hc : c.length ≤ cp) (hl : c.length = 256) (hh : q.length = 256) : Calls Try.prog 91 #[.slice B 256 256, .slice A c.length cp] w (Ret (.int .i64 (richN q c 256)) w) := by
  have h := rRich_any A cp c w B 256 q hq (by omega) hr hc hl hh
  rw [hh] at h; exact h
/-- who is asked is there -/
theorem need_ok {c : List Int} {r m : Nat} (h : Can c r) (hm : m + 1 ≤ giveM c (2 ^ r) c.sum) : ∃ t : Nat, needN (restL c (2 ^ r) c.sum) (giveIt (restL c (2 ^ r) c.sum) m (q0L c (2 ^ r) c.sum, hadL c (2 ^ r) c.sum)).2 256 = t ∧ t < 256 := by
  obtain ⟨h1, h2, h3, h4, h5, h6, h7⟩ := give_way h m (by omega)
  have hen := h.enough
  have hM : (m : Int) + 1 ≤ 2 ^ r - (q0L c (2 ^ r) c.sum).sum := by unfold giveM at hm; omega
  obtain ⟨s0, hs0, hf0⟩ := free_exists h2 (by omega)
  have hn0 := needN_some (restL c (2 ^ r) c.sum) _ hf0 256 hs0
  have hnl := needN_lt (restL c (2 ^ r) c.sum) (giveIt (restL c (2 ^ r) c.sum) m (q0L c (2 ^ r) c.sum, hadL c (2 ^ r) c.sum)).2 256
  exact ⟨_, (Int.toNat_of_nonneg hn0).symm, by omega⟩
def CountsPost (c : List Int) (r : Nat) (w : World) (e : Ending) (w' : World) : Prop := ∃ v, e = .returned (.tuple #[v, .int .i64 0]) ∧ (Kd.int .i64).R 3 w' w.heap.size (fun _ => True) v (normL c r) ∧ Below w.heap.size w w'
set_option maxRecDepth 100000 in
set_option maxHeartbeats 2000000 in
theorem rCounts_any (A : Option Addr) (cp : Nat) (c : List Int) (r : Nat) (w : World) (hr : (Kd.int .i64).C w A c.length c) (hcp : c.length ≤ cp) (h : Can c r) :
    Calls Try.prog 72 #[.slice A c.length cp, .int .i64 r] w (CountsPost c r w) := by
  have HR := Lib.hid hr
  have HC := Lib.hid h
  have hR : rightC c = true := rightC_iff.2 ⟨h.len, h.nonneg, h.le⟩
  have hT : totalC c = c.sum := by unfold totalC; rw [if_pos hR]
  have hM : manyC c ≤ 2 ^ r := by unfold manyC; rw [if_pos hR]; exact h.many
  obtain ⟨n, hn⟩ : ∃ n : Nat, c.sum = n := ⟨c.sum.toNat, by have := h.pos; omega⟩
  have HTot := Lib.hid (rTotal_any A cp c w hr hcp)
  rw [hT, hn] at HTot
  obtain ⟨P, hP⟩ : ∃ P : Nat, 2 ^ r = P := ⟨_, rfl⟩
  have hPb : 1 ≤ P ∧ P ≤ 4096 := by
    have := pow_le12 h.r12
    have e2 : (2 : Int) ^ r = ((2 ^ r : Nat) : Int) := by simp
    rw [e2, hP] at this; omega
  have HPow : Hid (∀ w, Calls Try.prog 80 #[.int .i64 r] w (Ret (.int .i64 (P : Int)) w)) := fun w => by rw [← hP]; exact rPower_any w r (by have := h.r12; omega)
  have HN : Hid (c.sum = n ∧ 2 ^ r = P ∧ manyC c ≤ P) := ⟨hn, hP, by omega⟩
  have hn0 : ((n : Int) == 0) = false := by have := h.pos; simp; omega
  have hn1 : 1 ≤ n ∧ n ≤ 1073741824 := by have := h.pos; have := h.le; omega
  have hr1 : decide ((r : Int) < 1) = false := decide_eq_false (by have := h.r1; omega)
  have hr2 : decide (12 < (r : Int)) = false := decide_eq_false (by have := h.r12; omega)
  have HCP : Hid (c.length ≤ cp ∧ c.length = 256) := ⟨hcp, h.len⟩
  clear hr h hR hT hM hn hP hcp
  have hmi : ∀ w : World, (Instr.makeSlice 42 (.int .i64 256) (.int .i64 256)).run Try.prog w = .ok (.slice (some ⟨w.heap.size, 0, none⟩) 256 256) (w.alloc (.cells (madeCells #[.int .i64 0] 256) 3)) := fun w => made_i64 256 (by omega) w
  have hmb : ∀ w : World, (Instr.makeSlice 31 (.int .i64 256) (.int .i64 256)).run Try.prog w = .ok (.slice (some ⟨w.heap.size, 0, none⟩) 256 256) (w.alloc (.cells (madeCells #[.bool false] 256) 4)) := fun w => made_bool 256 (by omega) w
  go_enter Try.func72, Try.ntmps72
  go_wp2_with fail
  refine HTot.out.mono ?_
  rintro e w1 ⟨rfl, hb1⟩
  have HB1 := Lib.hid hb1
  clear hb1
  go_wp2_with fail
  refine (HPow.out w1).mono ?_
  rintro e w2 ⟨rfl, hb2⟩
  have HB2 : Hid (Below w.heap.size w w2) := HB1.out.trans (hb2.mono HB1.out.size)
  clear hb2
  go_wp2_with fail
  refine (rMany_any A cp c w2 (Kd.C_below HR.out HB2.out) HCP.out.1 (by have := HCP.out.2; omega)).mono ?_
  rintro e w3 ⟨rfl, hb3⟩
  have HB3 : Hid (Below w.heap.size w w3) := HB2.out.trans (hb3.mono HB2.out.size)
  have hmp : decide (P < manyC c) = false := decide_eq_false (by have := HN.out.2.2; omega)
  clear hb3
  obtain ⟨N, hNs⟩ : ∃ N, N = w3.heap.size := ⟨_, rfl⟩
  have H3 := Lib.hid (three_made w3)
  rw [← hNs] at H3
  go_wp2_with fail
  rw [← hNs]
  obtain ⟨W, hW⟩ : ∃ W, W = ((w3.alloc (.cells (madeCells #[.int .i64 0] 256) 3)).alloc (.cells (madeCells #[.int .i64 0] 256) 3)).alloc (.cells (madeCells #[.bool false] 256) 4) := ⟨_, rfl⟩
  rw [← hW] at H3 ⊢
  have HNs := Lib.hid hNs
  clear hW hNs hmi hmb hmp
  go_loopw [11] (fun kv wr => ∃ (k : Nat), kv = .int .i64 k ∧ k ≤ 256 ∧ Hid (Three N w3 (qTo c P n k) (rTo c P n k) (hTo c P n k) wr)) (fun kv _ => 256 - (intOf kv).toNat)
  case atStart => exact ⟨0, rfl, by omega, by obtain ⟨a, b, d⟩ := to_zero c P n; show Three _ _ _ _ _ _; rw [a, b, d]; exact H3.out⟩
  case round =>
    obtain ⟨k, rfl, hk, H⟩ := hrel
    by_cases hlt : k < 256
    · have hC := Kd.C_below HR.out (HB3.out.trans (H.out.below.mono (by have := HB3.out.size; have := HNs.out; omega)))
      have hcl := HCP.out.2
      obtain ⟨ad, rfl, hcx⟩ := ints_get hC k (by omega)
      have hcg := HC.out.get k
      obtain ⟨x, hx⟩ : ∃ x : Nat, c.getD k 0 = x := ⟨(c.getD k 0).toNat, by omega⟩
      rw [hx] at hcx hcg
      have hkc : (k : Int) < (c.length : Int) := by omega
      obtain ⟨⟨q1, q2⟩, ⟨r1, r2⟩, ⟨b1, b2⟩⟩ := H.out.cells k (by omega)
      obtain ⟨m, hm⟩ : ∃ m : Nat, m = x * P := ⟨_, rfl⟩
      have hxn : x ≤ n := by have := HN.out.1; omega
      have hm42 : m ≤ 4398046511104 := by
        rw [hm]
        calc x * P ≤ 1073741824 * 4096 := Nat.mul_le_mul (by omega) (by omega)
          _ = 4398046511104 := by decide
      have hmI : (x : Int) * (P : Int) = (m : Int) := by rw [hm]; simp
      have hdq : (m : Int) / (n : Int) = ((m / n : Nat) : Int) := by simp
      have hrm : (m : Int) % (n : Int) = ((m % n : Nat) : Int) := by simp
      obtain ⟨dq, hdqe⟩ : ∃ dq, dq = m / n := ⟨_, rfl⟩
      obtain ⟨rm, hrme⟩ : ∃ rm, rm = m % n := ⟨_, rfl⟩
      rw [← hdqe] at hdq
      rw [← hrme] at hrm
      have hdb : dq ≤ 4398046511104 := by rw [hdqe]; exact Nat.le_trans (Nat.div_le_self _ _) hm42
      have hn00 : ¬ (n : Int) = 0 := by omega
      have HX := Lib.hid (And.intro hx (And.intro hm (And.intro hdqe hrme)))
      clear hx hm hdqe hrme hcl hC
      have Ha := Lib.hid (H.out.setq k (dq : Int))
      have Hb := Lib.hid (Ha.out.setr k (rm : Int))
      have hqe : ((qTo c P n k).set k (dq : Int)).getD k 0 = dq := by rw [getD_set _ _ _ _ (by unfold qTo; rw [mapR_len]; omega), if_pos rfl]
      obtain ⟨⟨q3, q4⟩, ⟨r3, r4⟩, ⟨b3, b4⟩⟩ := Ha.out.cells k (by omega)
      obtain ⟨⟨q5, q6⟩, ⟨r5, r6⟩, ⟨b5, b6⟩⟩ := Hb.out.cells k (by omega)
      have c3 := at_cell (Ha.out.at_ HR.out HB3.out HNs.out.symm) k (by omega)
      have c5 := at_cell (Hb.out.at_ HR.out HB3.out HNs.out.symm) k (by omega)
      rw [hqe] at q3 q5
      rw [HX.out.1] at c3 c5
      clear hqe
      by_cases hz : dq = 0
      · have hzb : ((dq : Int) == 0) = true := by rw [hz]; rfl
        have HZ := Lib.hid hz
        clear hz
        have Hc := Lib.hid (Hb.out.seth k true)
        obtain ⟨⟨q7, q8⟩, ⟨r7, r8⟩, ⟨b7, b8⟩⟩ := Hc.out.cells k (by omega)
        have c7 := at_cell (Hc.out.at_ HR.out HB3.out HNs.out.symm) k (by omega)
        rw [HX.out.1] at c7
        have hE := Lib.hid (Hc.out.setq k (min (x : Int) 1))
        go_wp2_with fail
        go_roundw
        case rel =>
          refine ⟨k + 1, by go_num, by omega, ?_⟩
          obtain ⟨h3, _, h5⟩ := three_end (n := n) hlt HX.out.1 HX.out.2.1 HX.out.2.2.1 HX.out.2.2.2
          obtain ⟨h3a, h3b⟩ := h3 HZ.out
          have := hE.out
          rw [h3a, h3b, h5] at this; exact this
        case measure => simp [intOf]; omega
      · have hzb : ((dq : Int) == 0) = false := by simp; omega
        have HZ := Lib.hid hz
        clear hz
        go_wp2_with fail
        go_roundw
        case rel =>
          refine ⟨k + 1, by go_num, by omega, ?_⟩
          obtain ⟨_, h4, h5⟩ := three_end (n := n) hlt HX.out.1 HX.out.2.1 HX.out.2.2.1 HX.out.2.2.2
          obtain ⟨h4a, h4b⟩ := h4 HZ.out
          have := Hb.out
          rw [h4a, h4b, h5] at this; exact this
        case measure => simp [intOf]; omega
    · obtain rfl : k = 256 := by omega
      have HE : Hid (Three N w3 (q0L c P n) (restL c P n) (hadL c P n) wr) := by
        obtain ⟨a, b, d⟩ := to_all c P n
        have := H.out
        rw [a, b, d] at this; exact this
      have HPP : Hid ((P : Int) = 2 ^ r ∧ (n : Int) = c.sum) := ⟨by rw [← HN.out.2.1]; simp, HN.out.1.symm⟩
      go_wp2_with fail
      obtain ⟨wo, hwo⟩ : ∃ wo : World, wo = wr := ⟨_, rfl⟩
      rw [← hwo] at HE ⊢
      clear hwo H
      obtain ⟨M, hM⟩ : ∃ M, M = giveM c (2 ^ r) c.sum := ⟨_, rfl⟩
      have HM := Lib.hid hM
      clear hM
      go_loopg [] M (fun kq wr => ∃ m, m + kq = M ∧ Hid (Three N w3 (giveIt (restL c P n) m (q0L c P n, hadL c P n)).1 (restL c P n) (giveIt (restL c P n) m (q0L c P n, hadL c P n)).2 wr))
      case atStart => exact ⟨0, by omega, HE.out⟩
      case round =>
        obtain ⟨m, hm, H⟩ := hrel
        have hw := give_way HC.out m (by rw [← HM.out]; omega)
        rw [← HPP.out.1, ← HPP.out.2] at hw
        obtain ⟨st, hst⟩ : ∃ st, st = giveIt (restL c P n) m (q0L c P n, hadL c P n) := ⟨_, rfl⟩
        rw [← hst] at hw H
        have HST := Lib.hid hst
        obtain ⟨g1, g2, g3, g4, g5, g6, g7⟩ := hw
        have hsz : N ≤ wr.heap.size := by have := (Kd.R_bound H.out.q).1 N rfl; omega
        have hgl : m ≤ 4096 := by
          have h0 : 0 ≤ (q0L c P n).sum := by
            rw [HPP.out.1, HPP.out.2]; exact sum_nonneg (fun x hx => by obtain ⟨v, hv, rfl⟩ := mapR_mem hx; exact (HC.out.q0 v).1)
          have : M ≤ 4096 := by rw [HM.out, ← HPP.out.1, ← HPP.out.2]; unfold giveM; omega
          omega
        have HG := Lib.hid (And.intro g1 (And.intro g2 (And.intro g3 (And.intro g5 hgl))))
        clear g1 g2 g3 g4 g5 g6 g7 hst hsz
        by_cases hlt : m < M
        · obtain ⟨t, ht, ht256⟩ := need_ok HC.out (m := m) (by rw [← HM.out]; omega)
          rw [← HPP.out.1, ← HPP.out.2, ← HST.out] at ht
          have hsl : decide (st.1.sum < (P : Int)) = true := decide_eq_true (by
            have e := HG.out.2.2.2.1
            have : (M : Int) = P - (q0L c P n).sum := by
              have h2 := HM.out
              rw [← HPP.out.1, ← HPP.out.2] at h2
              unfold giveM at h2; omega
            omega)
          have HT2 := Lib.hid ht
          clear ht
          go_wp2_with fail
          refine (rSum256 (some ⟨N, 0, none⟩) st.1 wr (Kd.R_reads' H.out.q).2.2 HG.out.1 (fun s => ⟨(HG.out.2.2.1 s).1, by have := (HG.out.2.2.1 s).2; have := HG.out.2.2.2.2; omega⟩)).mono ?_
          rintro e w4 ⟨rfl, hb4⟩
          have H4 := Lib.hid (H.out.later hb4)
          clear hb4
          go_wp2_with fail
          refine (rNeed256 (some ⟨N + 1, 0, none⟩) (some ⟨N + 2, 0, none⟩) (restL c P n) st.2 w4 (Kd.R_reads' H4.out.r).2.2 (Kd.R_reads' H4.out.h).2.2 (mapR_len _) HG.out.2.1).mono ?_
          rw [HT2.out]
          rintro e w5 ⟨rfl, hb5⟩
          have H5 := Lib.hid (H4.out.later hb5)
          clear hb5
          obtain ⟨⟨q3, q4⟩, ⟨r3, r4⟩, ⟨b3, b4⟩⟩ := H5.out.cells t ht256
          have H6 := Lib.hid (H5.out.seth t true)
          obtain ⟨⟨q5, q6⟩, ⟨r5, r6⟩, ⟨b5, b6⟩⟩ := H6.out.cells t ht256
          have htI : (t : Int) < 256 := by omega
          have hgt := HG.out.2.2.1 t
          obtain ⟨y, hy⟩ : ∃ y, y = st.1.getD t 0 := ⟨_, rfl⟩
          rw [← hy] at q3 q5 hgt
          have hgt2 : y ≤ 8192 := by have := HG.out.2.2.2.2; omega
          have HY := Lib.hid hy
          have H7 := Lib.hid (H6.out.setq t (y + 1))
          clear hy
          go_wp2_with fail
          go_roundg (gk - 1)
          case rel =>
            refine ⟨m + 1, by omega, ?_⟩
            show Three _ _ _ _ _ _
            simp only [giveIt]
            rw [← HST.out, HT2.out, Int.toNat_natCast, ← HY.out]
            exact H7.out
          case measure => omega
        · obtain rfl : m = M := by omega
          have hsl : decide (st.1.sum < (P : Int)) = false := decide_eq_false (by
            have e := HG.out.2.2.2.1
            have : (P : Int) - (q0L c P n).sum ≤ (m : Int) := by
              have h2 := HM.out
              rw [← HPP.out.1, ← HPP.out.2] at h2
              unfold giveM at h2; omega
            omega)
          go_wp2_with fail
          refine (rSum256 (some ⟨N, 0, none⟩) st.1 wr (Kd.R_reads' H.out.q).2.2 HG.out.1 (fun s => ⟨(HG.out.2.2.1 s).1, by have := (HG.out.2.2.1 s).2; have := HG.out.2.2.2.2; omega⟩)).mono ?_
          rintro e w4 ⟨rfl, hb4⟩
          have H4 := Lib.hid (H.out.later hb4)
          clear hb4
          go_wp2_with fail
          have HGE := give_end HC.out
          rw [← HPP.out.1, ← HPP.out.2, show giveM c (P : Int) (n : Int) = m by rw [HM.out, ← HPP.out.1, ← HPP.out.2], ← HST.out] at HGE
          have HWay := Lib.hid HGE
          clear HGE
          obtain ⟨M3, hM3⟩ : ∃ M3, M3 = (st.1.sum - (P : Int)).toNat := ⟨_, rfl⟩
          have HM3 := Lib.hid hM3
          obtain ⟨wp, hwp⟩ : ∃ wp : World, wp = w4 := ⟨_, rfl⟩
          rw [← hwp] at H4 ⊢
          clear hwp hM3 hsl
          go_loopg [] M3 (fun kq ws => ∃ j, j + kq = M3 ∧ Hid (Three N w3 (takeIt c j st.1) (restL c P n) st.2 ws))
          case atStart => exact ⟨0, by omega, H4.out⟩
          case round =>
            obtain ⟨j, hj, H⟩ := hrel
            have hway := take_way HC.out HWay.out.1 j (by rw [← HPP.out.1, ← HM3.out]; omega)
            obtain ⟨u, hu⟩ : ∃ u, u = takeIt c j st.1 := ⟨_, rfl⟩
            rw [← hu] at hway H
            have HU := Lib.hid hu
            have HW := Lib.hid hway
            have hbl := richN_lt u c 256
            obtain ⟨t, ht⟩ : ∃ t, t = richN u c 256 := ⟨_, rfl⟩
            rw [← ht] at hbl
            have HT3 := Lib.hid ht
            have ht256 : t < 256 := by omega
            clear hu hway ht hbl
            by_cases hlt : j < M3
            · have hsl : decide ((P : Int) < u.sum) = true := decide_eq_true (by have := HW.out.2; have := HM3.out; omega)
              go_wp2_with fail
              refine (rSum256 (some ⟨N, 0, none⟩) u wr (Kd.R_reads' H.out.q).2.2 HW.out.1.len HW.out.1.rng).mono ?_
              rintro e w5 ⟨rfl, hb5⟩
              have H5 := Lib.hid (H.out.later hb5)
              clear hb5
              go_wp2_with fail
              refine (rRich256 A (some ⟨N, 0, none⟩) cp c u w5 (Kd.R_reads' H5.out.q).2.2 (H5.out.at_ HR.out HB3.out HNs.out.symm) HCP.out.1 HCP.out.2 HW.out.1.len).mono ?_
              rw [← HT3.out]
              rintro e w6 ⟨rfl, hb6⟩
              have H6 := Lib.hid (H5.out.later hb6)
              clear hb6
              obtain ⟨⟨q3, q4⟩, _, _⟩ := H6.out.cells t ht256
              have htI : (t : Int) < 256 := by omega
              have hgt := HW.out.1.rng t
              obtain ⟨y, hy⟩ : ∃ y, y = u.getD t 0 := ⟨_, rfl⟩
              rw [← hy] at q3 hgt
              obtain ⟨hgt1, hgt2⟩ := hgt
              have HY := Lib.hid hy
              have H7 := Lib.hid (H6.out.setq t (y - 1))
              clear hy
              go_wp2_with fail
              go_roundg (gk - 1)
              case rel =>
                refine ⟨j + 1, by omega, ?_⟩
                show Three _ _ _ _ _ _
                simp only [takeIt]
                rw [← HU.out, ← HT3.out, ← HY.out]
                exact H7.out
              case measure => omega
            · obtain rfl : j = M3 := by omega
              have hsl : decide ((P : Int) < u.sum) = false := decide_eq_false (by have := HW.out.2; have := HM3.out; omega)
              go_wp2_with fail
              refine (rSum256 (some ⟨N, 0, none⟩) u wr (Kd.R_reads' H.out.q).2.2 HW.out.1.len HW.out.1.rng).mono ?_
              rintro e w5 ⟨rfl, hb5⟩
              have H5 := Lib.hid (H.out.later hb5)
              clear hb5
              go_wp2_with fail
              go_ret2
              have hnorm : u = normL c r := by
                rw [HU.out, HM3.out, HST.out]
                unfold normL
                simp only []
                rw [show (2 : Int) ^ r = P from HPP.out.1.symm, HPP.out.2.symm, show giveM c (P : Int) (n : Int) = m by rw [HM.out, ← HPP.out.1, ← HPP.out.2]]
              unfold CountsPost
              rw [← hnorm]
              exact ⟨_, rfl, Kd.R_mono (Kd.R_lower H5.out.q (by have := HB3.out.size; have := HNs.out; omega)) (fun _ _ => trivial), HB3.out.trans (H5.out.below.mono (by have := HB3.out.size; have := HNs.out; omega))⟩
end Go.Proofs.Ytfnobinenolhhaa
namespace Go.Proofs.Ytfnobinenolhhaa
open Go.RowKit Go.Proofs.YtfnobinenolhhaaW.PrintWords Go.Proofs.YtfnobinenolhhaaW.PrintLast Go.Proofs.YtfnobinenolhhaaW.PrintMore
theorem hist_sum (b : List Int) (hb : Bytes b) : (histL b).sum = b.length := by
  induction b with
  | nil =>
    unfold histL mapR
    have : ∀ l : List Nat, (l.map (fun (v : Nat) => (((([] : List Int).count (v : Int)) : Nat) : Int))).sum = 0 := by
      intro l; induction l with
      | nil => rfl
      | cons a l ih => rw [List.map_cons, List.sum_cons, ih]; simp
    exact this _
  | cons x l ih =>
    have hx := hb x (by simp)
    have ih2 := ih (fun y hy => hb y (by simp [hy]))
    obtain ⟨v, rfl⟩ : ∃ v : Nat, x = v := ⟨x.toNat, by omega⟩
    have e : histL ((v : Int) :: l) = (histL l).set v ((l.count (v : Int) : Int) + 1) := by
      unfold histL
      rw [mapR_set _ (by omega)]
      refine mapR_congr (fun u _ => ?_)
      rw [List.count_cons]
      by_cases e : u = v
      · subst e; rw [if_pos rfl]; simp
      · rw [if_neg e]
        have : ¬ (v : Int) = (u : Int) := by omega
        simp [this]
    rw [e, sum_set _ _ _ (by unfold histL; rw [mapR_len]; omega), histL_get _ (by omega), ih2, List.length_cons]
    omega
theorem hist_pos (b : List Int) {s : Nat} (hs : s < 256) : 0 < (histL b).getD s 0 ↔ (s : Int) ∈ b := by
  rw [histL_get _ hs, ← List.count_pos_iff]; omega
theorem ceil_ok (m : Nat) (h : m ≤ 256) : ceilI m ≤ 8 ∧ m ≤ 2 ^ ceilI m := by
  unfold ceilI widthI
  rcases Nat.lt_or_ge m 2 with h2 | h2
  · rw [show ((m : Int) - 1).toNat = 0 by omega]
    exact ⟨by decide, by have : Lib.bitLen 0 = 0 := by decide
                         rw [this]; omega⟩
  · obtain ⟨y, hy⟩ : ∃ y, y = m - 1 := ⟨_, rfl⟩
    rw [show ((m : Int) - 1).toNat = y by omega]
    obtain ⟨a, b, c⟩ := bitLen_pow y (by omega) (by omega)
    have := Lib.bitLen_le8' (y : Int) (by omega) (by omega)
    rw [Int.toNat_natCast] at this
    exact ⟨this, by omega⟩
theorem pick_ok (n m : Nat) (most : Nat) (h : m ≤ 256) (h8 : 8 ≤ most) (h12 : most ≤ 12) : ∃ r : Nat, pickI n m most = r ∧ 5 ≤ r ∧ r ≤ most ∧ m ≤ 2 ^ r := by
  obtain ⟨c1, c2⟩ := ceil_ok m h
  have hr : 5 ≤ pickI n m most ∧ pickI n m most ≤ most ∧ (ceilI m : Int) ≤ pickI n m most := by
    unfold pickI mx mn
    split <;> (split <;> (split <;> omega))
  refine ⟨(pickI n m most).toNat, by omega, by omega, by omega, ?_⟩
  have : 2 ^ ceilI m ≤ 2 ^ (pickI n m most).toNat := Nat.pow_le_pow_right (by omega) (by omega)
  omega
theorem manyC_of {c : List Int} (h : rightC c = true) : manyC c = c.countP (fun x => decide (0 < x)) := by unfold manyC; rw [if_pos h]
theorem hist_right (b : List Int) (hb : Bytes b) (hl : b.length ≤ 1000000) : rightC (histL b) = true :=
  rightC_iff.2 ⟨mapR_len _, fun x hx => by obtain ⟨v, _, rfl⟩ := mapR_mem hx; omega, by rw [hist_sum b hb]; omega⟩
theorem hist_can {b : List Int} {r : Nat} (hb : Bytes b) (hl : b.length ≤ 1000000) (h0 : 0 < b.length) (h1 : 1 ≤ r) (h12 : r ≤ 12) (hm : manyC (histL b) ≤ 2 ^ r) : Can (histL b) r :=
  ⟨mapR_len _, fun x hx => by obtain ⟨v, _, rfl⟩ := mapR_mem hx; omega, by rw [hist_sum b hb]; omega, by rw [hist_sum b hb]; omega, h1, h12, by rw [← manyC_of (hist_right b hb hl)]; exact hm⟩
/-- the log and the list of all bytes -/
def zeroR (b : List Int) : Nat := (pickI b.length (manyC (histL b)) 11).toNat
def zeroQ (b : List Int) : List Int := normL (histL b) (zeroR b)
theorem zeroR_ok (b : List Int) : pickI b.length (manyC (histL b)) 11 = (zeroR b : Int) ∧ 5 ≤ zeroR b ∧ zeroR b ≤ 11 ∧ manyC (histL b) ≤ 2 ^ zeroR b := by
  obtain ⟨r, h1, h2, h3, h4⟩ := pick_ok b.length (manyC (histL b)) 11 (manyC_le _) (by omega) (by omega)
  have e : zeroR b = r := by unfold zeroR; rw [show ((11 : Nat) : Int) = 11 from rfl] at h1; rw [h1]; simp
  rw [e]; exact ⟨h1, h2, h3, h4⟩
theorem bad_not {lg : Int} {q : List Int} (h : logC q ≠ 0) (h2 : (logC q : Int) = lg) : badQ lg q = false := by
  unfold badQ; exact decide_eq_false (fun x => x.2 ⟨h, h2⟩)
theorem bad_nil (lg : Int) : badQ lg [] = false := by unfold badQ; exact decide_eq_false (fun x => by simp at x)
theorem zero_can {b : List Int} (hb : Bytes b) (hl : b.length ≤ 1000000) (h0 : 0 < b.length) : Can (histL b) (zeroR b) := by
  have := zeroR_ok b
  exact hist_can hb hl h0 (by omega) (by omega) this.2.2.2
theorem zero_right {b : List Int} (hb : Bytes b) (hl : b.length ≤ 1000000) (h0 : 0 < b.length) : rightM (zeroR b) true [zeroQ b] = true := by
  have hc := zero_can hb hl h0
  have hz := zeroR_ok b
  have hlog := norm_log hc
  have hlen := (norm_ok hc).1.len
  unfold rightM
  rw [if_neg (by omega), if_neg (by
    simp only [List.any_cons, List.any_nil, Bool.or_false]
    rw [bad_not (q := zeroQ b) (by unfold zeroQ; omega) (by unfold zeroQ; rw [hlog])]; decide)]
  rw [if_pos rfl, decide_eq_true_eq]
  have h0 : 0 < (normL (histL b) (zeroR b)).length := by omega
  refine ⟨List.length_singleton, ?_⟩
  rw [List.getD_cons_zero]; unfold zeroQ; exact h0
theorem zero_fits {b : List Int} (hb : Bytes b) (hl : b.length ≤ 1000000) (h0 : 0 < b.length) : fitsM (zeroR b) true [zeroQ b] b = true := by
  have hc := zero_can hb hl h0
  have hn := norm_ok hc
  unfold fitsM
  rw [zero_right hb hl h0, Bool.true_and, List.all_eq_true]
  intro i hi
  have hi' := List.mem_range.1 hi
  have hg := hb.get i
  obtain ⟨x, hx⟩ : ∃ x : Nat, b.getD i 0 = x := ⟨(b.getD i 0).toNat, by omega⟩
  unfold fitAt
  rw [decide_eq_true_eq]
  have e0 : ([zeroQ b].getD (listI true (ctxI b i)) []) = normL (histL b) (zeroR b) := by unfold listI; rw [if_pos rfl, List.getD_cons_zero]; rfl
  rw [e0]
  refine ⟨by have := hn.1.len; omega, ?_⟩
  rw [hx, Int.toNat_natCast]
  have h1 := (hn.2.2 x).2 ((hist_pos b (by omega)).2 (by rw [← hx]; exact getD_mem hi'))
  omega
/-- the log and the lists by contexts -/
def firstR (b : List Int) : Nat := (pickI b.length (widN b 256) 9).toNat
def firstQ (b : List Int) (c : Nat) : List Int := if 0 < (pickedL b (c : Int)).length then normL (histL (pickedL b (c : Int))) (firstR b) else []
def firstL (b : List Int) : List (List Int) := (List.range 256).map (firstQ b)
theorem firstR_ok (b : List Int) : pickI b.length (widN b 256) 9 = (firstR b : Int) ∧ 5 ≤ firstR b ∧ firstR b ≤ 9 ∧ widN b 256 ≤ 2 ^ firstR b := by
  obtain ⟨r, h1, h2, h3, h4⟩ := pick_ok b.length (widN b 256) 9 (widN_le b _) (by omega) (by omega)
  have e : firstR b = r := by unfold firstR; rw [show ((9 : Nat) : Int) = 9 from rfl] at h1; rw [h1]; simp
  rw [e]; exact ⟨h1, h2, h3, h4⟩
theorem widN_ge (b : List Int) : ∀ k c, c < k → manyC (histL (pickedL b (c : Nat))) ≤ widN b k
  | 0, c, h => by omega
  | k + 1, c, h => by
    simp only [widN]
    by_cases e : c = k
    · subst e; omega
    · have := widN_ge b k c (by omega); omega
theorem picked_len (b : List Int) (c : Int) : (pickedL b c).length ≤ b.length := pkL_len b c b.length
theorem first_can {b : List Int} (hb : Bytes b) (hl : b.length ≤ 1000000) {c : Nat} (hc : c < 256) (h0 : 0 < (pickedL b (c : Int)).length) : Can (histL (pickedL b (c : Int))) (firstR b) := by
  have h1 := firstR_ok b
  have h2 := widN_ge b 256 c hc
  have h3 := picked_len b (c : Int)
  exact hist_can (pkL_bytes hb _ _) (by omega) h0 (by omega) (by omega) (by omega)
theorem firstL_len (b : List Int) : (firstL b).length = 256 := by simp [firstL]
theorem firstL_get (b : List Int) {c : Nat} (h : c < 256) : (firstL b).getD c [] = firstQ b c := by
  unfold firstL; rw [List.getD_eq_getElem?_getD, List.getElem?_map, List.getElem?_range h]; rfl
theorem first_right {b : List Int} (hb : Bytes b) (hl : b.length ≤ 1000000) : rightM (firstR b) false (firstL b) = true := by
  have hz := firstR_ok b
  unfold rightM
  rw [if_neg (by omega), if_neg]
  · rw [if_neg (by decide), decide_eq_true_eq]; exact firstL_len b
  · rw [Bool.not_eq_true, List.any_eq_false]
    intro q hq
    unfold firstL at hq
    obtain ⟨c, hc, rfl⟩ := List.mem_map.1 hq
    unfold firstQ
    split
    · rename_i h0
      have hlog := norm_log (first_can hb hl (List.mem_range.1 hc) h0)
      rw [bad_not (by omega) (by rw [hlog])]; decide
    · rw [bad_nil]; decide
theorem first_fits {b : List Int} (hb : Bytes b) (hl : b.length ≤ 1000000) : fitsM (firstR b) false (firstL b) b = true := by
  unfold fitsM
  rw [first_right hb hl, Bool.true_and, List.all_eq_true]
  intro i hi
  have hi' := List.mem_range.1 hi
  have hg := hb.get i
  have hcr := ctx_range hb i hi'
  obtain ⟨x, hx⟩ : ∃ x : Nat, b.getD i 0 = x := ⟨(b.getD i 0).toNat, by omega⟩
  obtain ⟨c, hc⟩ : ∃ c : Nat, ctxI b i = c := ⟨(ctxI b i).toNat, by omega⟩
  have hmem : b.getD i 0 ∈ pickedL b (c : Int) := by
    unfold pickedL pkL
    exact List.mem_map.2 ⟨i, List.mem_filter.2 ⟨hi, by rw [decide_eq_true_eq]; exact hc⟩, rfl⟩
  have hpos : 0 < (pickedL b (c : Int)).length := List.length_pos_of_mem hmem
  have hcan := first_can hb hl (c := c) (by omega) hpos
  have hn := norm_ok hcan
  have e : (firstL b).getD (listI false (ctxI b i)) [] = normL (histL (pickedL b (c : Int))) (firstR b) := by
    rw [hc]
    show (firstL b).getD ((c : Int)).toNat [] = _
    rw [Int.toNat_natCast, firstL_get b (by omega)]
    unfold firstQ; rw [if_pos hpos]
  unfold fitAt
  rw [decide_eq_true_eq, e]
  refine ⟨by have := hn.1.len; omega, ?_⟩
  rw [hx, Int.toNat_natCast]
  have h1 := (hn.2.2 x).2 ((hist_pos _ (by omega)).2 (by rw [← hx]; exact hmem))
  omega
end Go.Proofs.Ytfnobinenolhhaa
namespace Go.Proofs.Ytfnobinenolhhaa
open Go.RowKit Go.IntWalk Go.Proofs.YtfnobinenolhhaaW.PrintWords
/-- a model that is made -/
def MadeM (lg : Int) (one : Bool) (qs : List (List Int)) (w : World) (e : Ending) (w' : World) : Prop := ∃ v, e = .returned (.agg #[.int .i64 lg, .bool one, v]) ∧ kq.R 42 w' w.heap.size (fun _ => True) v qs ∧ Below w.heap.size w w'
theorem cell3 {w : World} {mb : Nat} {a b c : Value} {t : Nat} (h : w.heap[mb]? = some (.cells #[a, b, c] t (0, 0))) : (w.cell? ⟨mb, 0, none⟩ = some a ∧ w.cell? ⟨mb, 1, none⟩ = some b ∧ w.cell? ⟨mb, 2, none⟩ = some c) ∧ (w.frozen? ⟨mb, 0, none⟩ = false ∧ w.frozen? ⟨mb, 1, none⟩ = false ∧ w.frozen? ⟨mb, 2, none⟩ = false) :=
  ⟨⟨(blk_cell h 0).trans rfl, (blk_cell h 1).trans rfl, (blk_cell h 2).trans rfl⟩, blk_frozen h 0, blk_frozen h 1, blk_frozen h 2⟩
theorem sizeModel : (Try.prog.info? 24).map (·.size) = some 3 := by kernel_rfl
/-- a row of one list -/
theorem kq_one {w : World} {base : Nat} {v : Value} {q : List Int} (h : (Kd.int .i64).R 3 w base (fun _ => True) v q) (hb : base ≤ w.heap.size) : kq.R 42 (w.alloc (.cells #[v] 42)) base (fun k => base ≤ k) (.slice (some ⟨w.heap.size, 0, none⟩) 1 1) [q] := by
  have hne : ∀ k, v.ownBlock = some k → base ≤ k ∧ k < w.heap.size := fun k hk => ((Kd.R_bound h).1 k hk).2.imp id (fun x => x.1)
  refine ⟨fun k hk => by cases hk; exact hb, [v], ⟨rfl, .inr ⟨w.heap.size, 1, #[v], rfl, hb, blk_new w _, Nat.le_refl _, by unfold maxLen; omega, rfl, rfl⟩⟩, rfl, fun j p hj => ?_⟩
  have hj0 : j = 0 := by
    rcases Nat.eq_zero_or_pos j with e | e
    · exact e
    · rw [List.getElem?_eq_none (by simp; omega)] at hj; cases hj
  subst hj0
  cases hj
  refine ⟨v, rfl, Kd.R_alloc (Kd.R_mono (Kd.R_tight rfl h) (fun k hk => ⟨(hne k hk.symm).1, fun e => ?_⟩)) _⟩
  have := (hne k hk.symm).2
  have h2 : k = w.heap.size := Option.some.inj e
  omega
theorem zero_model {w w4 w5 : World} {Aq : Option Addr} {cq : Nat} {q : List Int} (hb : Below w.heap.size w w5) (h4 : w.heap.size < w4.heap.size) (h45 : w4.heap.size ≤ w5.heap.size) (hk : w5.heap[w.heap.size]? = some (.cells #[.int .i64 0, .bool false, .slice none 0 0] 24 (0, 0))) (hq : (Kd.int .i64).R 3 w5 w4.heap.size (fun _ => True) (.slice Aq q.length cq) q) :
    ((w5.alloc (.cells #[.slice Aq q.length cq] 42)).cell? ⟨w.heap.size, 0, none⟩ = some (.int .i64 0) ∧ (w5.alloc (.cells #[.slice Aq q.length cq] 42)).cell? ⟨w.heap.size, 1, none⟩ = some (.bool false) ∧ (w5.alloc (.cells #[.slice Aq q.length cq] 42)).cell? ⟨w.heap.size, 2, none⟩ = some (.slice none 0 0)) ∧
    ((w5.alloc (.cells #[.slice Aq q.length cq] 42)).frozen? ⟨w.heap.size, 0, none⟩ = false ∧ (w5.alloc (.cells #[.slice Aq q.length cq] 42)).frozen? ⟨w.heap.size, 1, none⟩ = false ∧ (w5.alloc (.cells #[.slice Aq q.length cq] 42)).frozen? ⟨w.heap.size, 2, none⟩ = false) ∧
    ∀ r : Nat, ((((w5.alloc (.cells #[.slice Aq q.length cq] 42)).setCell ⟨w.heap.size, 0, none⟩ (.int .i64 r)).setCell ⟨w.heap.size, 1, none⟩ (.bool true)).setCell ⟨w.heap.size, 2, none⟩ (.slice (some ⟨w5.heap.size, 0, none⟩) 1 1)).heap[w.heap.size]? = some (.cells #[.int .i64 r, .bool true, .slice (some ⟨w5.heap.size, 0, none⟩) 1 1] 24 (0, 0)) ∧ MadeM r true [q] w (.returned (.agg #[.int .i64 r, .bool true, .slice (some ⟨w5.heap.size, 0, none⟩) 1 1])) ((((w5.alloc (.cells #[.slice Aq q.length cq] 42)).setCell ⟨w.heap.size, 0, none⟩ (.int .i64 r)).setCell ⟨w.heap.size, 1, none⟩ (.bool true)).setCell ⟨w.heap.size, 2, none⟩ (.slice (some ⟨w5.heap.size, 0, none⟩) 1 1)) := by
  have hk6 := blk_alloc hk (.cells #[.slice Aq q.length cq] 42)
  have h5 := hb.size
  obtain ⟨a, b⟩ := cell3 hk6
  refine ⟨a, b, fun r => ⟨?_, _, rfl, ?_, (((hb.alloc h5 _).setCell (Nat.le_refl _) _).setCell (Nat.le_refl _) _).setCell (Nat.le_refl _) _⟩⟩
  · rw [blk_set (blk_set (blk_set hk6 0 _) 1 _) 2]; rfl
  · have h1 : kq.R 42 (w5.alloc (.cells #[.slice Aq q.length cq] 42)) w.heap.size (fun b => b ≠ w.heap.size) (.slice (some ⟨w5.heap.size, 0, none⟩) 1 1) [q] :=
      Kd.R_mono (Kd.R_lower (kq_one hq h45) (Nat.le_of_lt h4)) (fun k hk => by omega)
    exact Kd.R_mono (Kd.R_far (p := ⟨w.heap.size, 2, none⟩) (Kd.R_far (p := ⟨w.heap.size, 1, none⟩) (Kd.R_far (p := ⟨w.heap.size, 0, none⟩) h1 (fun k hk => hk) _) (fun k hk => hk) _) (fun k hk => hk) _) (fun _ _ => trivial)
set_option maxRecDepth 100000 in
set_option maxHeartbeats 1000000 in
theorem rZero_any (A : Option Addr) (cp : Nat) (b : List Int) (w : World) (hr : (Kd.int .u8).C w A b.length b) (hc : b.length ≤ cp) (hb : Bytes b) (hl : b.length ≤ 1000000) (h0 : 0 < b.length) :
    Calls Try.prog 42 #[.slice A b.length cp] w (MadeM (zeroR b) true [zeroQ b] w) := by
  obtain ⟨W1, hW1⟩ : ∃ W1, W1 = w.alloc (.cells #[.int .i64 0, .bool false, .slice none 0 0] 24) := ⟨_, rfl⟩
  have hb1 : Below w.heap.size w W1 := by rw [hW1]; exact (Below.refl w.heap.size w).alloc (Nat.le_refl _) _
  have hk1 : W1.heap[w.heap.size]? = some (.cells #[.int .i64 0, .bool false, .slice none 0 0] 24 (0, 0)) := by rw [hW1]; exact blk_new _ _
  have HB1 := Lib.hid hb1
  have HK1 := Lib.hid hk1
  have HR := Lib.hid hr
  have HX := Lib.hid (And.intro hc (And.intro hb (And.intro hl h0)))
  clear hb1 hk1 hr hc hb hl h0
  go_enter Try.func42, Try.ntmps42
  go_wp2_with fail
  rw [← hW1]
  clear hW1
  refine (rOf_any A cp b W1 (Kd.C_below HR.out HB1.out) HX.out.1 HX.out.2.1 HX.out.2.2.1).mono ?_
  rintro e w2 ⟨v, rfl, hv, hb2⟩
  obtain ⟨Ah, ch, rfl⟩ := Kd.R_slice hv
  have HV := Lib.hid (Kd.R_reads' hv).2
  have HB2 : Hid (Below w.heap.size w w2) := HB1.out.trans (hb2.mono HB1.out.size)
  have HK2 := Lib.hid (blk_below HK1.out hb2)
  clear hv hb2
  go_wp2_with fail
  refine (rMany_any Ah ch (histL b) w2 HV.out.2 HV.out.1 (by unfold histL; rw [mapR_len]; omega)).mono ?_
  rintro e w3 ⟨rfl, hb3⟩
  have HB3 : Hid (Below w.heap.size w w3) := HB2.out.trans (hb3.mono HB2.out.size)
  have HK3 := Lib.hid (blk_below HK2.out hb3)
  have HV3 : Hid ((Kd.int .i64).C w3 Ah (histL b).length (histL b)) := Kd.C_below HV.out.2 hb3
  clear hb3
  go_wp2_with fail
  refine (rPick_any b.length (manyC (histL b)) 11 w3 (by have := HX.out.2.2.1; omega) (by have := manyC_le (histL b); omega)).mono ?_
  rw [(zeroR_ok b).1]
  rintro e w4 ⟨rfl, hb4⟩
  have HB4 : Hid (Below w.heap.size w w4) := HB3.out.trans (hb4.mono HB3.out.size)
  have HK4 := Lib.hid (blk_below HK3.out hb4)
  have HV4 : Hid ((Kd.int .i64).C w4 Ah (histL b).length (histL b)) := Kd.C_below HV3.out hb4
  clear hb4
  go_wp2_with fail
  refine (rCounts_any Ah ch (histL b) (zeroR b) w4 HV4.out HV.out.1 (zero_can HX.out.2.1 HX.out.2.2.1 HX.out.2.2.2)).mono ?_
  rintro e w5 ⟨vq, rfl, hq, hb5⟩
  have HB5 : Hid (Below w.heap.size w w5) := HB4.out.trans (hb5.mono HB4.out.size)
  have HK5 := Lib.hid (blk_below HK4.out hb5)
  have H45 := Lib.hid hb5.size
  have HQ : Hid ((Kd.int .i64).R 3 w5 w4.heap.size (fun _ => True) vq (zeroQ b)) := hq
  clear hb5 hq
  obtain ⟨Aq, cq, rfl⟩ := Kd.R_slice HQ.out
  have HF := Lib.hid (zero_model HB5.out (blk_lt HK4.out) H45.out HK5.out HQ.out)
  obtain ⟨⟨m0, m1, m2⟩, ⟨f0, f1, f2⟩, HFE⟩ := HF.out
  have HE := Lib.hid (HFE (zeroR b))
  clear HFE
  go_wp2_with fail
  refine bodyPost_ret ?_ rfl HE.out.2
  exact results_cell_row (fn := Try.f42) (p := 2) (ty := 24) rfl _ _ _ _ _ _ _ rfl HE.out.1 Try.underlying24 rfl sizeModel
end Go.Proofs.Ytfnobinenolhhaa
namespace Go.Proofs.Ytfnobinenolhhaa
open Go.RowKit Go.IntWalk Go.Proofs.YtfnobinenolhhaaW.PrintWords
theorem infoInts : (Try.prog.info? 42).map (fun i => (i.zero, i.size, i.bytes)) = some (some (.slice none 0 0), 1, 24) := by kernel_rfl
theorem made_ints (n : Nat) (hn : n ≤ 1000000) (w : World) : (Instr.makeSlice 22 (.int .i64 n) (.int .i64 n)).run Try.prog w = .ok (.slice (some ⟨w.heap.size, 0, none⟩) n n) (w.alloc (.cells (madeCells #[.slice none 0 0] n) 42)) := by
  obtain ⟨i0, hi, hzz⟩ := Option.map_eq_some_iff.1 infoInts
  simp only [Prod.mk.injEq] at hzz
  obtain ⟨hz0, hz1, hz2⟩ := hzz
  have hr := run_make (P := Try.prog) w 22 42 i0 (.slice none 0 0) Try.underlying22 hi hz0 .i64 .i64 (n : Int) (n : Int) (by omega) (by omega) (by rw [hz2]; omega) (by omega)
  rw [hz1] at hr
  simpa [Value.cells] using hr
theorem below_al {w w' : World} (h : Below w.heap.size w w') (o : Obj) : Below w.heap.size w (w'.alloc o) := h.alloc h.size o
theorem below_dr {w w' : World} (h : Below w.heap.size w w') : Below w.heap.size w w'.drew := h.drew
theorem below_tr {w w1 w2 : World} (h : Below w.heap.size w w1) (k : Below w1.heap.size w1 w2) : Below w.heap.size w w2 := h.trans (k.mono h.size)
theorem below_ne2 {w w1 w2 : World} (h : Below w.heap.size w w1) (k : Below w1.heap.size w1 w2) : Below w.heap.size w w2 := h.trans (k.mono h.size)
theorem below_st {w w' : World} (h : Below w.heap.size w w') {k o : Nat} (hk : w.heap.size ≤ k) (a : Value) : Below w.heap.size w (w'.setCell ⟨k, o, none⟩ a) := h.setCell hk a
theorem kq_madeN (n : Nat) (hn : n ≤ 1000000) (W : World) (mb base : Nat) (hne : W.heap.size ≠ mb) (hb : base ≤ W.heap.size) : kq.R 42 (W.alloc (.cells (madeCells #[.slice none 0 0] n) 42)) base (fun k => k ≠ mb) (.slice (some ⟨W.heap.size, 0, none⟩) n n) (List.replicate n []) := by
  have hr := Kd.reps_made (R := kq.M (W.alloc (.cells (madeCells #[.slice none 0 0] n) 42)) base (fun k => k ≠ mb ∧ some k ≠ (Value.slice (some ⟨W.heap.size, 0, none⟩) n n).ownBlock)) (z := .slice none 0 0) (size := 1) (z0 := ([] : List Int)) rfl Nat.one_pos ⟨.slice none 0 0, rfl, Kd.R_nil _ _ _ _ _⟩ n
  have e : (Value.slice none 0 0).cells = #[.slice none 0 0] := rfl
  rw [e, Nat.mul_one] at hr
  refine ⟨fun k hk => by cases hk; exact hne, _, ⟨?_, .inr ⟨W.heap.size, n, madeCells #[.slice none 0 0] n, by simp, hb, blk_new W _, by simp, by unfold maxLen; omega, ?_, ?_⟩⟩, hr⟩
  · simp [size_madeCells]; exact (Nat.mul_one n).symm
  · rw [size_madeCells]; exact (Nat.mul_one n).symm
  · rw [List.length_replicate]; exact List.take_of_length_le (by simp [size_madeCells]; exact Nat.le_of_eq (Nat.mul_one n).symm)
theorem kq_made (W : World) (mb base : Nat) (hne : W.heap.size ≠ mb) (hb : base ≤ W.heap.size) : kq.R 42 (W.alloc (.cells (madeCells #[.slice none 0 0] 256) 42)) base (fun k => k ≠ mb) (.slice (some ⟨W.heap.size, 0, none⟩) 256 256) (List.replicate 256 []) := kq_madeN 256 (by omega) W mb base hne hb
theorem kq_made1 (W : World) (o : Obj) (mb base : Nat) (hne : W.heap.size + 1 ≠ mb) (hb : base ≤ W.heap.size + 1) : kq.R 42 ((W.alloc o).alloc (.cells (madeCells #[.slice none 0 0] 256) 42)) base (fun k => k ≠ mb) (.slice (some ⟨W.heap.size + 1, 0, none⟩) 256 256) (List.replicate 256 []) := by
  have e : (W.alloc o).heap.size = W.heap.size + 1 := by simp
  have := kq_made (W.alloc o) mb base (by rw [e]; exact hne) (by rw [e]; exact hb)
  rw [e] at this; exact this
theorem kq_made3 (W : World) (m mb base : Nat) (x y z : Value) (hne : W.heap.size ≠ mb) (hb : base ≤ W.heap.size) : kq.R 42 ((((W.setCell ⟨m, 0, none⟩ x).setCell ⟨m, 1, none⟩ y).setCell ⟨m, 2, none⟩ z).alloc (.cells (madeCells #[.slice none 0 0] 256) 42)) base (fun k => k ≠ mb) (.slice (some ⟨W.heap.size, 0, none⟩) 256 256) (List.replicate 256 []) := by
  have e : (((W.setCell ⟨m, 0, none⟩ x).setCell ⟨m, 1, none⟩ y).setCell ⟨m, 2, none⟩ z).heap.size = W.heap.size := by simp [World.setCell]
  have := kq_made (((W.setCell ⟨m, 0, none⟩ x).setCell ⟨m, 1, none⟩ y).setCell ⟨m, 2, none⟩ z) mb base (by rw [e]; exact hne) (by rw [e]; exact hb)
  rw [e] at this; exact this
theorem blk_new1 (W : World) (a o : Obj) : ((W.alloc a).alloc o).heap[W.heap.size + 1]? = some o := by
  have := blk_new (W.alloc a) o
  rw [show (W.alloc a).heap.size = W.heap.size + 1 by simp] at this; exact this
theorem blk_set3 {w : World} {mb : Nat} {t : Nat} {a b c : Value} (h : w.heap[mb]? = some (.cells #[a, b, c] t (0, 0))) (x y z : Value) : (((w.setCell ⟨mb, 0, none⟩ x).setCell ⟨mb, 1, none⟩ y).setCell ⟨mb, 2, none⟩ z).heap[mb]? = some (.cells #[x, y, z] t (0, 0)) := by
  rw [blk_set (blk_set (blk_set h 0 _) 1 _) 2]; rfl
theorem R_far3 {α : Type} {d : Kd α} {e : Nat} {w : World} {base mb : Nat} {v : Value} {xs : List α} (h : d.R e w base (fun k => k ≠ mb) v xs) (x y z : Value) : d.R e (((w.setCell ⟨mb, 0, none⟩ x).setCell ⟨mb, 1, none⟩ y).setCell ⟨mb, 2, none⟩ z) base (fun k => k ≠ mb) v xs :=
  Kd.R_far (p := ⟨mb, 2, none⟩) (Kd.R_far (p := ⟨mb, 1, none⟩) (Kd.R_far (p := ⟨mb, 0, none⟩) h (fun _ hk => hk) x) (fun _ hk => hk) y) (fun _ hk => hk) z
theorem blk_dr {w : World} {g : Nat} {o : Obj} (h : w.heap[g]? = some o) : w.drew.heap[g]? = some o := h
/-- a list is put into a row of lists -/
theorem kq_put {e : TypeId} {W : World} {base g n cap : Nat} {ok okp : Nat → Prop} {xs : List (List Int)} {v : Value} {x : List Int} (h : kq.R e W base ok (.slice (some ⟨g, 0, none⟩) n cap) xs) (i : Nat) (hi : i < n) (hq : (Kd.int .i64).R 3 W base okp v x) (hokp : ∀ k, okp k → ok k ∧ k ≠ g) :
    kq.R e (W.setCell ⟨g, i, none⟩ v) base ok (.slice (some ⟨g, 0, none⟩) n cap) (xs.set i x) := by
  obtain ⟨c, hcl, _, hcc, _⟩ := Kd.R_elem h [] (i : Int) (by omega) (by omega)
  have hs : kq.sz = 1 := rfl
  have := (Kd.R_seg h (i : Int) (by omega) (by omega) (seg := [v]) (j := 0) (x' := x) (okp := okp) hcl hcc (by rw [hs]; simp) ⟨v, by rw [List.drop_of_length_le (by rw [hcl, hs]; simp)]; simp, hq⟩ hokp).1
  simp only [Int.toNat_natCast, hs, Nat.mul_one, Nat.add_zero] at this
  exact this
def firstTo (b : List Int) (i : Nat) : List (List Int) := (List.range 256).map (fun (c : Nat) => if (c : Int) ∈ (presN b 256).take i then firstQ b c else [])
theorem presN_get (b : List Int) {i : Nat} (h : i < (presN b 256).length) : ∃ c : Nat, (presN b 256).getD i 0 = c ∧ c < 256 ∧ 0 < (pickedL b (c : Int)).length := by
  have hm := getD_mem h
  obtain ⟨z, hz⟩ : ∃ z, z = (presN b 256).getD i 0 := ⟨_, rfl⟩
  rw [← hz] at hm ⊢
  unfold presN at hm
  obtain ⟨c, hc, rfl⟩ := List.mem_map.1 hm
  obtain ⟨h1, h2⟩ := List.mem_filter.1 hc
  exact ⟨c, rfl, List.mem_range.1 h1, by simpa using h2⟩
theorem firstTo_zero (b : List Int) : firstTo b 0 = List.replicate 256 [] := by
  unfold firstTo
  rw [← List.length_range (n := 256), ← List.map_const', List.length_range]
  exact List.map_congr_left (fun c _ => by rw [if_neg (by simp)])
theorem firstTo_succ (b : List Int) {i c : Nat} (h : i < (presN b 256).length) (hc : (presN b 256).getD i 0 = (c : Int)) : (firstTo b i).set c (firstQ b c) = firstTo b (i + 1) := by
  have e : (presN b 256).take (i + 1) = (presN b 256).take i ++ [(c : Int)] := by
    rw [List.take_succ_eq_append_getElem h, ← hc, List.getD_eq_getElem?_getD, List.getElem?_eq_getElem h]; rfl
  unfold firstTo
  apply List.ext_getElem
  · simp
  · intro k h1 h2
    rw [List.getElem_set]
    simp only [List.getElem_map, List.getElem_range, e, List.mem_append, List.mem_singleton]
    by_cases hk : c = k
    · subst hk; rw [if_pos rfl, if_pos (.inr rfl)]
    · rw [if_neg hk]
      by_cases h3 : (k : Int) ∈ (presN b 256).take i
      · rw [if_pos h3, if_pos (.inl h3)]
      · rw [if_neg h3, if_neg (fun x => x.elim h3 (fun y => by omega))]
theorem firstTo_all (b : List Int) : firstTo b (presN b 256).length = firstL b := by
  unfold firstTo firstL
  refine List.map_congr_left (fun c hc => ?_)
  rw [List.take_length]
  by_cases h : (c : Int) ∈ presN b 256
  · rw [if_pos h]
  · rw [if_neg h]
    unfold firstQ
    rw [if_neg (fun h2 => h ?_)]
    unfold presN
    exact List.mem_map.2 ⟨c, List.mem_filter.2 ⟨hc, by simpa using h2⟩, rfl⟩
structure FirstRel (b : List Int) (W1 : World) (mb g i : Nat) (w : World) : Prop where
  blk : w.heap[mb]? = some (.cells #[.int .i64 (firstR b), .bool false, .slice (some ⟨g, 0, none⟩) 256 256] 24 (0, 0))
  row : kq.R 42 w W1.heap.size (fun k => k ≠ mb) (.slice (some ⟨g, 0, none⟩) 256 256) (firstTo b i)
  below : Below W1.heap.size W1 w
def StartM (lg : Int) (w : World) (s3 : Value) (wx : World) : Prop := ∃ mb g : Nat, s3 = .pointer (some ⟨mb, 0, none⟩) ∧ w.heap.size ≤ mb ∧ w.heap.size ≤ g ∧ mb ≠ g ∧ wx.heap[mb]? = some (.cells #[.int .i64 lg, .bool false, .slice (some ⟨g, 0, none⟩) 256 256] 24 (0, 0)) ∧
  kq.R 42 wx w.heap.size (fun k => k ≠ mb) (.slice (some ⟨g, 0, none⟩) 256 256) (List.replicate 256 []) ∧ Below w.heap.size w wx
theorem kq_cell {e : TypeId} {W : World} {base g n cap : Nat} {ok : Nat → Prop} {xs : List (List Int)} (h : kq.R e W base ok (.slice (some ⟨g, 0, none⟩) n cap) xs) (i : Nat) (hi : i < n) : (∃ u, W.cell? ⟨g, i, none⟩ = some u) ∧ W.frozen? ⟨g, i, none⟩ = false := by
  obtain ⟨c, hcl, hm, hcc, hf⟩ := Kd.R_elem h [] (i : Int) (by omega) (by omega)
  obtain ⟨v, rfl, _⟩ := hm
  have h1 := hcc 0 v rfl
  have h2 := hf 0
  have hs : kq.sz = 1 := rfl
  simp only [Int.toNat_natCast, hs, Nat.mul_one, Nat.add_zero] at h1 h2
  exact ⟨⟨v, h1⟩, h2⟩
theorem first_step {b : List Int} {W1 w5 w6 : World} {mb g i c Nb n cpp cq : Nat} {Ap Aq : Option Addr} (hi : i < (presN b 256).length) (hc : (presN b 256).getD i 0 = (c : Int)) (hc256 : c < 256) (hpk : 0 < (pickedL b (c : Int)).length) (hne : mb ≠ g) (H : FirstRel b W1 mb g i w6) (hp : (Kd.int .i64).R 3 w6 Nb (fun _ => True) (.slice Ap n cpp) (presN b 256)) (hg : g < Nb ∧ mb < Nb)
    (hq : (Kd.int .i64).R 3 w6 w5.heap.size (fun _ => True) (.slice Aq (normL (histL (pickedL b (c : Int))) (firstR b)).length cq) (normL (histL (pickedL b (c : Int))) (firstR b))) (hs : mb < w5.heap.size ∧ g < w5.heap.size) (hw : W1.heap.size ≤ w5.heap.size) :
    FirstRel b W1 mb g (i + 1) (w6.setCell ⟨g, c, none⟩ (.slice Aq (normL (histL (pickedL b (c : Int))) (firstR b)).length cq)).drew ∧ (Kd.int .i64).R 3 (w6.setCell ⟨g, c, none⟩ (.slice Aq (normL (histL (pickedL b (c : Int))) (firstR b)).length cq)).drew Nb (fun _ => True) (.slice Ap n cpp) (presN b 256) := by
  have hfq : firstQ b c = normL (histL (pickedL b (c : Int))) (firstR b) := by unfold firstQ; rw [if_pos hpk]
  refine ⟨⟨?_, ?_, ?_⟩, ?_⟩
  · exact blk_far H.blk (p := ⟨g, c, none⟩) hne _
  · rw [← firstTo_succ b hi hc, hfq]
    refine Kd.R_drew (kq_put H.row c hc256 (Kd.R_lower (Kd.R_mono (Kd.R_bound hq) (ok' := fun k => k ≠ mb ∧ k ≠ g) (fun k hk => ?_)) hw) (fun k hk => hk))
    have := hk.2.1; omega
  · exact (H.below.setCell (by have := ((Kd.R_bound H.row).1 g rfl).2.1; exact this) _).drew
  · refine Kd.R_drew (Kd.R_mono (Kd.R_far (p := ⟨g, c, none⟩) (Kd.R_bound hp) (fun k hk => ?_) _) (fun _ _ => trivial))
    have := hk.2.1; show k ≠ g; omega
theorem first_end {b : List Int} {w W1 wr : World} {mb g : Nat} (hb : Below w.heap.size w W1) (hlt : w.heap.size < W1.heap.size) (hk : wr.heap[w.heap.size]? = some (.cells #[.int .i64 0, .bool false, .slice none 0 0] 24 (0, 0))) (H : FirstRel b W1 mb g (presN b 256).length wr) :
    (((wr.setCell ⟨w.heap.size, 0, none⟩ (.int .i64 (firstR b))).setCell ⟨w.heap.size, 1, none⟩ (.bool false)).setCell ⟨w.heap.size, 2, none⟩ (.slice (some ⟨g, 0, none⟩) 256 256)).heap[w.heap.size]? = some (.cells #[.int .i64 (firstR b), .bool false, .slice (some ⟨g, 0, none⟩) 256 256] 24 (0, 0)) ∧
    MadeM (firstR b) false (firstL b) w (.returned (.agg #[.int .i64 (firstR b), .bool false, .slice (some ⟨g, 0, none⟩) 256 256])) (((wr.setCell ⟨w.heap.size, 0, none⟩ (.int .i64 (firstR b))).setCell ⟨w.heap.size, 1, none⟩ (.bool false)).setCell ⟨w.heap.size, 2, none⟩ (.slice (some ⟨g, 0, none⟩) 256 256)) := by
  refine ⟨blk_set3 hk _ _ _, _, rfl, ?_, ?_⟩
  · have h1 : kq.R 42 wr w.heap.size (fun k => k ≠ w.heap.size) (.slice (some ⟨g, 0, none⟩) 256 256) (firstL b) := by
      rw [← firstTo_all]
      exact Kd.R_mono (Kd.R_lower (Kd.R_bound H.row) (Nat.le_of_lt hlt)) (fun k hk => by have := hk.2.1; omega)
    exact Kd.R_mono (R_far3 h1 _ _ _) (fun _ _ => trivial)
  · exact (((hb.trans (H.below.mono hb.size)).setCell (Nat.le_refl _) _).setCell (Nat.le_refl _) _).setCell (Nat.le_refl _) _
theorem start_mk {lg : Int} {W1 wx : World} {mb : Nat} (g : Nat) (hd : wx.heap[mb]? = some (.cells #[.int .i64 lg, .bool false, .slice (some ⟨g, 0, none⟩) 256 256] 24 (0, 0))) (he : kq.R 42 wx W1.heap.size (fun k => k ≠ mb) (.slice (some ⟨g, 0, none⟩) 256 256) (List.replicate 256 [])) (hf : Below W1.heap.size W1 wx) (h1 : W1.heap.size ≤ mb) (h2 : W1.heap.size ≤ g) (h3 : mb ≠ g) : StartM lg W1 (.pointer (some ⟨mb, 0, none⟩)) wx := ⟨mb, g, rfl, h1, h2, h3, hd, he, hf⟩
set_option maxRecDepth 100000 in
set_option maxHeartbeats 4000000 in
theorem rFirst_any (A : Option Addr) (cp : Nat) (b : List Int) (w : World) (hr : (Kd.int .u8).C w A b.length b) (hc : b.length ≤ cp) (hb : Bytes b) (hl : b.length ≤ 1000000) :
    Calls Try.prog 43 #[.slice A b.length cp] w (MadeM (firstR b) false (firstL b) w) := by
  obtain ⟨W1, hW1⟩ : ∃ W1, W1 = w.alloc (.cells #[.int .i64 0, .bool false, .slice none 0 0] 24) := ⟨_, rfl⟩
  have hb1 : Below w.heap.size w W1 := by rw [hW1]; exact (Below.refl w.heap.size w).alloc (Nat.le_refl _) _
  have hk1 : W1.heap[w.heap.size]? = some (.cells #[.int .i64 0, .bool false, .slice none 0 0] 24 (0, 0)) := by rw [hW1]; exact blk_new _ _
  have HB1 := Lib.hid hb1
  have HK1 := Lib.hid hk1
  have HR := Lib.hid hr
  have HX := Lib.hid (And.intro hc (And.intro hb hl))
  have hmk : ∀ w : World, (Instr.makeSlice 22 (.int .i64 256) (.int .i64 256)).run Try.prog w = .ok (.slice (some ⟨w.heap.size, 0, none⟩) 256 256) (w.alloc (.cells (madeCells #[.slice none 0 0] 256) 42)) := fun w => made_ints 256 (by omega) w
  clear hb1 hk1 hr hc hb hl
  go_enter Try.func43, Try.ntmps43
  go_wp2_with fail
  rw [← hW1]
  clear hW1
  go_cut [3] (fun s3 wx => StartM (firstR b) W1 s3 wx)
  case first =>
    go_region_held3 (fun w' => Below W1.heap.size W1 w') ((first | assumption | ((repeat' (first | assumption | exact Below.refl _ _ | refine below_al ?_ _ | refine below_dr ?_ | refine below_st ?_ ?_ _)) <;> first | omega | (simp; done) | (simp; omega))))
      (first
        | (go_at_call 73; refine (rWidest_any A cp b _ (Kd.C_below HR.out (below_tr HB1.out (by first | assumption | exact (Below.refl _ _).drew | exact below_al (by assumption) _ | exact below_dr (by assumption)))) HX.out.1 HX.out.2.1 HX.out.2.2).mono ?_; rintro e w2 ⟨rfl, hb2⟩; have hS2 := below_ne2 (by first | assumption | exact (Below.refl _ _).drew | exact below_al (by assumption) _ | exact below_dr (by assumption)) hb2; obtain ⟨hc2, hf2⟩ := bcell hb2; have hz2 := hb2.size; have hy2 := hS2.size; (try have hq2 : W1.heap.size < w2.heap.size := by (have := hb2.size; simp at this; omega)); (try have hp2 : W1.heap.size + 1 < w2.heap.size := by (have := hb2.size; simp at this; omega)))
        | (go_at_call 70; refine (rPick_any b.length (widN b 256) 9 _ (by have := HX.out.2.2; omega) (by have := widN_le b 256; omega)).mono ?_; rw [(firstR_ok b).1]; rintro e w3 ⟨rfl, hb3⟩; have hS3 := below_ne2 (by first | assumption | exact below_al (by assumption) _ | exact below_dr (by assumption)) hb3; obtain ⟨hc3, hf3⟩ := bcell hb3; have hz3 := hb3.size; have hy3 := hS3.size; (try have hq3 : w2.heap.size < w3.heap.size := by (have := hb3.size; simp at this; omega)); (try have hp3 : w2.heap.size + 1 < w3.heap.size := by (have := hb3.size; simp at this; omega)); (try have ho3 : W1.heap.size < w3.heap.size := by omega); (try have hn3 : W1.heap.size + 1 < w3.heap.size := by omega)))
    all_goals
      go_wp2_with fail
      go_meet
      refine' start_mk _ ?_ ?_ ?_ ?_ ?_ ?_
      rotate_left 1
      · repeat' (with_reducible (first | exact blk_new _ _ | exact blk_new1 _ _ _ | refine blk_set3 (a := .int .i64 0) (b := .bool false) (c := .slice none 0 0) ?_ _ _ _ | refine blk_dr ?_ | refine blk_below ?_ hb3 | refine blk_below ?_ hb2 | refine blk_alloc ?_ _))
      · repeat' (with_reducible (first | refine kq_made _ _ _ ?_ ?_ | refine kq_made1 _ _ _ _ ?_ ?_ | refine kq_made3 _ _ _ _ _ _ _ ?_ ?_ | refine R_far3 ?_ _ _ _ | refine Kd.R_drew ?_ | refine Kd.R_below ?_ hb3 | refine Kd.R_below ?_ hb2 | refine Kd.R_alloc ?_ _))
        all_goals omega
      · assumption
      all_goals omega
  case rest =>
    obtain ⟨mb, g, rfl, hmb, hg, hne, hblk, hrow, hbl⟩ := hcut
    have HP := Lib.hid (And.intro hmb (And.intro hg hne))
    have HF : Hid (FirstRel b W1 mb g 0 wc) := ⟨hblk, by rw [firstTo_zero]; exact hrow, hbl⟩
    clear hmb hg hne hblk hrow hbl
    go_wp2_with fail
    refine (rPres_any A cp b wc (Kd.C_below HR.out (below_tr HB1.out HF.out.below)) HX.out.1 HX.out.2.1 HX.out.2.2).mono ?_
    rintro e w4 ⟨vp, rfl, hvp, hb4⟩
    obtain ⟨Ap, cpp, rfl⟩ := Kd.R_slice hvp
    have hgw : g < wc.heap.size := ((Kd.R_bound HF.out.row).1 g rfl).2.2.1
    have HV := Lib.hid (And.intro hvp (And.intro hgw (blk_lt HF.out.blk)))
    have H4 : Hid (FirstRel b W1 mb g 0 w4) := ⟨blk_below HF.out.blk hb4, Kd.R_below HF.out.row hb4, HF.out.below.trans (hb4.mono HF.out.below.size)⟩
    have HN : Hid ((presN b 256).length ≤ 256) := presN_len b 256
    have hn256 := HN.out
    obtain ⟨Nb, hNb⟩ : ∃ Nb, Nb = wc.heap.size := ⟨_, rfl⟩
    rw [← hNb] at HV
    clear hvp hb4 HF hgw hNb
    go_wp2_with fail
    go_loopw [5] (fun kv wr => ∃ (i : Nat), kv = .int .i64 i ∧ i ≤ (presN b 256).length ∧ Hid (FirstRel b W1 mb g i wr ∧ (Kd.int .i64).R 3 wr Nb (fun _ => True) (.slice Ap (presN b 256).length cpp) (presN b 256))) (fun kv _ => (presN b 256).length - (intOf kv).toNat)
    case atStart => exact ⟨0, rfl, by omega, H4.out, HV.out.1⟩
    case round =>
      obtain ⟨i, rfl, hi, H⟩ := hrel
      by_cases hlt : i < (presN b 256).length
      · obtain ⟨ad, rfl, hcx⟩ := ints_get (Kd.R_reads' H.out.2).2.2 i hlt
        obtain ⟨c, hc, hc256, hpk⟩ := presN_get b hlt
        rw [hc] at hcx
        obtain ⟨⟨m0, m1, m2⟩, _⟩ := cell3 H.out.1.blk
        have HC := Lib.hid (And.intro hc (And.intro hc256 (And.intro hpk hlt)))
        have hiI : (i : Int) < ((presN b 256).length : Int) := by omega
        clear hc hpk
        go_wp2_with fail
        go_region_held3 (fun w' => w'.cell? (ad.add i) = some (.int .i64 c) ∧ w'.cell? ⟨mb, 0, none⟩ = some (.int .i64 (firstR b)) ∧ w'.cell? ⟨mb, 2, none⟩ = some (.slice (some ⟨g, 0, none⟩) 256 256)) ((repeat' apply And.intro) <;> first | assumption)
          (first
            | (go_at_call 75; refine (rFor_any A cp b _ (Kd.C_below HR.out (below_tr HB1.out H.out.1.below.drew)) HX.out.1 HX.out.2.1 HX.out.2.2 (c : Int)).mono ?_; rintro e w5 ⟨vf, rfl, hvf, hb5⟩; obtain ⟨Af, cf, rfl⟩ := Kd.R_slice hvf; have h1 := pw_cell_below (w := wr) ⟨hb5.os, hb5.tape, hb5.output, hb5.size, hb5.block⟩ hcx; have h2 := pw_cell_below (w := wr) ⟨hb5.os, hb5.tape, hb5.output, hb5.size, hb5.block⟩ m0; have h3 := pw_cell_below (w := wr) ⟨hb5.os, hb5.tape, hb5.output, hb5.size, hb5.block⟩ m2; have HVF := Lib.hid (And.intro (Kd.R_reads' hvf).2 hb5); clear hvf hb5)
            | (go_at_call 72; refine (rCounts_any Af cf (histL (pickedL b (c : Int))) (firstR b) w5 HVF.out.1.2 HVF.out.1.1 (first_can HX.out.2.1 HX.out.2.2 hc256 HC.out.2.2.1)).mono ?_; rintro e w6 ⟨vq, rfl, hvq, hb6⟩; obtain ⟨Aq, cq, rfl⟩ := Kd.R_slice hvq; have k1 := pw_cell_below hb6 h1; have k2 := pw_cell_below hb6 h2; have k3 := pw_cell_below hb6 h3; have HVQ := Lib.hid (And.intro hvq hb6); clear hvq hb6))
        have hb16 : Below wr.heap.size wr w6 := below_tr (w1 := w5) (by have hb := HVF.out.2; exact ⟨hb.os, hb.tape, hb.output, hb.size, hb.block⟩) HVQ.out.2
        have H6 : Hid (FirstRel b W1 mb g i w6 ∧ (Kd.int .i64).R 3 w6 Nb (fun _ => True) (.slice (some ad) (presN b 256).length cpp) (presN b 256)) := ⟨⟨blk_below H.out.1.blk hb16, Kd.R_below H.out.1.row hb16, H.out.1.below.trans (hb16.mono H.out.1.below.size)⟩, Kd.R_below H.out.2 hb16⟩
        have hs5 : Hid (mb < w5.heap.size ∧ g < w5.heap.size) := by
          have h1 := blk_lt H.out.1.blk
          have h2 := ((Kd.R_bound H.out.1.row).1 g rfl).2.2.1
          have h3 : wr.heap.size ≤ w5.heap.size := HVF.out.2.size
          exact ⟨by omega, by omega⟩
        obtain ⟨⟨gv, g1⟩, g2⟩ := kq_cell H6.out.1.row c hc256
        have hcI : (c : Int) < 256 := by omega
        have HE := Lib.hid (first_step HC.out.2.2.2 HC.out.1 hc256 HC.out.2.2.1 HP.out.2.2 H6.out.1 H6.out.2 HV.out.2 HVQ.out.1 hs5.out (Nat.le_trans (H.out.1.below.size) HVF.out.2.size))
        clear hb16
        go_wp2_with fail
        go_region
        all_goals
          go_wp2_with fail
          go_roundw
          case rel => exact ⟨i + 1, by go_num, by omega, HE.out⟩
          case measure => simp [intOf]; omega
      · obtain rfl : i = (presN b 256).length := by omega
        obtain ⟨⟨m0, m1, m2⟩, ⟨f0, f1, f2⟩⟩ := cell3 H.out.1.blk
        have hkw := blk_below (blk_below HK1.out (Below.refl _ _)) H.out.1.below
        obtain ⟨⟨n0, n1, n2⟩, ⟨e0, e1, e2⟩⟩ := cell3 hkw
        have HKW := Lib.hid hkw
        clear hkw
        have HE := Lib.hid (first_end HB1.out (blk_lt HK1.out) HKW.out H.out.1)
        go_wp2_with fail
        refine bodyPost_ret ?_ rfl HE.out.2
        exact results_cell_row (fn := Try.f43) (p := 2) (ty := 24) rfl _ _ _ _ _ _ _ rfl HE.out.1 Try.underlying24 rfl sizeModel
end Go.Proofs.Ytfnobinenolhhaa
namespace Go.Proofs.Ytfnobinenolhhaa
open Go.RowKit Go.IntWalk Go.Proofs.YtfnobinenolhhaaW.PrintWords
def ofR (b : List Int) (one : Bool) : Nat := if one then zeroR b else firstR b
def ofQ (b : List Int) (one : Bool) : List (List Int) := if one then [zeroQ b] else firstL b
theorem ofM_end {w W1 wr : World} {lg : Int} {one : Bool} {qs : List (List Int)} {v : Value} (hb : Below w.heap.size w W1) (hlt : w.heap.size < W1.heap.size) (hk : W1.heap[w.heap.size]? = some (.cells #[.int .i64 0, .bool false, .slice none 0 0] 24 (0, 0))) (hv : kq.R 42 wr W1.heap.size (fun _ => True) v qs) (hw : Below W1.heap.size W1 wr) :
    (((wr.setCell ⟨w.heap.size, 0, none⟩ (.int .i64 lg)).setCell ⟨w.heap.size, 1, none⟩ (.bool one)).setCell ⟨w.heap.size, 2, none⟩ v).heap[w.heap.size]? = some (.cells #[.int .i64 lg, .bool one, v] 24 (0, 0)) ∧
    MadeM lg one qs w (.returned (.agg #[.int .i64 lg, .bool one, v])) (((wr.setCell ⟨w.heap.size, 0, none⟩ (.int .i64 lg)).setCell ⟨w.heap.size, 1, none⟩ (.bool one)).setCell ⟨w.heap.size, 2, none⟩ v) := by
  refine ⟨blk_set3 (blk_below hk hw) _ _ _, _, rfl, ?_, ?_⟩
  · have h1 : kq.R 42 wr w.heap.size (fun k => k ≠ w.heap.size) v qs :=
      Kd.R_mono (Kd.R_lower (Kd.R_bound hv) (Nat.le_of_lt hlt)) (fun k hk => by have := hk.2.1; omega)
    exact Kd.R_mono (R_far3 h1 _ _ _) (fun _ _ => trivial)
  · exact (((hb.trans (hw.mono hb.size)).setCell (Nat.le_refl _) _).setCell (Nat.le_refl _) _).setCell (Nat.le_refl _) _
set_option maxRecDepth 100000 in
set_option maxHeartbeats 1000000 in
theorem rOfM_any (A : Option Addr) (cp : Nat) (b : List Int) (one : Bool) (w : World) (hr : (Kd.int .u8).C w A b.length b) (hc : b.length ≤ cp) (hb : Bytes b) (hl : b.length ≤ 1000000) (h0 : 0 < b.length) :
    Calls Try.prog 19 #[.slice A b.length cp, .bool one] w (MadeM (ofR b one) one (ofQ b one) w) := by
  obtain ⟨W1, hW1⟩ : ∃ W1, W1 = w.alloc (.cells #[.int .i64 0, .bool false, .slice none 0 0] 24) := ⟨_, rfl⟩
  have hb1 : Below w.heap.size w W1 := by rw [hW1]; exact (Below.refl w.heap.size w).alloc (Nat.le_refl _) _
  have hk1 : W1.heap[w.heap.size]? = some (.cells #[.int .i64 0, .bool false, .slice none 0 0] 24 (0, 0)) := by rw [hW1]; exact blk_new _ _
  have HB1 := Lib.hid hb1
  have HK1 := Lib.hid hk1
  have HR := Lib.hid hr
  have HX := Lib.hid (And.intro hc (And.intro hb (And.intro hl h0)))
  have hz : ((b.length : Int) == 0) = false := by simp; intro e; subst e; simp at h0
  clear hb1 hk1 hr hc hb hl h0
  cases one with
  | true =>
    go_enter Try.func19, Try.ntmps19
    go_wp2_with fail
    rw [← hW1]
    clear hW1
    refine (rZero_any A cp b W1 (Kd.C_below HR.out HB1.out) HX.out.1 HX.out.2.1 HX.out.2.2.1 HX.out.2.2.2).mono ?_
    rintro e w2 ⟨v, rfl, hv, hb2⟩
    obtain ⟨Av, cv, rfl⟩ := Kd.R_slice hv
    obtain ⟨⟨m0, m1, m2⟩, ⟨f0, f1, f2⟩⟩ := cell3 (blk_below HK1.out hb2)
    have HE := Lib.hid (ofM_end (lg := (zeroR b : Nat)) (one := true) HB1.out (blk_lt HK1.out) HK1.out hv hb2)
    clear hv hb2
    go_wp2_with fail
    refine bodyPost_ret ?_ rfl HE.out.2
    exact results_cell_row (fn := Try.f19) (p := 4) (ty := 24) rfl _ _ _ _ _ _ _ rfl HE.out.1 Try.underlying24 rfl sizeModel
  | false =>
    go_enter Try.func19, Try.ntmps19
    go_wp2_with fail
    rw [← hW1]
    clear hW1
    refine (rFirst_any A cp b W1 (Kd.C_below HR.out HB1.out) HX.out.1 HX.out.2.1 HX.out.2.2.1).mono ?_
    rintro e w2 ⟨v, rfl, hv, hb2⟩
    obtain ⟨Av, cv, rfl⟩ := Kd.R_slice hv
    obtain ⟨⟨m0, m1, m2⟩, ⟨f0, f1, f2⟩⟩ := cell3 (blk_below HK1.out hb2)
    have HE := Lib.hid (ofM_end (lg := (firstR b : Nat)) (one := false) HB1.out (blk_lt HK1.out) HK1.out hv hb2)
    clear hv hb2
    go_wp2_with fail
    refine bodyPost_ret ?_ rfl HE.out.2
    exact results_cell_row (fn := Try.f19) (p := 4) (ty := 24) rfl _ _ _ _ _ _ _ rfl HE.out.1 Try.underlying24 rfl sizeModel
theorem of_can {b : List Int} {one : Bool} (hb : Bytes b) (hl : b.length ≤ 131072) (h0 : 0 < b.length) : canM (ofR b one) one (ofQ b one) b = true := by
  unfold canM
  rw [decide_eq_true hl, Bool.true_and]
  cases one with
  | true => exact zero_fits hb (by omega) h0
  | false => exact first_fits hb (by omega)
end Go.Proofs.Ytfnobinenolhhaa
namespace Go.Proofs.Ytfnobinenolhhaa
open Go.RowKit Go.IntWalk Go.Proofs.YtfnobinenolhhaaW.PrintWords
/-- a row that is written out -/
theorem row_lit (κ : IntKind) (e : TypeId) (W : World) (base : Nat) (ok : Nat → Prop) (hok : ok W.heap.size) (hb : base ≤ W.heap.size) (xs : List Int) (hl : xs.length ≤ 1000000) : (Kd.int κ).R e (W.alloc (.cells (xs.map (Value.int κ)).toArray e)) base ok (.slice (some ⟨W.heap.size, 0, none⟩) xs.length xs.length) xs := by
  refine Kd.R_of_own (h1 := fun _ => rfl) ⟨by simp [encs], .inr ⟨W.heap.size, xs.length, _, rfl, hb, blk_new W _, Nat.le_refl _, by unfold maxLen; omega, by simp, ?_⟩⟩ (fun k hk => by cases hk; exact hok)
  rw [Nat.mul_one, show (xs.map (Value.int κ)).toArray.toList = encs (Value.int κ) xs from rfl, List.take_of_length_le (by rw [encs_length]; exact Nat.le_refl _)]
theorem aw_facts (w : World) : Hid (
    kq.C ((((w.alloc (.cells ((madeCells #[.int .i64 0] 256).setIfInBounds 7 (.int .i64 32)) 3)).alloc (.cells #[.slice (some ⟨w.heap.size, 0, none⟩) 256 256] 42)).alloc (.cells #[.int .i64 5, .bool true, .slice (some ⟨w.heap.size + 1, 0, none⟩) 1 1] 24)).alloc (.cells #[.int .u8 7, .int .u8 7, .int .u8 7] 5)) (some ⟨w.heap.size + 1, 0, none⟩) 1 [awQ] ∧
    (Kd.int .u8).C ((((w.alloc (.cells ((madeCells #[.int .i64 0] 256).setIfInBounds 7 (.int .i64 32)) 3)).alloc (.cells #[.slice (some ⟨w.heap.size, 0, none⟩) 256 256] 42)).alloc (.cells #[.int .i64 5, .bool true, .slice (some ⟨w.heap.size + 1, 0, none⟩) 1 1] 24)).alloc (.cells #[.int .u8 7, .int .u8 7, .int .u8 7] 5)) (some ⟨w.heap.size + 1 + 1 + 1, 0, none⟩) 3 [7, 7, 7] ∧
    ((((w.alloc (.cells ((madeCells #[.int .i64 0] 256).setIfInBounds 7 (.int .i64 32)) 3)).alloc (.cells #[.slice (some ⟨w.heap.size, 0, none⟩) 256 256] 42)).alloc (.cells #[.int .i64 5, .bool true, .slice (some ⟨w.heap.size + 1, 0, none⟩) 1 1] 24)).alloc (.cells #[.int .u8 7, .int .u8 7, .int .u8 7] 5)).heap[w.heap.size + 1 + 1]? = some (.cells #[.int .i64 5, .bool true, .slice (some ⟨w.heap.size + 1, 0, none⟩) 1 1] 24 (0, 0)) ∧
    Below w.heap.size w ((((w.alloc (.cells ((madeCells #[.int .i64 0] 256).setIfInBounds 7 (.int .i64 32)) 3)).alloc (.cells #[.slice (some ⟨w.heap.size, 0, none⟩) 256 256] 42)).alloc (.cells #[.int .i64 5, .bool true, .slice (some ⟨w.heap.size + 1, 0, none⟩) 1 1] 24)).alloc (.cells #[.int .u8 7, .int .u8 7, .int .u8 7] 5))) := by
  obtain ⟨w1, h1⟩ : ∃ w1, w1 = w.alloc (.cells ((madeCells #[.int .i64 0] 256).setIfInBounds 7 (.int .i64 32)) 3) := ⟨_, rfl⟩
  have s1 : w1.heap.size = w.heap.size + 1 := by rw [h1]; simp
  have hq := made_rowK (enc := Value.int .i64) (h1 := fun _ => rfl) (0 : Int) 3 rfl 256 (by omega) w (fun _ => True) trivial w.heap.size (Nat.le_refl _)
  have hq2 := Kd.R_putn hq (7 : Int) (32 : Int)
  rw [show ((7 : Int)).toNat = 7 from rfl, World.setCell_alloc_new, ← h1, show (List.replicate 256 (0 : Int)).set 7 32 = awQ by decide +kernel] at hq2
  have hb1 : Below w.heap.size w w1 := by rw [h1]; exact (Below.refl _ _).alloc (Nat.le_refl _) _
  have hk := kq_one hq2 hb1.size
  rw [← h1]
  obtain ⟨w2, h2⟩ : ∃ w2, w2 = w1.alloc (.cells #[.slice (some ⟨w.heap.size, 0, none⟩) 256 256] 42) := ⟨_, rfl⟩
  have s2 : w2.heap.size = w.heap.size + 1 + 1 := by rw [h2]; simp [s1]
  rw [← h2] at hk ⊢
  have hb2 : Below w.heap.size w w2 := by rw [h2]; exact hb1.alloc hb1.size _
  rw [s1] at hk
  obtain ⟨w3, h3⟩ : ∃ w3, w3 = w2.alloc (.cells #[.int .i64 5, .bool true, .slice (some ⟨w.heap.size + 1, 0, none⟩) 1 1] 24) := ⟨_, rfl⟩
  have s3 : w3.heap.size = w.heap.size + 1 + 1 + 1 := by rw [h3]; simp [s2]
  have hb3 : Below w.heap.size w w3 := by rw [h3]; exact hb2.alloc hb2.size _
  have hm := blk_new w2 (.cells #[.int .i64 5, .bool true, .slice (some ⟨w.heap.size + 1, 0, none⟩) 1 1] 24)
  have hk3 := Kd.R_alloc hk (.cells #[.int .i64 5, .bool true, .slice (some ⟨w.heap.size + 1, 0, none⟩) 1 1] 24)
  rw [← h3] at hm hk3 ⊢
  rw [s2] at hm
  have hr := row_lit .u8 5 w3 w3.heap.size (fun _ => True) trivial (Nat.le_refl _) [7, 7, 7] (by decide)
  rw [s3] at hr
  exact ⟨(Kd.R_reads' (Kd.R_alloc hk3 _)).2.2, (Kd.R_reads' hr).2.2, blk_alloc hm _, hb3.alloc hb3.size _⟩
set_option maxRecDepth 100000 in
set_option maxHeartbeats 1000000 in
theorem awake_any (w : World) : Calls Try.prog 10 #[] w (Ret (.bool true) w) := by
  have hmi : ∀ w : World, (Instr.makeSlice 42 (.int .i64 256) (.int .i64 256)).run Try.prog w = .ok (.slice (some ⟨w.heap.size, 0, none⟩) 256 256) (w.alloc (.cells (madeCells #[.int .i64 0] 256) 3)) := fun w => made_i64 256 (by omega) w
  have hq := made_rowK (enc := Value.int .i64) (h1 := fun _ => rfl) (0 : Int) 3 rfl 256 (by omega) w (fun _ => True) trivial w.heap.size (Nat.le_refl _)
  obtain ⟨c1, f1⟩ := ints_cells hq 7 (by omega)
  have H := aw_facts w
  clear hq
  go_enter Try.func10, Try.ntmps10
  go_wp2_with fail
  obtain ⟨W, hW⟩ : ∃ W, W = ((((w.alloc (.cells ((madeCells #[.int .i64 0] 256).setIfInBounds 7 (.int .i64 32)) 3)).alloc (.cells #[.slice (some ⟨w.heap.size, 0, none⟩) 256 256] 42)).alloc (.cells #[.int .i64 5, .bool true, .slice (some ⟨w.heap.size + 1, 0, none⟩) 1 1] 24)).alloc (.cells #[.int .u8 7, .int .u8 7, .int .u8 7] 5)) := ⟨_, rfl⟩
  rw [← hW] at H ⊢
  clear hW c1 f1 hmi
  refine (encodeL_any 5 true (some ⟨w.heap.size + 1, 0, none⟩) 1 [awQ] (some ⟨w.heap.size + 1 + 1 + 1, 0, none⟩) 3 [7, 7, 7] W H.out.1 (by decide) H.out.2.1 (by intro x hx; simp at hx; omega) (by decide)).mono ?_
  rintro e w2 ⟨_, h2, hb2⟩
  obtain ⟨v, rfl, hv⟩ := h2 aw_can
  rw [aw_enc] at hv
  obtain ⟨Av, cv, rfl⟩ := Kd.R_slice hv
  have H2 := Lib.hid (And.intro (Kd.R_reads' hv).2 hb2)
  have hk2 := blk_below H.out.2.2.1 hb2
  obtain ⟨⟨m0, m1, m2⟩, _⟩ := cell3 hk2
  have HK2 := Lib.hid hk2
  clear h2 hv hb2 hk2
  go_wp2_with fail
  refine (decodeL_any 5 true (some ⟨w.heap.size + 1, 0, none⟩) 1 [awQ] Av cv [0, 4] 3 w2 (Kd.C_below H.out.1 H2.out.2) (by decide) H2.out.1.2 (by intro x hx; simp at hx; omega) (by decide)).mono ?_
  rw [aw_dec]
  rintro e w3 ⟨⟨v3, rfl, hv3⟩, hb3⟩
  obtain ⟨A3, c3, rfl⟩ := Kd.R_slice hv3
  have H3 := Lib.hid (And.intro (Kd.R_reads' hv3).2 hb3)
  have hk3 := blk_below HK2.out hb3
  obtain ⟨⟨n0, n1, n2⟩, _⟩ := cell3 hk3
  have hcv1 : (convert 25 9 (.slice Av 2 cv)).run Try.prog w3 = .ok (.string ⟨#[0, 4]⟩) w3 := Kd.C_string (xs := [0, 4]) Try.underlying25 Try.underlying5 Try.underlying9 (Kd.C_below H2.out.1.2 hb3)
  have hcv2 : (convert 25 9 (.slice A3 3 c3)).run Try.prog w3 = .ok (.string ⟨#[7, 7, 7]⟩) w3 := Kd.C_string (xs := [7, 7, 7]) Try.underlying25 Try.underlying5 Try.underlying9 H3.out.1.2
  have hcv3 : (convert 25 9 (.slice (some ⟨w.heap.size + 1 + 1 + 1, 0, none⟩) 3 3)).run Try.prog w3 = .ok (.string ⟨#[7, 7, 7]⟩) w3 := Kd.C_string (xs := [7, 7, 7]) Try.underlying25 Try.underlying5 Try.underlying9 (Kd.C_below (Kd.C_below H.out.2.1 H2.out.2) hb3)
  clear hv3 hb3 hk3 m0 m1 m2
  go_wp2_with fail
  refine (bitsL_any 5 true (some ⟨w.heap.size + 1, 0, none⟩) 1 [awQ] (some ⟨w.heap.size + 1 + 1 + 1, 0, none⟩) 3 [7, 7, 7] w3 (Kd.C_below (Kd.C_below H.out.1 H2.out.2) H3.out.2) (by decide) (Kd.C_below (Kd.C_below H.out.2.1 H2.out.2) H3.out.2) (by intro x hx; simp at hx; omega) (by decide)).mono ?_
  rw [aw_bits]
  rintro e w4 ⟨rfl, hb4⟩
  have H4 := Lib.hid hb4
  clear hb4
  go_wp2_with fail
  go_ret
  exact ⟨rfl, (((H.out.2.2.2.trans (H2.out.2.mono H.out.2.2.2.size))).trans (H3.out.2.mono (below_tr H.out.2.2.2 H2.out.2).size)).trans (H4.out.mono (below_tr (below_tr H.out.2.2.2 H2.out.2) H3.out.2).size)⟩
end Go.Proofs.Ytfnobinenolhhaa
namespace Go.Proofs.Ytfnobinenolhhaa
open Go.RowKit Go.IntWalk Go.Proofs.YtfnobinenolhhaaW.PrintWords
/-- a model in a variable of the call's own -/
structure MAt (mb : Nat) (lg : Int) (one : Bool) (A : Option Addr) (c : Nat) (qs : List (List Int)) (w : World) : Prop where
  blk : w.heap[mb]? = some (.cells #[.int .i64 lg, .bool one, .slice A qs.length c] 24 (0, 0))
  row : kq.C w A qs.length qs
theorem MAt.later {mb : Nat} {lg : Int} {one : Bool} {A : Option Addr} {c : Nat} {qs : List (List Int)} {w w' : World} (h : MAt mb lg one A c qs w) (hb : Below w.heap.size w w') : MAt mb lg one A c qs w' := ⟨blk_below h.blk hb, Kd.C_below h.row hb⟩
theorem MAt.new {lg : Int} {one : Bool} {A : Option Addr} {c : Nat} {qs : List (List Int)} {w w0 : World} (h : kq.R 42 w w0.heap.size (fun _ => True) (.slice A qs.length c) qs) : MAt w.heap.size lg one A c qs (w.alloc (.cells #[.int .i64 lg, .bool one, .slice A qs.length c] 24)) :=
  ⟨blk_new _ _, Kd.C_alloc (Kd.R_reads' h).2.2 _⟩
theorem ofQ_len (b : List Int) (one : Bool) : (ofQ b one).length ≤ 256 := by
  cases one with
  | true => simp [ofQ]
  | false => simp [ofQ, firstL]
end Go.Proofs.Ytfnobinenolhhaa
namespace Go.Proofs.Ytfnobinenolhhaa
open Go.RowKit Go.Proofs.Ytfnobinenolhhaa.PRef Go.Proofs.YtfnobinenolhhaaW.PrintWords Go.Proofs.YtfnobinenolhhaaW.PrintLast Go.Proofs.YtfnobinenolhhaaW.PrintMore
/-- a number's words -/
def digs (n : Nat) : List Int := if h : n = 0 then [] else ((n % 65536 : Nat) : Int) :: digs (n / 65536)
termination_by n
decreasing_by omega
theorem digs_zero : digs 0 = [] := by rw [digs]; simp
theorem digs_pos {n : Nat} (h : 0 < n) : digs n = ((n % 65536 : Nat) : Int) :: digs (n / 65536) := by
  rw [digs]; exact dif_neg (by omega)
theorem digs_one : digs 1 = [1] := by rw [digs_pos (by omega)]; simp [digs_zero]
theorem tmod_nat (t : Nat) : Int.tmod (t : Int) 65536 = ((t % 65536 : Nat) : Int) := by rw [Int.tmod_eq_emod_of_nonneg (by omega)]; simp
theorem tdiv_nat (t : Nat) (h : t ≤ 1000000000000) : wrap64 (Int.tdiv (t : Int) 65536) = ((t / 65536 : Nat) : Int) := by
  rw [Int.tdiv_eq_ediv_of_nonneg (by omega), w64 (by omega)]; simp
theorem times_num (x f c y : Nat) (hy : y = x * f) (h : y ≤ 100000000000) (hc : c ≤ 100000) : wrap64 (wrap64 ((x : Int) * f) + c) = ((y + c : Nat) : Int) := by
  have e : (x : Int) * f = (y : Int) := by rw [hy]; simp
  have i1 : wrap64 (y : Int) = y := w64 (by omega)
  have i2 : wrap64 ((y : Int) + c) = (y : Int) + c := w64 (by omega)
  rw [e, i1, i2]; simp
theorem times_val (v f c x t : Nat) (hx : x = v % 65536) (ht : t = x * f + c) : v * f + c = 65536 * (v / 65536 * f) + t := by
  have hvd : v = 65536 * (v / 65536) + x := by omega
  rw [ht]
  calc v * f + c = (65536 * (v / 65536) + x) * f + c := by rw [← hvd]
    _ = 65536 * (v / 65536 * f) + (x * f + c) := by rw [Nat.add_mul, Nat.mul_assoc]; omega
theorem times_rest : ∀ (m n : Nat) (out : List Int), n ≤ m → out.length + n ≤ 1000000000 → Ev (fun k => puncheonref17_times.l1 k out (n : Int)) (out ++ digs n) := by
  intro m
  induction m with
  | zero =>
    intro n out hn _
    obtain rfl : n = 0 := by omega
    refine Ev.step (fun k => (show puncheonref17_times.l1 (k + 1) out _ = _ by simp only [puncheonref17_times.l1]; rw [if_neg (by omega)])) ?_
    rw [digs_zero, List.append_nil]; exact Ev.now _
  | succ m ih =>
    intro n out hn hl
    by_cases h0 : n = 0
    · subst h0
      refine Ev.step (fun k => (show puncheonref17_times.l1 (k + 1) out _ = _ by simp only [puncheonref17_times.l1]; rw [if_neg (by omega)])) ?_
      rw [digs_zero, List.append_nil]; exact Ev.now _
    · have c1 : (n : Int) > 0 := by omega
      have c2 : out.length < 17592186044416 := by omega
      refine Ev.step (fun k => (show puncheonref17_times.l1 (k + 1) out _ = _ by simp only [puncheonref17_times.l1]; rw [if_pos c1, if_pos c2, tmod_nat n, tdiv_nat n (by clear c1 c2 ih; omega)])) ?_
      have := ih (n / 65536) (out ++ [((n % 65536 : Nat) : Int)]) (by omega) (by rw [List.length_append, List.length_singleton]; omega)
      rw [digs_pos (by omega), show out ++ ((n % 65536 : Nat) : Int) :: digs (n / 65536) = (out ++ [((n % 65536 : Nat) : Int)]) ++ digs (n / 65536) by simp]
      exact this
set_option maxHeartbeats 400000 in
theorem times_loop (a : List Int) (f : Nat) (hf : 0 < f) (hf2 : f ≤ 100000) (hl : a.length ≤ 1000000) : ∀ (d i v c : Nat) (out : List Int), i + d = a.length → a.drop i = digs v → c ≤ f → out.length = i → Ev (fun k => puncheonref17_times.l0 k a f out c i) (out ++ digs (v * f + c)) := by
  intro d
  induction d with
  | zero =>
    intro i v c out hi hv hc ho
    refine Ev.step (fun k => (show puncheonref17_times.l0 (k + 1) a f out c i = _ by simp only [puncheonref17_times.l0]; rw [if_neg (by omega)])) ?_
    have h0 : v = 0 := by
      by_cases e : v = 0
      · exact e
      · rw [digs_pos (by omega), List.drop_of_length_le (by omega)] at hv; cases hv
    subst h0
    rw [Nat.zero_mul, Nat.zero_add]
    exact times_rest c c out (Nat.le_refl _) (by omega)
  | succ d ih =>
    intro i v c out hi hv hc ho
    have hlt : i < a.length := by omega
    have hv0 : 0 < v := by
      by_cases e : v = 0
      · subst e; rw [digs_zero, List.drop_eq_nil_iff] at hv; omega
      · omega
    rw [digs_pos hv0, List.drop_eq_getElem_cons hlt] at hv
    obtain ⟨g1, g2⟩ := List.cons.inj hv
    have hrd : rd a (i : Int) = ((v % 65536 : Nat) : Int) := by rw [rd_nat, List.getD_eq_getElem?_getD, List.getElem?_eq_getElem hlt, Option.getD_some, g1]
    obtain ⟨x, hx⟩ : ∃ x, x = v % 65536 := ⟨_, rfl⟩
    have hx2 : x < 65536 := by rw [hx]; exact Nat.mod_lt _ (by omega)
    have hxf : x * f ≤ 65535 * f := Nat.mul_le_mul_right f (by omega)
    rw [← hx] at hrd
    obtain ⟨t, ht⟩ : ∃ t, t = x * f + c := ⟨_, rfl⟩
    have htb : t ≤ 1000000000000 := by omega
    have htf : t / 65536 ≤ f := by omega
    have hval := times_val v f c x t hx ht
    have b1 : x * f ≤ 100000000000 := by omega
    have b2 : c ≤ 100000 := by omega
    have c1 : (i : Int) < (a.length : Int) := by omega
    have c2 : (0 : Int) ≤ i := by omega
    have c3 : out.length < 17592186044416 := by omega
    have b4 : i ≤ 1000000000 := by omega
    have hstep : ∀ k, puncheonref17_times.l0 (k + 1) a f out c i = puncheonref17_times.l0 k a f (out ++ [((t % 65536 : Nat) : Int)]) ((t / 65536 : Nat) : Int) ((i + 1 : Nat) : Int) := by
      intro k
      simp only [puncheonref17_times.l0]
      rw [if_pos c1, if_pos c2, if_pos c3, hrd, times_num x f c _ rfl b1 b2, ← ht, tmod_nat t, tdiv_nat t htb, wS i b4]
    refine Ev.step hstep ?_
    clear hstep hrd b1 b2 c1 c2 c3 b4 hxf ht hx
    have := ih (i + 1) (v / 65536) (t / 65536) (out ++ [((t % 65536 : Nat) : Int)]) (by omega) g2 htf (by rw [List.length_append, List.length_singleton]; omega)
    have hpos : 0 < v * f + c := by have := Nat.mul_pos hv0 hf; omega
    have h1 : (v * f + c) % 65536 = t % 65536 := by rw [hval]; omega
    have h2 : (v * f + c) / 65536 = v / 65536 * f + t / 65536 := by rw [hval]; omega
    rw [digs_pos hpos, h1, h2, show out ++ ((t % 65536 : Nat) : Int) :: digs (v / 65536 * f + t / 65536) = (out ++ [((t % 65536 : Nat) : Int)]) ++ digs (v / 65536 * f + t / 65536) by simp]
    exact this
theorem refTimes_eq (n f : Nat) (hf : 0 < f) (hf2 : f ≤ 100000) (hl : (digs n).length ≤ 1000000) : Ev (fun k => puncheonref17_times.f k (digs n) f) (digs (n * f)) := by
  have := times_loop (digs n) f hf hf2 hl (digs n).length 0 n 0 [] (by omega) (by simp) (by omega) rfl
  rw [Nat.add_zero, List.nil_append] at this
  exact this
end Go.Proofs.Ytfnobinenolhhaa
namespace Go.Proofs.Ytfnobinenolhhaa
open Go.RowKit Go.Proofs.Ytfnobinenolhhaa.PRef Go.Proofs.YtfnobinenolhhaaW.PrintWords Go.Proofs.YtfnobinenolhhaaW.PrintLast Go.Proofs.YtfnobinenolhhaaW.PrintMore
/-- what words tell -/
def valW : List Int → Int
  | [] => 0
  | a :: l => a + 65536 * valW l
def WordsL (l : List Int) : Prop := ∀ x ∈ l, 0 ≤ x ∧ x < 65536
theorem digs_words : ∀ (m n : Nat), n ≤ m → WordsL (digs n) ∧ valW (digs n) = n := by
  intro m
  induction m with
  | zero =>
    intro n h
    obtain rfl : n = 0 := by omega
    rw [digs_zero]; exact ⟨(fun x hx => by cases hx), rfl⟩
  | succ m ih =>
    intro n h
    by_cases h0 : n = 0
    · subst h0; rw [digs_zero]; exact ⟨(fun x hx => by cases hx), rfl⟩
    · obtain ⟨h1, h2⟩ := ih (n / 65536) (by omega)
      rw [digs_pos (by omega)]
      refine ⟨fun x hx => ?_, ?_⟩
      · rcases List.mem_cons.1 hx with e | e
        · rw [e]; omega
        · exact h1 x e
      · simp only [valW]; rw [h2]; omega
/-- with the same words from i + 1 on, the i-th decides -/
theorem val_cmp : ∀ (i : Nat) (a b : List Int) (ha : WordsL a) (hb : WordsL b), i < a.length → i < b.length → a.drop (i + 1) = b.drop (i + 1) → (a.getD i 0 > b.getD i 0 → valW a > valW b) := by
  intro i
  induction i with
  | zero =>
    intro a b ha hb h1 h2 hd hg
    cases a with
    | nil => simp at h1
    | cons x a =>
      cases b with
      | nil => simp at h2
      | cons y b =>
        simp only [List.drop_succ_cons, List.drop_zero, List.getD_cons_zero] at hd hg
        subst hd
        simp only [valW]; omega
  | succ i ih =>
    intro a b ha hb h1 h2 hd hg
    cases a with
    | nil => simp at h1
    | cons x a =>
      cases b with
      | nil => simp at h2
      | cons y b =>
        simp only [List.drop_succ_cons, List.getD_cons_succ] at hd hg
        have := ih a b (fun z hz => ha z (List.mem_cons_of_mem _ hz)) (fun z hz => hb z (List.mem_cons_of_mem _ hz)) (by simpa using h1) (by simpa using h2) hd hg
        have h3 := ha x (List.mem_cons_self ..)
        have h4 := hb y (List.mem_cons_self ..)
        simp only [valW]; omega
/-- fewer words, a smaller number -/
theorem digs_len : ∀ (k n m : Nat), (digs n).length ≤ k → (digs n).length < (digs m).length → n < m := by
  intro k
  induction k with
  | zero =>
    intro n m h1 h2
    by_cases h0 : n = 0
    · subst h0
      by_cases h3 : m = 0
      · subst h3; omega
      · omega
    · rw [digs_pos (by omega)] at h1; simp at h1
  | succ k ih =>
    intro n m h1 h2
    by_cases h3 : m = 0
    · subst h3; rw [digs_zero] at h2; simp at h2
    · by_cases h0 : n = 0
      · omega
      · rw [digs_pos (n := n) (by omega)] at h1 h2
        rw [digs_pos (n := m) (by omega)] at h2
        simp only [List.length_cons] at h1 h2
        have := ih (n / 65536) (m / 65536) (by omega) (by omega)
        omega
theorem above_loop (a b : List Int) (ha : WordsL a) (hb : WordsL b) (hl : a.length = b.length) (hl2 : a.length ≤ 1000000) : ∀ i, i ≤ a.length → a.drop i = b.drop i → Ev (fun k => puncheonref17_above.l0 k a b ((i : Int) - 1)) (decide (valW b < valW a)) := by
  intro i
  induction i with
  | zero =>
    intro _ hd
    rw [List.drop_zero, List.drop_zero] at hd
    subst hd
    refine Ev.step (fun k => (show puncheonref17_above.l0 (k + 1) a a _ = _ by simp only [puncheonref17_above.l0]; rw [if_neg (by omega)])) ?_
    rw [decide_eq_false (by omega)]; exact Ev.now _
  | succ i ih =>
    intro hi hd
    have c1 : (((i + 1 : Nat) : Int) - 1) ≥ 0 := by omega
    have c2 : (((i + 1 : Nat) : Int) - 1) < (a.length : Int) := by omega
    have c3 : (((i + 1 : Nat) : Int) - 1) < (b.length : Int) := by omega
    have e0 : (((i + 1 : Nat) : Int) - 1) = (i : Int) := by omega
    rw [e0] at c1 c2 c3 ⊢
    have hla : i < a.length := by omega
    have hlb : i < b.length := by omega
    have w1 : wrap64 ((i : Int) - 1) = (i : Int) - 1 := w64 (by omega)
    by_cases e : a.getD i 0 = b.getD i 0
    · refine Ev.step (fun k => (show puncheonref17_above.l0 (k + 1) a b _ = _ by simp only [puncheonref17_above.l0]; rw [if_pos c1, if_pos c1, if_pos c2, if_pos c3, rd_nat, rd_nat, if_pos e, w1])) ?_
      refine ih (by omega) ?_
      rw [List.drop_eq_getElem_cons hla, List.drop_eq_getElem_cons hlb, hd]
      rw [List.getD_eq_getElem?_getD, List.getD_eq_getElem?_getD, List.getElem?_eq_getElem hla, List.getElem?_eq_getElem hlb] at e
      simp only [Option.getD_some] at e
      rw [e]
    · refine Ev.step (fun k => (show puncheonref17_above.l0 (k + 1) a b _ = _ by simp only [puncheonref17_above.l0]; rw [if_pos c1, if_pos c1, if_pos c2, if_pos c3, rd_nat, rd_nat, if_neg e])) ?_
      have e2 : decide (a.getD i 0 > b.getD i 0) = decide (valW b < valW a) := by
        by_cases h : a.getD i 0 > b.getD i 0
        · rw [decide_eq_true h, decide_eq_true (val_cmp i a b ha hb hla hlb hd h)]
        · have := val_cmp i b a hb ha hlb hla hd.symm (by omega)
          rw [decide_eq_false h, decide_eq_false (by omega)]
      rw [e2]; exact Ev.now _
theorem refAbove_eq (n m : Nat) (hl : (digs n).length ≤ 1000000) : Ev (fun k => puncheonref17_above.f k (digs n) (digs m)) (decide (m < n)) := by
  obtain ⟨a1, a2⟩ := digs_words n n (Nat.le_refl _)
  obtain ⟨b1, b2⟩ := digs_words m m (Nat.le_refl _)
  by_cases h : (digs n).length = (digs m).length
  · have w1 : wrap64 (((digs n).length : Int) - 1) = ((digs n).length : Int) - 1 := w64 (by omega)
    have c1 : ((digs n).length : Int) = ((digs m).length : Int) := by omega
    refine Ev.congr (fun k => (show puncheonref17_above.f k (digs n) (digs m) = _ by unfold puncheonref17_above.f; rw [if_pos c1, w1])) ?_
    have := above_loop (digs n) (digs m) a1 b1 h hl (digs n).length (Nat.le_refl _) (by rw [List.drop_length, h, List.drop_length])
    rw [a2, b2] at this
    have e : decide ((m : Int) < n) = decide (m < n) := by simp
    rw [e] at this; exact this
  · have c1 : ¬ ((digs n).length : Int) = ((digs m).length : Int) := by omega
    refine Ev.congr (fun k => (show puncheonref17_above.f k (digs n) (digs m) = _ by unfold puncheonref17_above.f; rw [if_neg c1])) ?_
    have e : decide (((digs n).length : Int) > ((digs m).length : Int)) = decide (m < n) := by
      by_cases h2 : (digs m).length < (digs n).length
      · rw [decide_eq_true (by omega), decide_eq_true (digs_len _ m n (Nat.le_refl _) h2)]
      · have := digs_len _ n m (Nat.le_refl _) (by omega)
        rw [decide_eq_false (by omega), decide_eq_false (by omega)]
    rw [e]; exact Ev.now _
end Go.Proofs.Ytfnobinenolhhaa
namespace Go.Proofs.Ytfnobinenolhhaa
theorem countP_lt {p : Nat → Bool} {K : Nat} (h : ∀ j, p j = true → j < K) (N : Nat) : (List.range N).countP p ≤ K := by
  induction N with
  | zero => simp
  | succ N ih =>
    rw [List.range_succ, List.countP_append]
    by_cases e : p N = true
    · have h1 := List.countP_le_length (p := p) (l := List.range N)
      rw [List.length_range] at h1
      have h2 := h N e
      simp [e]; omega
    · simp [e]; exact ih
theorem countP_ge {p : Nat → Bool} {K : Nat} (h : ∀ j, j < K → p j = true) (N : Nat) (hN : K ≤ N) : K ≤ (List.range N).countP p := by
  induction N with
  | zero => omega
  | succ N ih =>
    rw [List.range_succ, List.countP_append]
    by_cases e : K ≤ N
    · have := ih e; omega
    · have hK : K = N + 1 := by omega
      have h1 : (List.range N).countP p = (List.range N).length := List.countP_eq_length.2 (fun x hx => h x (by rw [List.mem_range] at hx; omega))
      rw [h1, List.length_range]
      simp [h N (by omega)]; omega
/-- another symbol's key that is no more than (c + d) / c -/
def lowP (c d s : Int) (x : K3) : Bool := decide (x.2.2 ≠ s ∧ x.1 * c ≤ (c + d) * x.2.1)
theorem low_keys (c d s n : Int) (t : Nat) (hc : 0 < c) (hd : 0 ≤ d) (hn : 0 ≤ n) : c * ((keysOf n t).countP (lowP c d s) : Nat) ≤ d * n + (if 0 < n then c else 0) := by
  by_cases h0 : 0 < n
  · rw [if_pos h0]
    unfold keysOf
    rw [List.countP_map]
    have hdn : 0 ≤ d * n := Int.mul_nonneg hd hn
    have hK := countP_lt (p := lowP c d s ∘ fun (j : Nat) => (n + j, n, (t : Int))) (K := (d * n / c).toNat + 1) (fun j hj => by
      simp only [Function.comp, lowP, decide_eq_true_eq] at hj
      have h2 : (j : Int) * c ≤ d * n := by
        have := hj.2
        rw [Int.add_mul, Int.add_mul, Int.mul_comm n c] at this; omega
      have h3 : (j : Int) ≤ d * n / c := (Int.le_ediv_iff_mul_le hc).2 h2
      omega) n.toNat
    have h4 : c * (d * n / c) ≤ d * n := Int.mul_ediv_self_le (by omega)
    have h5 : 0 ≤ d * n / c := Int.ediv_nonneg hdn (by omega)
    have h6 : ((List.range n.toNat).countP (lowP c d s ∘ fun (j : Nat) => (n + j, n, (t : Int))) : Int) ≤ d * n / c + 1 := by omega
    have h7 := Int.mul_le_mul_of_nonneg_left h6 (by omega : 0 ≤ c)
    rw [Int.mul_add] at h7; omega
  · rw [keysOf_none h0, if_neg h0]
    have : n = 0 := by omega
    subst this; simp
theorem low_self (c d n : Int) (t : Nat) : (keysOf n t).countP (lowP c d t) = 0 := by
  rw [List.countP_eq_zero]
  intro x hx
  unfold keysOf at hx
  rw [List.mem_map] at hx
  obtain ⟨j, _, rfl⟩ := hx
  simp [lowP]
theorem low_all {q : List Int} (hq : ∀ x ∈ q, 0 ≤ x) {s : Nat} (_ : s < q.length) {d : Int} (hc : 0 < q.getD s 0) (hd : 0 ≤ d) : ∀ k, k ≤ q.length →
    q.getD s 0 * ((allKeys (q.take k)).countP (lowP (q.getD s 0) d s) : Nat) + (if s < k then d * q.getD s 0 + q.getD s 0 else 0) ≤ d * (q.take k).sum + q.getD s 0 * (posC q k : Nat) := by
  intro k
  induction k with
  | zero => intro _; simp [allKeys, posC]
  | succ k ih =>
    intro hk
    have h1 := ih (by omega)
    have hn : 0 ≤ q.getD k 0 := by
      rw [List.getD_eq_getElem?_getD, List.getElem?_eq_getElem (by omega)]; exact hq _ (List.getElem_mem _)
    have hsum : (q.take (k + 1)).sum = (q.take k).sum + q.getD k 0 := by
      rw [List.take_succ_eq_append_getElem (by omega), List.sum_append, List.getD_eq_getElem?_getD, List.getElem?_eq_getElem (by omega)]; simp
    rw [allKeys_take (by omega), List.countP_append, hsum, posC_succ q k (by omega)]
    have e1 : q.getD s 0 * (((allKeys (q.take k)).countP (lowP (q.getD s 0) d s) + (keysOf (q.getD k 0) k).countP (lowP (q.getD s 0) d s) : Nat) : Int) = q.getD s 0 * ((allKeys (q.take k)).countP (lowP (q.getD s 0) d s) : Nat) + q.getD s 0 * ((keysOf (q.getD k 0) k).countP (lowP (q.getD s 0) d s) : Nat) := by rw [Int.natCast_add, Int.mul_add]
    have e2 : q.getD s 0 * ((posC q k + (if 0 < q.getD k 0 then 1 else 0) : Nat) : Int) = q.getD s 0 * (posC q k : Nat) + (if 0 < q.getD k 0 then q.getD s 0 else 0) := by
      split
      · rw [Int.natCast_add, Int.mul_add]; simp
      · simp
    have e3 : d * ((q.take k).sum + q.getD k 0) = d * (q.take k).sum + d * q.getD k 0 := Int.mul_add _ _ _
    rw [e1, e2, e3]
    by_cases h : s = k
    · subst h
      rw [low_self, if_pos (by omega), if_pos hc]
      rw [if_neg (by omega)] at h1
      rw [show ((0 : Nat) : Int) = 0 from rfl, Int.mul_zero]; omega
    · have h2 := low_keys (q.getD s 0) d s (q.getD k 0) k hc hd hn
      by_cases h3 : s < k
      · rw [if_pos h3] at h1; rw [if_pos (by omega)]; omega
      · rw [if_neg h3] at h1; rw [if_neg (by omega)]; omega
def symP (s : Int) (x : K3) : Bool := decide (x.2.2 = s)
theorem posN_take (l : List Int) (s : Int) : ∀ k, k ≤ l.length → (posN l s k).length = (l.take k).countP (fun x => decide (x = s)) := by
  intro k
  induction k with
  | zero => intro _; simp [posN_zero]
  | succ k ih =>
    intro h
    have e : l.getD k (-1) = l[k] := by rw [List.getD_eq_getElem?_getD, List.getElem?_eq_getElem (by omega), Option.getD_some]
    rw [List.take_succ_eq_append_getElem (by omega), List.countP_append]
    by_cases h1 : l.getD k (-1) = s
    · rw [posN_hit h1, List.length_append, ih (by omega)]; rw [e] at h1; simp [h1]
    · rw [posN_miss h1, ih (by omega)]; rw [e] at h1; simp [h1]
theorem posN_at (l : List Int) (s : Int) : ∀ (k d : Nat), d < (posN l s k).length → ∃ P : Nat, (posN l s k).getD d 0 = P ∧ P < k ∧ l.getD P (-1) = s ∧ (posN l s P).length = d := by
  intro k
  induction k with
  | zero => intro d h; simp [posN_zero] at h
  | succ k ih =>
    intro d h
    by_cases h1 : l.getD k (-1) = s
    · rw [posN_hit h1] at h ⊢
      by_cases h2 : d < (posN l s k).length
      · obtain ⟨P, e1, e2, e3, e4⟩ := ih d h2
        refine ⟨P, ?_, by omega, e3, e4⟩
        rw [← e1, List.getD_eq_getElem?_getD, List.getElem?_append_left h2, ← List.getD_eq_getElem?_getD]
      · rw [List.length_append, List.length_singleton] at h
        have hd : d = (posN l s k).length := by omega
        refine ⟨k, ?_, by omega, h1, hd.symm⟩
        rw [List.getD_eq_getElem?_getD, hd, List.getElem?_append_right (Nat.le_refl _)]; simp
    · rw [posN_miss h1] at h ⊢
      obtain ⟨P, e1, e2, e3, e4⟩ := ih d h
      exact ⟨P, e1, by omega, e3, e4⟩
/-- how many keys lie before a symbol's d-th -/
theorem rank_le {q : List Int} (hq : Good q) {s : Nat} (hs : s < q.length) (hc : 0 < q.getD s 0) {P : Nat} (hP : P < (orderL q).length) (hsym : (symsL q).getD P (-1) = (s : Int)) :
    q.getD s 0 * (P : Int) + (posN (symsL q) s P).length * q.getD s 0 + q.getD s 0 ≤ q.getD s 0 * (posN (symsL q) s P).length + (posN (symsL q) s P).length * q.sum + q.getD s 0 * (posC q q.length : Nat) := by
  obtain ⟨c, hcc⟩ : ∃ c, c = q.getD s 0 := ⟨_, rfl⟩
  obtain ⟨l, hl⟩ : ∃ l, l = orderL q := ⟨_, rfl⟩
  have hperm := orderL_perm hq
  have hsort := orderL_sorted hq
  rw [← hl] at hP hperm hsort
  have hgood : ∀ x ∈ l, GK x := fun x hx => allKeys_good hq x (hperm.mem_iff.1 hx)
  have hmem := mem_allKeys.1 (hperm.mem_iff.1 (List.getElem_mem hP))
  have hsy : (symsL q).getD P (-1) = l[P].2.2 := by
    unfold symsL; rw [← hl, List.getD_eq_getElem?_getD, List.getElem?_map, List.getElem?_eq_getElem hP]; rfl
  rw [hsy] at hsym
  obtain ⟨s', e, hs', he, hx⟩ := hmem
  have hss : s' = s := by rw [hx] at hsym; exact Int.ofNat.inj hsym
  subst hss
  rw [← hcc] at he hx hc ⊢
  have hkey := hgood _ (List.getElem_mem hP)
  -- those before are no more
  have hbef : ∀ x ∈ l.take P, leK x l[P] := by
    intro x hx'
    rw [List.mem_take_iff_getElem] at hx'
    obtain ⟨i, hi, rfl⟩ := hx'
    exact List.pairwise_iff_getElem.1 hsort i P (by omega) hP (by omega)
  have haft : ∀ x ∈ l.drop P, leK l[P] x := by
    intro x hx'
    rw [List.mem_drop_iff_getElem] at hx'
    obtain ⟨i, hi, rfl⟩ := hx'
    by_cases h0 : i = 0
    · subst h0; exact leK_refl hkey
    · exact List.pairwise_iff_getElem.1 hsort P (P + i) hP (by omega) (by omega)
  obtain ⟨d, hd⟩ : ∃ d, d = (posN (symsL q) s' P).length := ⟨_, rfl⟩
  have hdc : d = (l.take P).countP (symP s') := by
    rw [hd, posN_take _ _ _ (by unfold symsL; rw [← hl, List.length_map]; omega)]
    unfold symsL
    rw [← hl, ← List.map_take, List.countP_map]; rfl
  rw [← hd]
  -- d' of the symbol's keys are less
  have hed : e ≤ d := by
    have h1 : e ≤ (allKeys q).countP (fun x => decide (x.2.2 = (s' : Int) ∧ x.1 < c + e)) := by
      have h2 : e ≤ (keysOf c s').countP (fun x => decide (x.2.2 = (s' : Int) ∧ x.1 < c + e)) := by
        unfold keysOf
        rw [List.countP_map]
        exact countP_ge (fun j hj => by simp [Function.comp]; omega) _ (by omega)
      have h3 : ∀ k, s' < k → k ≤ q.length → e ≤ (allKeys (q.take k)).countP (fun x => decide (x.2.2 = (s' : Int) ∧ x.1 < c + e)) := by
        intro k
        induction k with
        | zero => intro h; omega
        | succ k ih =>
          intro h4 h5
          rw [allKeys_take (by omega), List.countP_append]
          by_cases h6 : s' = k
          · subst h6; rw [← hcc]; omega
          · have := ih (by omega) (by omega); omega
      have := h3 q.length hs' (Nat.le_refl _)
      rw [List.take_length] at this; exact this
    rw [← hperm.countP_eq, ← List.take_append_drop P l, List.countP_append] at h1
    have h2 : (l.drop P).countP (fun x => decide (x.2.2 = (s' : Int) ∧ x.1 < c + e)) = 0 := by
      rw [List.countP_eq_zero]
      intro x hx'
      have h3 := haft x hx'
      have hxl : x ∈ l := List.mem_of_mem_drop hx'
      have h4 := (lessK_false (hgood x hxl) hkey).1 h3
      obtain ⟨t, f, _, hf, hxe⟩ := mem_allKeys.1 (hperm.mem_iff.1 hxl)
      simp only [decide_eq_true_eq]
      rintro ⟨h5, h6⟩
      rw [hxe] at h5 h6 h4
      rw [hx] at h4
      have ht : t = s' := Int.ofNat.inj h5
      subst ht
      rw [← hcc] at h4 h6
      simp only at h4 h6
      have h7 : (c + e) * c ≤ (c + f) * c := by omega
      have := Int.le_of_mul_le_mul_right h7 hc
      omega
    rw [h2] at h1
    have h3 : (l.take P).countP (fun x => decide (x.2.2 = (s' : Int) ∧ x.1 < c + e)) ≤ (l.take P).countP (symP s') := List.countP_mono_left (fun x _ h => by simp only [symP, decide_eq_true_eq] at h ⊢; exact h.1)
    omega
  -- the others
  have hoth : P - d ≤ (allKeys q).countP (lowP c e s') := by
    rw [← hperm.countP_eq, ← List.take_append_drop P l, List.countP_append]
    have h1 := List.length_eq_countP_add_countP (symP s') (l := l.take P)
    rw [List.length_take, ← hdc] at h1
    have h2 : (l.take P).countP (fun a => decide ¬(symP s') a = true) ≤ (l.take P).countP (lowP c e s') := List.countP_mono_left (fun x hx' h => by
      simp only [symP, decide_eq_true_eq] at h
      have h3 := (lessK_false hkey (hgood x (List.mem_of_mem_take hx'))).1 (hbef x hx')
      rw [hx] at h3
      simp only at h3
      simp only [lowP, decide_eq_true_eq]
      exact ⟨h, by omega⟩)
    omega
  have hall := low_all hq.nonneg hs' (by rw [← hcc]; exact hc) (d := (e : Int)) (by omega) q.length (Nat.le_refl _)
  rw [List.take_length, if_pos hs', ← hcc] at hall
  have hsm : c ≤ q.sum := by rw [hcc]; exact le_sum hq.nonneg (getD_mem hs')
  have m1 := Int.mul_le_mul_of_nonneg_right (show (e : Int) ≤ d by omega) (show 0 ≤ q.sum - c by omega)
  rw [Int.mul_sub, Int.mul_sub] at m1
  have m2 := Int.mul_le_mul_of_nonneg_left (show (P : Int) ≤ d + ((allKeys q).countP (lowP c e s') : Nat) by omega) (show 0 ≤ c by omega)
  rw [Int.mul_add] at m2
  omega
/-- a place is no further on than the count has grown, but for one place a symbol -/
theorem place_bound {q : List Int} (hl : logC q ≠ 0) {s : Nat} (hs : s < 256) {i : Nat} (h1 : cntC q s ≤ i) (h2 : i < 2 * cntC q s) :
    (cntC q s : Int) * (2 ^ logC q + (placesC q s).getD (i - cntC q s) 0) ≤ i * (2 ^ logC q + (posC q q.length : Nat) - 1) := by
  have hq := good_of_log hl
  have hc := cnt_eq hq s
  have hlen : (placesC q s).length = cntC q s := rfl
  obtain ⟨P, e1, e2, e3, e4⟩ := posN_at (symsL q) s (symsL q).length (i - cntC q s) (by have : (posN (symsL q) s (symsL q).length).length = cntC q s := rfl; omega)
  have e1' : (placesC q s).getD (i - cntC q s) 0 = P := e1
  have hge := hq.get s
  have hol : (symsL q).length = (orderL q).length := by unfold symsL; rw [List.length_map]
  have hsl : s < q.length := by rw [hq.len]; exact hs
  have hr := rank_le hq hsl (by omega) (P := P) (by omega) e3
  have hsum : q.sum = 2 ^ logC q := by
    have h3 := logT_pow hl
    have hr : rightC q = true := rightC_iff.2 ⟨hq.len, hq.nonneg, by have := hq.sum; omega⟩
    have h4 : totalC q = q.sum := by unfold totalC; rw [if_pos hr]
    rw [← h4]; exact h3
  have hM0 : 1 ≤ posC q q.length := by
    unfold posC
    rw [List.take_length]
    exact List.countP_pos_iff.2 ⟨q.getD s 0, getD_mem hsl, by simp only [decide_eq_true_eq]; omega⟩
  rw [e4, hsum] at hr
  rw [e1']
  obtain ⟨c, hcd⟩ : ∃ c, c = q.getD s 0 := ⟨_, rfl⟩
  rw [← hcd] at hr hc
  have hcc : (cntC q s : Int) = c := by omega
  obtain ⟨d, hd⟩ : ∃ d, i = cntC q s + d := ⟨i - cntC q s, by omega⟩
  obtain ⟨S, hS⟩ : ∃ S : Int, S = 2 ^ logC q := ⟨_, rfl⟩
  obtain ⟨M, hM⟩ : ∃ M : Int, M = (posC q q.length : Nat) := ⟨_, rfl⟩
  rw [← hS, ← hM] at hr ⊢
  rw [show i - cntC q s = d by omega] at hr
  rw [hd, Int.natCast_add, hcc]
  have m1 := Int.mul_le_mul_of_nonneg_left (show 1 ≤ M by omega) (show (0 : Int) ≤ d by omega)
  have m2 := Int.mul_comm c d
  rw [Int.mul_add, Int.add_mul, Int.mul_sub, Int.mul_sub, Int.mul_add, Int.mul_add]
  omega
theorem step_cheap {q : List Int} {x : Int} {s : Nat} (hl : logC q ≠ 0) (hx : 0 ≤ x ∧ x < 2 ^ logC q) (hs : s < 256) (hc : 0 < cntC q s) :
    (cntC q s : Int) * 2 ^ stepOut q x s * (2 ^ logC q + stepNext q x s) ≤ (2 ^ logC q + x) * (2 ^ logC q + (posC q q.length : Nat) - 1) := by
  obtain ⟨H, hW⟩ := step_nums hl hx hc
  have hb := place_bound hl hs H.ge H.lt
  have hn : stepNext q x s = (placesC q s).getD (wholeC q x / 2 ^ stepOut q x s - cntC q s) 0 := rfl
  rw [← hn] at hb
  obtain ⟨i, hi⟩ : ∃ i, i = wholeC q x / 2 ^ stepOut q x s := ⟨_, rfl⟩
  rw [← hi] at hb H
  obtain ⟨T, hT⟩ : ∃ T : Nat, T = 2 ^ stepOut q x s := ⟨_, rfl⟩
  have hTI : (2 : Int) ^ stepOut q x s = (T : Int) := by rw [hT]; simp
  have hWe := H.eq
  rw [← hT] at hWe
  rw [hTI, ← hW]
  obtain ⟨K, hK⟩ : ∃ K : Int, K = 2 ^ logC q + (posC q q.length : Nat) - 1 := ⟨_, rfl⟩
  rw [← hK] at hb ⊢
  have hK0 : 0 ≤ K := by
    have : (2 : Int) ^ logC q = ((2 ^ logC q : Nat) : Int) := by simp
    have := Nat.two_pow_pos (logC q)
    omega
  have h1 := Int.mul_le_mul_of_nonneg_right hb (show (0 : Int) ≤ T by omega)
  have h2 : (i : Int) * T ≤ wholeC q x := by
    have : (wholeC q x : Int) = ((i * T + stepLow q x s : Nat) : Int) := by rw [← hWe]
    rw [this, Int.natCast_add, Int.natCast_mul]; omega
  have h3 := Int.mul_le_mul_of_nonneg_right h2 hK0
  have e1 : (cntC q s : Int) * T * (2 ^ logC q + stepNext q x s) = (cntC q s : Int) * (2 ^ logC q + stepNext q x s) * T := by ac_rfl
  have e2 : (i : Int) * K * T = i * T * K := by ac_rfl
  rw [e1]; rw [e2] at h1
  exact Int.le_trans h1 h3
/-- the product of the counts; of what bounds it -/
def xT (one : Bool) (qs : List (List Int)) : Int → List Int → Int
  | _, [] => 1
  | last, c :: z => (cntC (qOf one qs last) c : Int) * xT one qs c z
def yT (S : Int) (one : Bool) (qs : List (List Int)) : Int → List Int → Int
  | _, [] => 1
  | last, c :: z => (S + (posC (qOf one qs last) (qOf one qs last).length : Nat) - 1) * yT S one qs c z
theorem xT_nonneg (one : Bool) (qs : List (List Int)) : ∀ (z : List Int) (last : Int), 0 ≤ xT one qs last z
  | [], _ => by simp [xT]
  | c :: z, last => by simp only [xT]; exact Int.mul_nonneg (by omega) (xT_nonneg one qs z c)
theorem yT_nonneg (S : Int) (hS : 1 ≤ S) (one : Bool) (qs : List (List Int)) : ∀ (z : List Int) (last : Int), 0 ≤ yT S one qs last z
  | [], _ => by simp [yT]
  | c :: z, last => by simp only [yT]; exact Int.mul_nonneg (by omega) (yT_nonneg S hS one qs z c)
theorem cheapT {lg : Int} {one : Bool} {qs : List (List Int)} : ∀ (z : List Int) (last : Int) (i : Nat), fitT lg one qs last z →
    xT one qs last z * 2 ^ (encT one qs last i z).2.length * ((2 ^ lg.toNat + (encT one qs last i z).1.1) * (2 ^ lg.toNat + (encT one qs last i z).1.2)) ≤ 2 ^ lg.toNat * 2 ^ lg.toNat * yT (2 ^ lg.toNat) one qs last z := by
  intro z
  induction z with
  | nil => intro last i _; simp [xT, yT, encT]
  | cons c z ih =>
    intro last i hf
    have hfz := hf.2
    obtain ⟨h1, h2, h3, h4, h5⟩ := hf.1
    have hI := ih c (i + 1) hfz
    have hR := encT_range z c (i + 1) hfz
    have hY := yT_nonneg (2 ^ lg.toNat) (by have : (2 : Int) ^ lg.toNat = ((2 ^ lg.toNat : Nat) : Int) := by simp
                                            have := Nat.two_pow_pos lg.toNat
                                            omega) one qs z c
    have hX := xT_nonneg one qs z c
    have e : lg.toNat = logC (qOf one qs last) := by omega
    obtain ⟨s, hs⟩ : ∃ s : Nat, c = s := ⟨c.toNat, by omega⟩
    subst hs
    simp only [encT, xT, yT, List.length_append]
    obtain ⟨r, hr⟩ : ∃ r, r = encT one qs (s : Int) (i + 1) z := ⟨_, rfl⟩
    rw [← hr] at hI hR ⊢
    obtain ⟨x, hxx⟩ : ∃ x, x = pick2 (i % 2) r.1.1 r.1.2 := ⟨_, rfl⟩
    rw [← hxx]
    have hx : 0 ≤ x ∧ x < 2 ^ logC (qOf one qs last) := by
      rw [hxx, ← e]; unfold pick2; split
      · exact hR.1
      · exact hR.2
    have hst := step_cheap h1 hx (s := s) (by omega) h5
    rw [← e] at hst
    obtain ⟨S, hS⟩ : ∃ S : Int, S = 2 ^ lg.toNat := ⟨_, rfl⟩
    have hS1 : 1 ≤ S := by
      have : (2 : Int) ^ lg.toNat = ((2 ^ lg.toNat : Nat) : Int) := by simp
      have := Nat.two_pow_pos lg.toNat
      omega
    rw [← hS] at hI hR hst hY ⊢
    rw [lowBits_len, Int.pow_add]
    obtain ⟨C, hC⟩ : ∃ C : Int, C = cntC (qOf one qs last) s := ⟨_, rfl⟩
    obtain ⟨N, hN⟩ : ∃ N : Int, N = 2 ^ stepOut (qOf one qs last) x s := ⟨_, rfl⟩
    obtain ⟨y, hy⟩ : ∃ y, y = stepNext (qOf one qs last) x s := ⟨_, rfl⟩
    obtain ⟨K, hK⟩ : ∃ K, K = S + (posC (qOf one qs last) (qOf one qs last).length : Nat) - 1 := ⟨_, rfl⟩
    obtain ⟨L, hL⟩ : ∃ L : Int, L = 2 ^ r.2.length := ⟨_, rfl⟩
    have hL0 : 0 ≤ L := by rw [hL]; exact Int.pow_nonneg (by omega)
    rw [← hC, ← hN, ← hy, ← hK] at hst ⊢
    rw [← hL] at hI ⊢
    have hK0 : 0 ≤ K := by omega
    have hI2 := Int.mul_le_mul_of_nonneg_right hI hK0
    have big : ∀ o : Int, 0 ≤ o → (S + r.1.1) * (S + r.1.2) = (S + x) * (S + o) → C * xT one qs s z * (L * N) * ((S + y) * (S + o)) ≤ S * S * (K * yT S one qs s z) := by
      intro o ho hso
      rw [hso] at hI2
      have hst2 := Int.mul_le_mul_of_nonneg_left hst (Int.mul_nonneg (Int.mul_nonneg hX hL0) (show 0 ≤ S + o by omega))
      have e1 : xT one qs s z * L * (S + o) * (C * N * (S + y)) = C * xT one qs s z * (L * N) * ((S + y) * (S + o)) := by ac_rfl
      have e2 : xT one qs s z * L * (S + o) * ((S + x) * K) = xT one qs s z * L * ((S + x) * (S + o)) * K := by ac_rfl
      have e3 : S * S * yT S one qs s z * K = S * S * (K * yT S one qs s z) := by ac_rfl
      rw [e1, e2] at hst2
      rw [e3] at hI2
      exact Int.le_trans hst2 hI2
    unfold set2
    by_cases ht : i % 2 = 0
    · rw [if_pos ht]
      have hx2 : x = r.1.1 := by rw [hxx]; unfold pick2; rw [if_pos ht]
      exact big r.1.2 hR.2.1 (by rw [hx2])
    · rw [if_neg ht]
      have hx2 : x = r.1.2 := by rw [hxx]; unfold pick2; rw [if_neg ht]
      have := big r.1.1 hR.1.1 (by rw [hx2]; exact Int.mul_comm _ _)
      rw [Int.mul_comm (S + r.1.1) (S + y)]; exact this
theorem cheap_law {lg : Int} {one : Bool} {qs : List (List Int)} {b : List Int} (h : canM lg one qs b = true) (hb : Bytes b) (h0 : 0 < b.length) :
    (encBits lg one qs b).length = (encT one qs 0 0 b).2.length + 2 * lg.toNat ∧ xT one qs 0 b * 2 ^ (encT one qs 0 0 b).2.length ≤ yT (2 ^ lg.toNat) one qs 0 b := by
  refine ⟨by rw [encBits_encT, List.length_append, List.length_append, lowBits_len, lowBits_len]; omega, ?_⟩
  have hf := (can_log h).1
  have hft := fits_fitT hf hb b.length (Nat.le_refl _)
  rw [Nat.sub_self, List.drop_zero, show ctxI b ((0 : Nat) : Int) = 0 from ctx_zero b h0] at hft
  have hc := cheapT b 0 0 hft
  have hR := encT_range b 0 0 hft
  have hX := xT_nonneg one qs b 0
  obtain ⟨S, hS⟩ : ∃ S : Int, S = 2 ^ lg.toNat := ⟨_, rfl⟩
  have hS1 : 1 ≤ S := by
    have : (2 : Int) ^ lg.toNat = ((2 ^ lg.toNat : Nat) : Int) := by simp
    have := Nat.two_pow_pos lg.toNat
    omega
  rw [← hS] at hc hR ⊢
  obtain ⟨X, hXe⟩ : ∃ X : Int, X = xT one qs 0 b * 2 ^ (encT one qs 0 0 b).2.length := ⟨_, rfl⟩
  have hX0 : 0 ≤ X := by rw [hXe]; exact Int.mul_nonneg hX (Int.pow_nonneg (by omega))
  rw [← hXe] at hc ⊢
  have h1 : S * S ≤ (S + (encT one qs 0 0 b).1.1) * (S + (encT one qs 0 0 b).1.2) := Int.mul_le_mul (by omega) (by omega) (by omega) (by omega)
  have h2 := Int.mul_le_mul_of_nonneg_left h1 hX0
  have h3 := Int.le_trans h2 hc
  rw [Int.mul_comm X] at h3
  exact Int.le_of_mul_le_mul_left h3 (Int.mul_pos (by omega) (by omega))
end Go.Proofs.Ytfnobinenolhhaa
namespace Go.Proofs.Ytfnobinenolhhaa
open Go.RowKit Go.IntWalk Go.Proofs.Ytfnobinenolhhaa.PRef Go.Proofs.YtfnobinenolhhaaW.PrintWords Go.Proofs.YtfnobinenolhhaaW.PrintLast Go.Proofs.YtfnobinenolhhaaW.PrintMore
theorem refMany12_loop (c : List Int) (hl : c.length ≤ 1000000) : ∀ (d i : Nat), i + d = c.length → Ev (fun k => puncheonref12_Many.l0 k c (posC c i : Int) (i : Int)) ((posC c c.length : Nat) : Int) := by
  intro d
  induction d with
  | zero =>
    intro i hi
    refine Ev.step (fun k => (show puncheonref12_Many.l0 (k + 1) c _ (i : Int) = _ by simp only [puncheonref12_Many.l0]; rw [if_neg (by omega)])) ?_
    rw [show i = c.length by omega]; exact Ev.now _
  | succ d ih =>
    intro i hi
    have hlt : i < c.length := by omega
    have hs := posC_succ c i hlt
    have hle := posC_le c i
    have c1 : (i : Int) < (c.length : Int) := by omega
    have c2 : (0 : Int) ≤ i := by omega
    have c3 : i ≤ 1000000000 := by omega
    have c4 : posC c i ≤ 1000000000 := by omega
    by_cases e : c.getD i 0 > 0
    · refine Ev.step (fun k => (show puncheonref12_Many.l0 (k + 1) c _ (i : Int) = _ by simp only [puncheonref12_Many.l0]; rw [if_pos c1, if_pos c2, rd_nat, if_pos e, wS i c3, wS (posC c i) c4])) ?_
      rw [if_pos (by omega)] at hs
      rw [← hs]; exact ih (i + 1) (by omega)
    · refine Ev.step (fun k => (show puncheonref12_Many.l0 (k + 1) c _ (i : Int) = _ by simp only [puncheonref12_Many.l0]; rw [if_pos c1, if_pos c2, rd_nat, if_neg e, wS i c3])) ?_
      rw [if_neg (by omega)] at hs
      have := ih (i + 1) (by omega)
      rw [hs] at this; exact this
theorem refMany12_eq (c : List Int) (hl : c.length ≤ 1000000) : Ev (fun k => puncheonref12_Many.f k c) ((posC c c.length : Nat) : Int) := by
  have := refMany12_loop c hl c.length 0 (by omega)
  have e : posC c 0 = 0 := by simp [posC]
  rw [e] at this
  exact this
section
variable (A : Option Addr) (cp : Nat) (w : World)
theorem rMany12_any (c : List Int) (hr : (Kd.int .i64).C w A c.length c) (hc : c.length ≤ cp) (hl : c.length ≤ 1000000) : Calls Try.prog 45 #[.slice A c.length cp] w (Ret (.int .i64 (posC c c.length : Nat)) w) := by
  obtain ⟨k, hk⟩ := (refMany12_eq c hl).rounds
  exact (puncheonref12_Many.calls k A cp c _ w hr hc hk).mono fun e w' h => ⟨h.1, h.2.below⟩
theorem rTimes_any (n f : Nat) (hf : 0 < f) (hf2 : f ≤ 100000) (hl : (digs n).length ≤ 1000000) (hr : (Kd.int .i64).C w A (digs n).length (digs n)) (hc : (digs n).length ≤ cp) : Calls Try.prog 44 #[.slice A (digs n).length cp, .int .i64 f] w (MadeI (digs (n * f)) w) := by
  obtain ⟨k, hk⟩ := (refTimes_eq n f hf hf2 hl).rounds
  exact (puncheonref17_times.calls k A cp (digs n) f _ w hr hc hk)
theorem rAbove_any (n m : Nat) (B : Option Addr) (cb : Nat) (hl : (digs n).length ≤ 1000000) (hr : (Kd.int .i64).C w A (digs n).length (digs n)) (hc : (digs n).length ≤ cp) (hb : (Kd.int .i64).C w B (digs m).length (digs m)) (hcb : (digs m).length ≤ cb) : Calls Try.prog 46 #[.slice A (digs n).length cp, .slice B (digs m).length cb] w (Ret (.bool (decide (m < n))) w) := by
  obtain ⟨k, hk⟩ := (refAbove_eq n m hl).rounds
  exact (puncheonref17_above.calls k A cp (digs n) B cb (digs m) _ w hr hc hb hcb hk).mono fun e w' h => ⟨h.1, h.2.below⟩
end
end Go.Proofs.Ytfnobinenolhhaa
namespace Go.Proofs.Ytfnobinenolhhaa
open Go.RowKit Go.IntWalk Go.Proofs.YtfnobinenolhhaaW.PrintWords
set_option maxRecDepth 100000 in
set_option maxHeartbeats 2000000 in
theorem rRightT_any (lg : Int) (one : Bool) (A : Option Addr) (c : Nat) (qs : List (List Int)) (w : World) (hr : kq.C w A qs.length qs) (h : rightM lg one qs = true) (h1 : one = true → 0 < (qs.getD 0 []).length) :
    Calls Try.prog 38 #[.agg #[.int .i64 lg, .bool one, .slice A qs.length c]] w (Ret (.bool true) w) := by
  obtain ⟨W1, hW1⟩ : ∃ W1, W1 = w.alloc (.cells #[.int .i64 lg, .bool one, .slice A qs.length c] 24) := ⟨_, rfl⟩
  have HB := Lib.hid ((Below.refl w.heap.size w).alloc (Nat.le_refl _) (.cells #[.int .i64 lg, .bool one, .slice A qs.length c] 24))
  have hk1 : W1.heap[w.heap.size]? = some (.cells #[.int .i64 lg, .bool one, .slice A qs.length c] 24 (0, 0)) := by rw [hW1]; exact blk_new _ _
  have HR : Hid (kq.C W1 A qs.length qs) := Lib.hid (by rw [hW1]; exact Kd.C_alloc hr _)
  rw [← hW1] at HB
  obtain ⟨l1, l2, l3, l4⟩ := right_len h
  have HL := Lib.hid (And.intro h1 (And.intro l3 l4))
  have HK := Lib.hid hk1
  have hn : Hid (qs.length ≤ 256) := Lib.hid (by rw [l3]; split <;> omega)
  have d1 : decide (lg < 1) = false := decide_eq_false (by omega)
  have d2 : decide (12 < lg) = false := decide_eq_false (by omega)
  have hd0 : (one = true ∧ qs.length = 1) ∨ (one = false ∧ qs.length = 256) := by cases one <;> simp_all
  obtain ⟨⟨m0, m1, m2⟩, _⟩ := cell3 hk1
  clear hr h h1 l1 l2 l3 l4 hk1
  obtain ⟨n, hnn⟩ : ∃ n, n = qs.length := ⟨_, rfl⟩
  rw [← hnn] at hd0 hn m2 HR HK ⊢
  rw [show (Obj.cells #[.int .i64 lg, .bool one, .slice A qs.length c] 24) = Obj.cells #[.int .i64 lg, .bool one, .slice A n c] 24 by rw [hnn]] at hW1
  have HN := Lib.hid hnn
  clear hnn
  have hcut : ∀ (o : Bool) (q1 q2 : Bool), True := fun _ _ _ => trivial
  have HF : one = true → ∀ i, i < n → (qs.getD i []).length ≠ 0 := fun e i hi => by
    rcases hd0 with ⟨_, e2⟩ | ⟨e1, _⟩
    · have := HL.out.1 e
      rw [show i = 0 by omega]; omega
    · rw [e] at e1; cases e1
  have HF' := Lib.hid HF
  clear HF
  have d3 : one = true → ((n : Int) != 1) = false := fun e => by rcases hd0 with ⟨_, e2⟩ | ⟨e1, _⟩ <;> simp_all
  have d4 : one = false → ((n : Int) != 256) = false := fun e => by rcases hd0 with ⟨e1, _⟩ | ⟨_, e2⟩ <;> simp_all
  have main : ∀ o : Bool, one = o → Calls Try.prog 38 #[.agg #[.int .i64 lg, .bool one, .slice A n c]] w (Ret (.bool true) w) := by
    intro o ho
    subst ho
    cases one
    all_goals
      first | have d5 := d3 rfl | have d5 := d4 rfl
      clear d3 d4 hd0 hcut
      go_enter Try.func38, Try.ntmps38
      go_wp2_with fail
      rw [← hW1]
      clear hW1 m0 m1 m2
      go_loopw [3] (fun kv wr => ∃ (i : Nat), kv = .int .i64 i ∧ i ≤ n ∧ Hid (Below W1.heap.size W1 wr)) (fun kv _ => n - (intOf kv).toNat)
      case atStart => exact ⟨0, rfl, by omega, Lib.hid (Below.refl _ _)⟩
      case round =>
        obtain ⟨i, rfl, hi, H⟩ := hrel
        obtain ⟨⟨m0, m1, m2⟩, _⟩ := cell3 (blk_below HK.out H.out)
        have hn256 := hn.out
        by_cases hlt : i < n
        · obtain ⟨ad, B, cb, rfl, hcell, hcb, hq⟩ := kq_at (Kd.C_below HR.out H.out) i hlt
          have hqs : i < qs.length := by rw [← HN.out]; exact hlt
          have HQL : Hid ((qs.getD i []).length ≠ 0 → (logC (qs.getD i []) : Int) = lg) := Lib.hid (fun e => (HL.out.2.2 _ (by rw [List.getD_eq_getElem?_getD, List.getElem?_eq_getElem hqs]; exact List.getElem_mem hqs) e).2)
          have HFi := fun e => HF'.out e i hlt
          obtain ⟨q, hqq⟩ : ∃ q, q = qs.getD i [] := ⟨_, rfl⟩
          rw [← hqq] at hcell hcb hq HQL HFi
          clear hqq hqs
          have HQ := Lib.hid (And.intro hcb hq)
          have hiI : (i : Int) < (n : Int) := by omega
          by_cases h0 : q.length = 0
          · first
              | exact absurd h0 (HFi (by first | exact True.intro | rfl))
              | (have d6 : ((q.length : Int) == 0) = true := by rw [h0]; rfl
                 clear h0 hlt hcb hq HFi
                 go_wp2_with fail
                 go_roundw
                 case rel => exact ⟨i + 1, by go_num, by omega, H⟩
                 case measure => simp [intOf]; omega)
          · have d6 : ((q.length : Int) == 0) = false := by simp; intro e; subst e; simp at h0
            have d7 : ((logC q : Int) != lg) = false := by simp; exact HQL.out h0
            clear h0 hcb hq HFi
            go_wp2_with fail
            go_region_held3 (fun w' => w'.cell? (ad.add i) = some (.slice B q.length cb) ∧ w'.cell? ⟨w.heap.size, 0, none⟩ = some (.int .i64 lg) ∧ w'.cell? ⟨w.heap.size, 2, none⟩ = some (.slice (some ad) n c)) ((repeat' apply And.intro) <;> first | assumption)
              (first | (go_at_call 57; refine (rLog_any B cb q _ (Kd.C_below HQ.out.2 (by first | exact (Below.refl _ _).drew | exact Below.refl _ _)) HQ.out.1).mono ?_; rintro e w2 ⟨rfl, hb2⟩; have k0 := pw_cell_below (w := wr) ⟨hb2.os, hb2.tape, hb2.output, hb2.size, hb2.block⟩ hcell; have k1 := pw_cell_below (w := wr) ⟨hb2.os, hb2.tape, hb2.output, hb2.size, hb2.block⟩ m0; have k2 := pw_cell_below (w := wr) ⟨hb2.os, hb2.tape, hb2.output, hb2.size, hb2.block⟩ m2; have HV2 := Lib.hid (show Below wr.heap.size wr w2 from ⟨hb2.os, hb2.tape, hb2.output, hb2.size, hb2.block⟩); clear hb2))
            all_goals
              go_wp2_with fail
              go_roundw
              case rel => exact ⟨i + 1, by go_num, by omega, Lib.hid (below_tr H.out HV2.out)⟩
              case measure => simp [intOf]; omega
        · obtain rfl : i = n := by omega
          go_wp2_with fail
          go_ret
          exact ⟨rfl, below_tr HB.out H.out⟩
  exact main one rfl
end Go.Proofs.Ytfnobinenolhhaa
namespace Go.Proofs.Ytfnobinenolhhaa
open Go.RowKit Go.IntWalk Go.Proofs.YtfnobinenolhhaaW.PrintWords
/-- a list of the model, as it lies -/
def AtPost (q : List Int) (w : World) (e : Ending) (w' : World) : Prop := ∃ (B : Option Addr) (cb : Nat), e = .returned (.slice B q.length cb) ∧ q.length ≤ cb ∧ (Kd.int .i64).C w' B q.length q ∧ Below w.heap.size w w'
set_option maxRecDepth 100000 in
set_option maxHeartbeats 1000000 in
theorem rMAt_any (lg : Int) (one : Bool) (A : Option Addr) (c : Nat) (qs : List (List Int)) (x : Nat) (w : World) (hr : kq.C w A qs.length qs) (h : rightM lg one qs = true) (h1 : one = true → 0 < (qs.getD 0 []).length) (hx : x < 256) :
    Calls Try.prog 28 #[.agg #[.int .i64 lg, .bool one, .slice A qs.length c], .int .i64 x] w (AtPost (qs.getD (listI one x) []) w) := by
  obtain ⟨W1, hW1⟩ : ∃ W1, W1 = w.alloc (.cells #[.int .i64 lg, .bool one, .slice A qs.length c] 24) := ⟨_, rfl⟩
  have HB := Lib.hid ((Below.refl w.heap.size w).alloc (Nat.le_refl _) (.cells #[.int .i64 lg, .bool one, .slice A qs.length c] 24))
  have hk1 : W1.heap[w.heap.size]? = some (.cells #[.int .i64 lg, .bool one, .slice A qs.length c] 24 (0, 0)) := by rw [hW1]; exact blk_new _ _
  have HR : Hid (kq.C W1 A qs.length qs) := Lib.hid (by rw [hW1]; exact Kd.C_alloc hr _)
  rw [← hW1] at HB
  have hlen := (right_len h).2.2.1
  have hi : listI one x < qs.length := by rw [hlen]; unfold listI; cases one <;> simp <;> omega
  have HX := Lib.hid (rRightT_any lg one A c qs W1 HR.out h h1)
  have HK := Lib.hid hk1
  have d1 : decide ((x : Int) < 0) = false := decide_eq_false (by omega)
  have d2 : decide (255 < (x : Int)) = false := decide_eq_false (by omega)
  obtain ⟨⟨m0, m1, m2⟩, _⟩ := cell3 hk1
  have HI := Lib.hid hi
  obtain ⟨q, hqq⟩ : ∃ q, q = qs.getD (listI one x) [] := ⟨_, rfl⟩
  rw [← hqq]
  have HQQ := Lib.hid hqq
  clear hr h h1 hk1 hlen hi hqq
  go_enter Try.func28, Try.ntmps28
  go_wp2_with fail
  rw [← hW1]
  go_wp2_with fail
  refine HX.out.mono ?_
  rintro e w2 ⟨rfl, hb2⟩
  obtain ⟨⟨n0, n1, n2⟩, _⟩ := cell3 (blk_below HK.out hb2)
  obtain ⟨ad, B, cb, rfl, hcell, hcb, hq⟩ := kq_at (Kd.C_below HR.out hb2) _ HI.out
  have HB2 := Lib.hid (below_tr HB.out hb2)
  rw [← HQQ.out] at hcell hcb hq
  have HQ := Lib.hid (And.intro hcb hq)
  clear hb2 hcb hq hW1 m0 m1 m2
  cases one
  · have e1 : listI false x = x := rfl
    rw [e1] at hcell HI
    have hiI : (x : Int) < (qs.length : Int) := by have := HI.out; omega
    clear e1
    go_wp2_with fail
    go_ret
    exact ⟨B, cb, rfl, HQ.out.1, HQ.out.2, HB2.out⟩
  · have e1 : listI true x = 0 := rfl
    rw [e1] at hcell HI
    have hiI : (0 : Int) < (qs.length : Int) := by have := HI.out; omega
    have hcell0 : w2.cell? ad = some (.slice B q.length cb) := hcell
    clear e1
    go_wp2_with fail
    go_ret
    exact ⟨B, cb, rfl, HQ.out.1, HQ.out.2, HB2.out⟩
end Go.Proofs.Ytfnobinenolhhaa
namespace Go.Proofs.Ytfnobinenolhhaa
def xP (one : Bool) (qs : List (List Int)) (b : List Int) : Nat → Nat
  | 0 => 1
  | i + 1 => xP one qs b i * cntC (qAt one qs b i) (b.getD i 0)
def yP (S : Nat) (one : Bool) (qs : List (List Int)) (b : List Int) : Nat → Nat
  | 0 => 1
  | i + 1 => yP S one qs b i * (S + posC (qAt one qs b i) (qAt one qs b i).length - 1)
theorem xT_ctx (one : Bool) (qs : List (List Int)) (b : List Int) (i : Nat) : xT one qs (b.getD i 0) (b.drop (i + 1)) = xT one qs (ctxI b ((i + 1 : Nat) : Int)) (b.drop (i + 1)) := by
  by_cases h : i + 1 < b.length
  · rw [ctx_next h]
  · rw [List.drop_of_length_le (by omega)]; rfl
theorem yT_ctx (S : Int) (one : Bool) (qs : List (List Int)) (b : List Int) (i : Nat) : yT S one qs (b.getD i 0) (b.drop (i + 1)) = yT S one qs (ctxI b ((i + 1 : Nat) : Int)) (b.drop (i + 1)) := by
  by_cases h : i + 1 < b.length
  · rw [ctx_next h]
  · rw [List.drop_of_length_le (by omega)]; rfl
theorem xP_all (one : Bool) (qs : List (List Int)) (b : List Int) : ∀ i, i ≤ b.length → (xP one qs b i : Int) * xT one qs (ctxI b ((i : Nat) : Int)) (b.drop i) = xT one qs (ctxI b ((0 : Nat) : Int)) b := by
  intro i
  induction i with
  | zero => intro _; simp [xP]
  | succ i ih =>
    intro h
    have h1 := ih (by omega)
    rw [drop_cons b i (by omega)] at h1
    simp only [xT] at h1
    rw [xT_ctx] at h1
    simp only [xP]
    rw [← h1, Int.natCast_mul, qAt_qOf, Int.mul_assoc]
theorem yP_all (S : Nat) (hS : 1 ≤ S) (one : Bool) (qs : List (List Int)) (b : List Int) : ∀ i, i ≤ b.length → (yP S one qs b i : Int) * yT S one qs (ctxI b ((i : Nat) : Int)) (b.drop i) = yT S one qs (ctxI b ((0 : Nat) : Int)) b := by
  intro i
  induction i with
  | zero => intro _; simp [yP]
  | succ i ih =>
    intro h
    have h1 := ih (by omega)
    rw [drop_cons b i (by omega)] at h1
    simp only [yT] at h1
    rw [yT_ctx] at h1
    simp only [yP]
    have e : ((S + posC (qAt one qs b i) (qAt one qs b i).length - 1 : Nat) : Int) = (S : Int) + (posC (qAt one qs b i) (qAt one qs b i).length : Nat) - 1 := by omega
    rw [← h1, Int.natCast_mul, e, qAt_qOf, Int.mul_assoc]
theorem cheap_end {lg : Int} {one : Bool} {qs : List (List Int)} {b : List Int} (h : canM lg one qs b = true) (hb : Bytes b) (h0 : 0 < b.length) :
    2 ^ (encT one qs 0 0 b).2.length * xP one qs b b.length ≤ yP (2 ^ lg.toNat) one qs b b.length := by
  have h1 := (cheap_law h hb h0).2
  have h2 := xP_all one qs b b.length (Nat.le_refl _)
  have h3 := yP_all (2 ^ lg.toNat) (Nat.two_pow_pos _) one qs b b.length (Nat.le_refl _)
  rw [List.drop_length, show ctxI b ((0 : Nat) : Int) = 0 from ctx_zero b h0] at h2 h3
  simp only [xT, yT, Int.mul_one] at h2 h3
  have e : (((2 ^ lg.toNat : Nat) : Int)) = 2 ^ lg.toNat := by simp
  rw [e] at h3
  rw [← h2, ← h3] at h1
  have h4 : ((2 ^ (encT one qs 0 0 b).2.length * xP one qs b b.length : Nat) : Int) = (xP one qs b b.length : Int) * 2 ^ (encT one qs 0 0 b).2.length := by
    rw [Int.natCast_mul, Int.mul_comm]; simp
  omega
/-- a number below 65536^k has at most k words -/
theorem digs_short : ∀ (k n : Nat), n < 65536 ^ k → (digs n).length ≤ k := by
  intro k
  induction k with
  | zero =>
    intro n h
    have : n = 0 := by simpa using h
    subst this; rw [digs_zero]; simp
  | succ k ih =>
    intro n h
    by_cases h0 : n = 0
    · subst h0; rw [digs_zero]; simp
    · rw [digs_pos (by omega), List.length_cons]
      have : n / 65536 < 65536 ^ k := by
        rw [Nat.div_lt_iff_lt_mul (by omega)]
        rw [Nat.pow_succ] at h; exact h
      have := ih _ this
      omega
theorem xP_short {one : Bool} {qs : List (List Int)} {b : List Int} : ∀ i, (∀ j, j < i → cntC (qAt one qs b j) (b.getD j 0) ≤ 65536) → xP one qs b i ≤ 65536 ^ i := by
  intro i
  induction i with
  | zero => intro _; simp [xP]
  | succ i ih =>
    intro h
    simp only [xP]
    rw [Nat.pow_succ]
    exact Nat.mul_le_mul (ih (fun j hj => h j (by omega))) (h i (by omega))
theorem yP_short {S : Nat} {one : Bool} {qs : List (List Int)} {b : List Int} : ∀ i, (∀ j, j < i → S + posC (qAt one qs b j) (qAt one qs b j).length - 1 ≤ 65536) → yP S one qs b i ≤ 65536 ^ i := by
  intro i
  induction i with
  | zero => intro _; simp [yP]
  | succ i ih =>
    intro h
    simp only [yP]
    rw [Nat.pow_succ]
    exact Nat.mul_le_mul (ih (fun j hj => h j (by omega))) (h i (by omega))
end Go.Proofs.Ytfnobinenolhhaa
namespace Go.Proofs.Ytfnobinenolhhaa
open Go.RowKit Go.IntWalk Go.Proofs.YtfnobinenolhhaaW.PrintWords
/-- so far: a number in words, in memory of the call's own -/
def NumR (B0 : Nat) (v : Value) (n : Nat) (wr : World) : Prop := (Kd.int .i64).R 3 wr B0 (fun _ => True) v (digs n)
theorem pow_words {n i k : Nat} (h : n ≤ 65536 ^ i) (hk : i + 1 ≤ k) : (digs n).length ≤ k := by
  have : 65536 ^ i < 65536 ^ k := Nat.pow_lt_pow_right (by omega) (by omega)
  exact digs_short k n (by omega)
theorem pow_16 (k : Nat) : (65536 : Nat) ^ k = 2 ^ (16 * k) := by rw [show (65536 : Nat) = 2 ^ 16 by rfl, ← Nat.pow_mul]
theorem two_words {i k : Nat} (h : i < 16 * k) : (digs (2 ^ i)).length ≤ k := by
  refine digs_short k _ ?_
  rw [pow_16]; exact Nat.pow_lt_pow_right (by omega) h
theorem prod_words {bits i x k : Nat} (hx : x ≤ 65536 ^ i) (h : bits + 16 * i < 16 * k) : (digs (2 ^ bits * x)).length ≤ k := by
  refine digs_short k _ ?_
  rw [pow_16] at hx ⊢
  have h1 : 2 ^ bits * x ≤ 2 ^ bits * 2 ^ (16 * i) := Nat.mul_le_mul (Nat.le_refl _) hx
  rw [← Nat.pow_add] at h1
  have h2 : (2 : Nat) ^ (bits + 16 * i) < 2 ^ (16 * k) := Nat.pow_lt_pow_right (by omega) h
  omega
theorem num_reads {B0 n : Nat} {v : Value} {wr : World} (h : NumR B0 v n wr) : ∃ (A : Option Addr) (c : Nat), v = .slice A (digs n).length c ∧ (digs n).length ≤ c ∧ (Kd.int .i64).C wr A (digs n).length (digs n) := by
  obtain ⟨A, c, rfl⟩ := Kd.R_slice h
  exact ⟨A, c, rfl, (Kd.R_reads' h).2⟩
theorem posC_ge (c : List Int) (k : Nat) (hk : 0 < c.getD k 0) : ∀ d, k + 1 + d ≤ c.length → 1 ≤ posC c (k + 1 + d) := by
  intro d
  induction d with
  | zero =>
    intro h
    have := posC_succ c k (by omega)
    rw [if_pos hk] at this; rw [Nat.add_zero]; omega
  | succ d ih =>
    intro h
    have h1 := ih (by omega)
    have := posC_succ c (k + 1 + d) (by omega)
    rw [show k + 1 + (d + 1) = k + 1 + d + 1 by omega]; omega
structure QFacts (lg : Nat) (one : Bool) (qs : List (List Int)) (b : List Int) (i : Nat) : Prop where
  ctx : 0 ≤ ctxI b i ∧ ctxI b i < 256
  len : (qAt one qs b i).length ≤ 1000000
  pos1 : 1 ≤ posC (qAt one qs b i) (qAt one qs b i).length
  pos : posC (qAt one qs b i) (qAt one qs b i).length ≤ 256
  cnt : 0 < cntC (qAt one qs b i) (b.getD i 0) ∧ cntC (qAt one qs b i) (b.getD i 0) ≤ 4096
  get : ∃ k : Nat, b.getD i 0 = k ∧ k < (qAt one qs b i).length ∧ (qAt one qs b i).getD k 0 = cntC (qAt one qs b i) (b.getD i 0)
theorem q_facts {lg : Nat} {one : Bool} {qs : List (List Int)} {b : List Int} (h : fitsM lg one qs b = true) (hb : Bytes b) (i : Nat) (hi : i < b.length) : QFacts lg one qs b i := by
  obtain ⟨h1, h2, h3⟩ := fit_count h hb i hi
  have hx := hb.get i
  obtain ⟨x, hxe⟩ : ∃ x : Nat, b.getD i 0 = x := ⟨(b.getD i 0).toNat, by omega⟩
  have hg := good_of_log h1
  have h5 := cnt_eq hg x
  have hlen : (qAt one qs b i).length = 256 := hg.len
  have hp := posC_le (qAt one qs b i) (qAt one qs b i).length
  have hc := cnt_le h1 (b.getD i 0)
  have hl := (pow_le12 (r := logC (qAt one qs b i)) (logT_le _))
  refine ⟨ctx_range hb i hi, by omega, ?_, by omega, ⟨h3, ?_⟩, x, hxe, by omega, ?_⟩
  · have h6 := (hg.get x).1
    have := posC_ge (qAt one qs b i) x (by rw [hxe] at h3; omega) ((qAt one qs b i).length - (x + 1)) (by omega)
    rw [show x + 1 + ((qAt one qs b i).length - (x + 1)) = (qAt one qs b i).length by omega] at this; exact this
  · have e2 : (2 : Int) ^ logC (qAt one qs b i) = ((2 ^ logC (qAt one qs b i) : Nat) : Int) := by simp
    rw [e2] at hl
    omega
  · have := (hg.get x).1
    rw [hxe]; omega
/-- behind the first loop -/
structure C1 (B0 : Nat) (W3 : World) (xv : Value) (i : Nat) (wr : World) : Prop where
  x : NumR B0 xv (2 ^ i) wr
  below : Below W3.heap.size W3 wr
theorem c1_step {B0 : Nat} {W3 w1 w2 : World} {xv v : Value} {i : Nat} (h : C1 B0 W3 xv i w1) (hB : B0 ≤ w1.heap.size) (hv : (Kd.int .i64).R 3 w2 w1.heap.size (fun _ => True) v (digs (2 ^ i * 2))) (hb : Below w1.heap.size w1 w2) : C1 B0 W3 v (i + 1) w2 :=
  ⟨by unfold NumR; rw [Nat.pow_succ]; exact Kd.R_lower hv hB, below_tr h.below hb⟩
structure C2 (B0 S : Nat) (one : Bool) (qs : List (List Int)) (b : List Int) (bits : Nat) (W3 : World) (xv yv : Value) (i : Nat) (wr : World) : Prop where
  x : NumR B0 xv (2 ^ bits * xP one qs b i) wr
  y : NumR B0 yv (yP S one qs b i) wr
  below : Below W3.heap.size W3 wr
theorem c2_step {B0 S : Nat} {one : Bool} {qs : List (List Int)} {b : List Int} {bits : Nat} {W3 w1 w3 : World} {xv yv v u : Value} {i : Nat} (h : C2 B0 S one qs b bits W3 xv yv i w1)
    (hv : NumR B0 v (2 ^ bits * xP one qs b i * cntC (qAt one qs b i) (b.getD i 0)) w3) (hu : NumR B0 u (yP S one qs b i * (S + posC (qAt one qs b i) (qAt one qs b i).length - 1)) w3) (hb : Below w1.heap.size w1 w3) : C2 B0 S one qs b bits W3 v u (i + 1) w3 :=
  ⟨by unfold xP; rw [← Nat.mul_assoc]; exact hv, hu, below_tr h.below hb⟩
theorem rTimes_n (A : Option Addr) (cp : Nat) (w : World) (n f m : Nat) (hm : m = (digs n).length) (hf : 0 < f) (hf2 : f ≤ 100000) (hl : m ≤ 1000000) (hr : (Kd.int .i64).C w A m (digs n)) (hc : m ≤ cp) : Calls Try.prog 44 #[.slice A m cp, .int .i64 f] w (MadeI (digs (n * f)) w) := by
  subst hm; exact rTimes_any A cp w n f hf hf2 hl hr hc
set_option maxRecDepth 100000 in
set_option maxHeartbeats 2000000 in
theorem rCheap_any (g : Nat) (one : Bool) (A B : Option Addr) (c cb bits : Nat) (qs : List (List Int)) (b : List Int) (w : World) (hr : kq.C w A qs.length qs) (hb : (Kd.int .u8).C w B b.length b) (hcb : b.length ≤ cb) (hby : Bytes b) (hcan : canM g one qs b = true) (hl : b.length ≤ 60) (h0 : 0 < b.length) (hbits : bits = (encT one qs 0 0 b).2.length) (hb1 : bits ≤ 1000) (h1 : one = true → 0 < (qs.getD 0 []).length) :
    Calls Try.prog 20 #[.agg #[.int .i64 g, .bool one, .slice A qs.length c], .slice B b.length cb, .int .i64 bits] w (Ret (.bool true) w) := by
  obtain ⟨W1, hW1⟩ : ∃ W1, W1 = w.alloc (.cells #[.int .i64 g, .bool one, .slice A qs.length c] 24) := ⟨_, rfl⟩
  have HB := Lib.hid ((Below.refl w.heap.size w).alloc (Nat.le_refl _) (.cells #[.int .i64 g, .bool one, .slice A qs.length c] 24))
  have hk1 : W1.heap[w.heap.size]? = some (.cells #[.int .i64 g, .bool one, .slice A qs.length c] 24 (0, 0)) := by rw [hW1]; exact blk_new _ _
  have HR : Hid (kq.C W1 A qs.length qs) := Lib.hid (by rw [hW1]; exact Kd.C_alloc hr _)
  have HBB : Hid ((Kd.int .u8).C W1 B b.length b) := Lib.hid (by rw [hW1]; exact Kd.C_alloc hb _)
  rw [← hW1] at HB
  have HE := Lib.hid (cheap_end hcan hby h0)
  rw [← hbits, show ((g : Int)).toNat = g by simp] at HE
  have hfit := (can_log hcan).1
  have HX := Lib.hid (And.intro hcb (And.intro hby (And.intro hfit (And.intro hl (And.intro h0 h1)))))
  have HK := Lib.hid hk1
  have hg : g ≤ 12 := by have := (right_len (fits_right hfit)).2.1; omega
  obtain ⟨⟨m0, m1, m2⟩, _⟩ := cell3 hk1
  have HLT := Lib.hid (blk_lt hk1)
  clear hr hb hcb hby hcan hl h0 hbits h1 hk1 hfit
  have hwr : Hid (wrap64 ((2 : Int) ^ g) = ((2 ^ g : Nat) : Int)) := by
    have := pow_le12 hg
    have e : (2 : Int) ^ g = ((2 ^ g : Nat) : Int) := by simp
    exact Lib.hid (by rw [← e]; exact w64 (by omega))
  obtain ⟨W3, hW3⟩ : ∃ W3, W3 = (W1.alloc (.cells #[.int .i64 1] 3)).alloc (.cells #[.int .i64 1] 3) := ⟨_, rfl⟩
  have HB3 : Hid (Below W1.heap.size W1 W3) := Lib.hid (by rw [hW3]; exact below_al (below_al (Below.refl _ _) _) _)
  have hsz : W1.heap.size = w.heap.size + 1 := by rw [hW1]; simp
  have HX0 : Hid (NumR w.heap.size (.slice (some ⟨w.heap.size + 1, 0, none⟩) 1 1) 1 W3) := Lib.hid (by
    unfold NumR
    rw [digs_one, hW3, ← hsz]
    exact Kd.R_alloc (row_lit .i64 3 W1 w.heap.size (fun _ => True) trivial (by have := HB.out.size; omega) [1] (by simp)) _)
  have HY0 : Hid (NumR w.heap.size (.slice (some ⟨w.heap.size + 1 + 1, 0, none⟩) 1 1) 1 W3) := Lib.hid (by
    unfold NumR
    rw [digs_one, hW3, ← hsz]
    have := row_lit .i64 3 (W1.alloc (.cells #[.int .i64 1] 3)) w.heap.size (fun _ => True) trivial (by have := HB.out.size; simp; omega) [1] (by simp)
    simp only [World.size_alloc] at this
    exact this)
  have HSZ := Lib.hid hsz
  clear hsz
  go_enter Try.func20, Try.ntmps20
  go_wp2_with fail
  rw [← hW1, ← hW3]
  rw [hwr.out]
  clear hW1 hW3 hwr m0 m1 m2
  obtain ⟨gs, hgs⟩ : ∃ gs : Nat, gs = 2 ^ g := ⟨_, rfl⟩
  rw [← hgs] at HE ⊢
  have HGS : Hid (1 ≤ gs ∧ gs ≤ 4096) := by
    have h1 := pow_le12 hg
    have e : (2 : Int) ^ g = ((2 ^ g : Nat) : Int) := by simp
    rw [e] at h1
    rw [hgs]; exact ⟨Nat.one_le_two_pow, by omega⟩
  clear hgs
  have HSW : Hid (w.heap.size ≤ W3.heap.size) := Lib.hid (Nat.le_trans HB.out.size HB3.out.size)
  go_loopw [8, 10] (fun xv kv wr => ∃ (i : Nat), kv = .int .i64 i ∧ i ≤ bits ∧ Hid (C1 w.heap.size W3 xv i wr)) (fun _ kv _ => bits - (intOf kv).toNat)
  case atStart => exact ⟨0, rfl, by omega, Lib.hid ⟨HX0.out, Below.refl _ _⟩⟩
  case round =>
    obtain ⟨i, rfl, hi, H⟩ := hrel
    obtain ⟨Ax, cx, rfl, hcx, hx⟩ := num_reads H.out.x
    have HV := Lib.hid (And.intro hcx hx)
    clear hcx hx
    have hB : Hid (w.heap.size ≤ wr.heap.size) := Lib.hid (Nat.le_trans HSW.out H.out.below.size)
    have hdl : (digs (2 ^ i)).length ≤ 200 := two_words (by omega)
    obtain ⟨n, hn⟩ : ∃ n, n = (digs (2 ^ i)).length := ⟨_, rfl⟩
    rw [← hn] at H hdl ⊢
    have HN := Lib.hid hn
    clear hn
    by_cases hlt : i < bits
    · have hiI : (i : Int) < (bits : Int) := by omega
      go_wp2_with fail
      have hE := rTimes_any Ax cx wr (2 ^ i) 2 (by omega) (by omega) (by rw [← HN.out]; omega) HV.out.2 HV.out.1
      rw [← HN.out] at hE
      refine hE.mono ?_
      clear hE
      rintro e w2 ⟨v, rfl, hv, hb2⟩
      have hC : Hid (C1 w.heap.size W3 v (i + 1) w2) := Lib.hid (c1_step (xv := .slice Ax n cx) H.out hB.out hv hb2)
      clear hv hb2
      go_wp2_with fail
      go_roundw
      case rel => exact ⟨i + 1, by go_num, by omega, hC⟩
      case measure => simp [intOf]; omega
    · obtain rfl : bits = i := by omega
      go_wp2_with fail
      have HX1 := Lib.hid H.out.x
      have HBW := Lib.hid H.out.below
      have hYw : Hid (C2 w.heap.size gs one qs b bits W3 (.slice Ax n cx) (.slice (some ⟨w.heap.size + 1 + 1, 0, none⟩) 1 1) 0 wr) := Lib.hid ⟨by simp only [xP, Nat.mul_one]; exact H.out.x, by simp only [yP]; exact Kd.R_below HY0.out H.out.below, H.out.below⟩
      clear H hlt hi HN hdl HX1 HBW hB HV HX0 HY0
      have hl60 := HX.out.2.2.2.1
      go_loopw [8, 9, 11] (fun xv yv kv wr => ∃ (i : Nat), kv = .int .i64 i ∧ i ≤ b.length ∧ Hid (C2 w.heap.size gs one qs b bits W3 xv yv i wr)) (fun _ _ kv _ => b.length - (intOf kv).toNat)
      case atStart => exact ⟨0, rfl, by omega, hYw⟩
      case round =>
        clear hYw
        obtain ⟨i, rfl, hi, H⟩ := hrel
        by_cases hlt : i < b.length
        · have hF := q_facts HX.out.2.2.1 HX.out.2.1 i hlt
          obtain ⟨bi, hbi, hbl, hbc⟩ := hF.get
          have hxw := prod_words (bits := bits) (k := 200) (i := i) (xP_short (one := one) (qs := qs) (b := b) i (fun j hj => by have := (q_facts HX.out.2.2.1 HX.out.2.1 j (by omega)).cnt.2; omega)) (by omega)
          have hyw := pow_words (k := 61) (i := i) (yP_short (S := gs) (one := one) (qs := qs) (b := b) i (fun j hj => by have := (q_facts HX.out.2.2.1 HX.out.2.1 j (by omega)).pos; have := HGS.out; omega)) (by omega)
          have HW := Lib.hid (And.intro hxw hyw)
          have HC := Lib.hid (fun v u w3 => c2_step (v := v) (u := u) (w3 := w3) H.out)
          obtain ⟨ct, hct⟩ : ∃ ct, ct = cntC (qAt one qs b i) (b.getD i 0) := ⟨_, rfl⟩
          obtain ⟨po, hpo⟩ : ∃ po, po = posC (qAt one qs b i) (qAt one qs b i).length := ⟨_, rfl⟩
          obtain ⟨X, hX⟩ : ∃ X, X = 2 ^ bits * xP one qs b i := ⟨_, rfl⟩
          obtain ⟨Y, hY⟩ : ∃ Y, Y = yP gs one qs b i := ⟨_, rfl⟩
          obtain ⟨x, hx⟩ : ∃ x : Nat, ctxI b i = x := ⟨(ctxI b i).toNat, by have := hF.ctx; omega⟩
          have hx256 : x < 256 := by have := hF.ctx; omega
          have HNX := H.out.x
          have HNY := H.out.y
          rw [← hX] at HNX hxw HW HC
          rw [← hY] at HNY hyw HW HC
          rw [← hct, ← hpo] at HC
          rw [← hct] at hbc
          obtain ⟨q, hq⟩ : ∃ q, q = qAt one qs b i := ⟨_, rfl⟩
          have hq2 : qs.getD (listI one x) [] = q := by rw [hq]; unfold qAt; rw [hx]
          have hF2 := hF.pos
          have hF1 := hF.pos1
          have hF3 := hF.cnt
          have hF4 := hF.len
          rw [← hpo] at hF2 hF1
          rw [← hct] at hF3
          rw [← hq] at hbl hbc hpo hF4
          have HA := rMAt_any (g : Int) one A c qs x
          rw [hq2] at HA
          have HAt := Lib.hid HA
          have HBW := Lib.hid (below_tr HB3.out H.out.below)
          have HCX := Lib.hid (show ∀ W : World, Below wr.heap.size wr W → Calls Try.prog 29 #[.slice B b.length cb, .int .i64 i] W (Ret (.int .i64 x) W) from fun W hW => by
            have := rAt_any B cb b W (Kd.C_below HBB.out (below_tr HBW.out hW)) HX.out.1 HX.out.2.1 (by omega) i
            rw [hx] at this; exact this)
          have HAX := Lib.hid (show ∀ W : World, Below wr.heap.size wr W → Calls Try.prog 28 #[.agg #[.int .i64 g, .bool one, .slice A qs.length c], .int .i64 x] W (AtPost q W) from fun W hW =>
            HAt.out W (Kd.C_below HR.out (below_tr HBW.out hW)) (fits_right HX.out.2.2.1) HX.out.2.2.2.2.2 hx256)
          have HNXY := Lib.hid (And.intro HNX HNY)
          have HBI := Lib.hid (And.intro hbi hbc)
          have HPO := Lib.hid hpo
          obtain ⟨⟨m0, m1, m2⟩, _⟩ := cell3 (blk_below HK.out HBW.out)
          have hBs : Hid (w.heap.size ≤ wr.heap.size) := Lib.hid (Nat.le_trans HB.out.size HBW.out.size)
          have hbs1 := HGS.out.1
          have hbs2 := HGS.out.2
          have hf1 := hF3.1
          have hf2 := hF3.2
          have hiI : (i : Int) < (b.length : Int) := by omega
          clear HA HAt hq2 hF hct hX hY hx hq HNX HNY hbi hbc hpo H hxw hyw hi hF3
          obtain ⟨Ax, cx, rfl, hcx, hxc⟩ := num_reads HNXY.out.1
          obtain ⟨Ay, cy, rfl, hcy, hyc⟩ := num_reads HNXY.out.2
          have HXC := Lib.hid (And.intro hcx hxc)
          have HYC := Lib.hid (And.intro hcy hyc)
          obtain ⟨nx, hnx⟩ : ∃ nx, nx = (digs X).length := ⟨_, rfl⟩
          obtain ⟨ny, hny⟩ : ∃ ny, ny = (digs Y).length := ⟨_, rfl⟩
          rw [← hnx, ← hny] at HW
          rw [← hnx] at HXC ⊢
          rw [← hny] at HYC ⊢
          have HNN := Lib.hid (And.intro hnx hny)
          clear hcx hxc hcy hyc hnx hny
          go_wp2_with fail
          go_region_held3 (fun w' => w'.cell? ⟨w.heap.size, 0, none⟩ = some (.int .i64 g) ∧ w'.cell? ⟨w.heap.size, 1, none⟩ = some (.bool one) ∧ w'.cell? ⟨w.heap.size, 2, none⟩ = some (.slice A qs.length c)) ((repeat' apply And.intro) <;> first | assumption)
            (first
              | (go_at_call 29; refine (HCX.out _ (Below.refl _ _).drew).mono ?_; rintro e w2 ⟨rfl, hb2⟩; have HV2 := Lib.hid (show Below wr.heap.size wr w2 from ⟨hb2.os, hb2.tape, hb2.output, hb2.size, hb2.block⟩); obtain ⟨k0, k1, k2⟩ := mcells HV2.out (Nat.lt_of_lt_of_le HLT.out HBW.out.size) m0 m1 m2; clear hb2)
              | (go_at_call 28; refine (HAX.out _ HV2.out).mono ?_; rintro e w7 ⟨Bq, cq, rfl, hcq, hqC, hb7⟩; have HV7 := Lib.hid (And.intro hcq (And.intro hqC (below_tr HV2.out hb7))); obtain ⟨l0, l1, l2⟩ := mcells HV7.out.2.2 (Nat.lt_of_lt_of_le HLT.out HBW.out.size) m0 m1 m2; clear hcq hqC hb7))
          have HBC := Lib.hid (Kd.C_below HBB.out (below_tr HBW.out HV7.out.2.2))
          obtain ⟨adb, rfl, hcb0⟩ := ints_get HBC.out i (by omega)
          obtain ⟨adq, rfl, hcq0⟩ := ints_get HV7.out.2.1 bi hbl
          rw [HBI.out.1] at hcb0
          rw [HBI.out.2] at hcq0
          have hcb1 : w7.cell? (adb.add i) = some (.int .u8 (bi : Int)) := hcb0
          have hcq1 : w7.cell? (adq.add bi) = some (.int .i64 (ct : Int)) := hcq0
          have hbiI : (bi : Int) < (q.length : Int) := by omega
          have HN1 := Lib.hid (show nx ≤ 200 ∧ ny ≤ 200 from ⟨HW.out.1, by have := HW.out.2; omega⟩)
          have HTX := Lib.hid (rTimes_n Ax cx w7 X ct nx HNN.out.1 hf1 (by omega) (by have := HN1.out; omega) (Kd.C_below HXC.out.2 HV7.out.2.2) HXC.out.1)
          have HCQ := Lib.hid (And.intro hbl hcq0)
          clear hcb0 hcq0 hbl k0 k1 k2 l0 l1 l2 m0 m1 m2
          go_wp2_with fail
          refine HTX.out.mono ?_
          rintro e w8 ⟨vx, rfl, hvx, hb8⟩
          have HV8 := Lib.hid (And.intro hvx hb8)
          have hB8 := Lib.hid (below_tr HV7.out.2.2 hb8)
          have HMa := Lib.hid (rMany12_any (some adq) cq w8 q (Kd.C_below HV7.out.2.1 hb8) HV7.out.1 hF4)
          rw [← HPO.out] at HMa
          clear hvx hb8
          go_wp2_with fail
          refine HMa.out.mono ?_
          rintro e w9 ⟨rfl, hb9⟩
          have HB9 := Lib.hid (below_tr hB8.out hb9)
          have HV9 := Lib.hid (Kd.R_below HV8.out.1 hb9)
          have HTY := Lib.hid (rTimes_n Ay cy w9 Y (gs + po - 1) ny HNN.out.2 (by omega) (by omega) (by have := HN1.out; omega) (Kd.C_below HYC.out.2 HB9.out) HYC.out.1)
          clear hb9
          go_wp2_with fail
          rw [show ((gs : Int) + (po : Int) - 1) = ((gs + po - 1 : Nat) : Int) by omega]
          refine HTY.out.mono ?_
          rintro e w10 ⟨vy, rfl, hvy, hb10⟩
          have HCC : Hid (C2 w.heap.size gs one qs b bits W3 vx vy (i + 1) w10) := Lib.hid (HC.out vx vy w10 (Kd.R_below (Kd.R_lower HV9.out (Nat.le_trans hBs.out HV7.out.2.2.size)) hb10) (Kd.R_lower hvy (Nat.le_trans hBs.out HB9.out.size)) (below_tr HB9.out hb10))
          clear hvy hb10
          go_wp2_with fail
          go_roundw
          case rel => exact ⟨i + 1, by go_num, by omega, HCC⟩
          case measure => simp [intOf]; omega
        · obtain rfl : i = b.length := by omega
          have hxw := prod_words (bits := bits) (k := 200) (i := b.length) (xP_short (one := one) (qs := qs) (b := b) b.length (fun j hj => by have := (q_facts HX.out.2.2.1 HX.out.2.1 j (by omega)).cnt.2; omega)) (by omega)
          obtain ⟨X, hX⟩ : ∃ X, X = 2 ^ bits * xP one qs b b.length := ⟨_, rfl⟩
          obtain ⟨Y, hY⟩ : ∃ Y, Y = yP gs one qs b b.length := ⟨_, rfl⟩
          have HNX := H.out.x
          have HNY := H.out.y
          have HBW := Lib.hid H.out.below
          rw [← hX, ← hY] at HE
          rw [← hX] at HNX hxw
          rw [← hY] at HNY
          clear H hX hY
          obtain ⟨Ax, cx, rfl, hcx, hxc⟩ := num_reads HNX
          obtain ⟨Ay, cy, rfl, hcy, hyc⟩ := num_reads HNY
          have hE := rAbove_any Ax cx wr X Y Ay cy (by omega) hxc hcx hyc hcy
          rw [decide_eq_false (by have := HE.out; omega)] at hE
          have HA := Lib.hid hE
          clear hE hxc hcx hyc hcy HNX HNY hxw
          go_wp2_with fail
          refine HA.out.mono ?_
          rintro e w2 ⟨rfl, hb2⟩
          have HB2 := Lib.hid hb2
          clear hb2
          go_wp2_with fail
          go_ret
          exact ⟨rfl, below_tr (below_tr (below_tr HB.out HB3.out) HBW.out) HB2.out⟩
end Go.Proofs.Ytfnobinenolhhaa
namespace Go.Proofs.Ytfnobinenolhhaa
open Go.RowKit Go.IntWalk Go.Proofs.YtfnobinenolhhaaW.PrintWords
theorem encN_len12 {lg : Int} {one : Bool} {qs : List (List Int)} {b : List Int} (h : fitsM lg one qs b = true) (hb : Bytes b) : ∀ k, k ≤ b.length → (encN one qs b k).2.length ≤ 12 * k
  | 0, _ => by simp [encN]
  | k + 1, hk => by
    have ih := encN_len12 h hb k (by omega)
    have hf := fit_count h hb (b.length - 1 - k) (by omega)
    have hr := encN_range h hb k (by omega)
    simp only [encN, List.length_append, lowBits_len]
    have e : lg.toNat = logC (qAt one qs b (b.length - 1 - k)) := by omega
    have hx : ∀ x : Int, 0 ≤ x → x < 2 ^ lg.toNat → stepOut (qAt one qs b (b.length - 1 - k)) x (b.getD (b.length - 1 - k) 0) ≤ 12 := fun x h0 h1 => by
      have h2 := (step_nums (s := b.getD (b.length - 1 - k) 0) hf.1 ⟨h0, by rw [← e]; exact h1⟩ hf.2.2).1.nr
      have h4 : logC (qAt one qs b (b.length - 1 - k)) ≤ 12 := logT_le _
      omega
    have := hx (if (b.length - 1 - k) % 2 = 0 then (encN one qs b k).1.1 else (encN one qs b k).1.2) (by split; exact hr.1; exact hr.2.2.1) (by split; exact hr.2.1; exact hr.2.2.2)
    omega
theorem encBits_len12 {lg : Int} {one : Bool} {qs : List (List Int)} {b : List Int} (h : fitsM lg one qs b = true) (hb : Bytes b) : (encBits lg one qs b).length ≤ 12 * b.length + 24 := by
  have h1 := encN_len12 h hb b.length (Nat.le_refl _)
  have h2 := right_len (fits_right h)
  simp only [encBits, List.length_append, lowBits_len]; omega
set_option maxRecDepth 100000 in
set_option maxHeartbeats 2000000 in
theorem lanesCheap_any (A : Option Addr) (ca : Nat) (b : List Int) (one : Bool) (w : World) (hr : (Kd.int .u8).C w A b.length b) (hc : b.length ≤ ca) (hby : Bytes b) :
    Calls Try.prog 7 #[.slice A b.length ca, .bool one] w (Ret (.bool true) w) := by
  have HR := Lib.hid hr
  have HX := Lib.hid (And.intro hc hby)
  clear hr hc hby
  by_cases h1 : b.length ≤ 60 ∧ 0 < b.length
  · obtain ⟨h1a, h1b⟩ := h1
    have d1 : decide (60 < (b.length : Int)) = false := decide_eq_false (by omega)
    have d2 : ((b.length : Int) == 0) = false := by simp; intro e; subst e; simp at h1b
    have HL := Lib.hid (And.intro h1a h1b)
    clear h1a h1b
    go_enter Try.func7, Try.ntmps7
    go_wp2_with fail
    refine (awake_any w).mono ?_
    rintro e w1 ⟨rfl, hb1⟩
    have HB1 := Lib.hid hb1
    clear hb1
    go_wp2_with fail
    refine (rOfM_any A ca b one w1 (Kd.C_below HR.out HB1.out) HX.out.1 HX.out.2 (by have := HL.out.1; omega) HL.out.2).mono ?_
    rintro e w2 ⟨v, rfl, hv, hb2⟩
    obtain ⟨Aq, cq, rfl⟩ := Kd.R_slice hv
    have HCan := Lib.hid (of_can (one := one) HX.out.2 (by have := HL.out.1; omega) HL.out.2)
    have hql := ofQ_len b one
    obtain ⟨lg, hlg⟩ : ∃ lg, lg = ofR b one := ⟨_, rfl⟩
    obtain ⟨qs, hqs⟩ : ∃ qs, qs = ofQ b one := ⟨_, rfl⟩
    rw [← hlg, ← hqs] at HCan
    rw [← hqs] at hv hql
    rw [← hlg, ← hqs]
    clear hlg hqs
    have HB2 := Lib.hid (below_tr HB1.out hb2)
    have HM := Lib.hid (MAt.new (lg := (lg : Int)) (one := one) hv)
    have HB3 := Lib.hid (HB2.out.alloc HB2.out.size (.cells #[.int .i64 lg, .bool one, .slice Aq qs.length cq] 24))
    obtain ⟨mb, hmb⟩ : ∃ mb, mb = w2.heap.size := ⟨_, rfl⟩
    clear hv hb2
    go_wp2_with fail
    rw [← hmb] at HM ⊢
    obtain ⟨w3, hw3⟩ : ∃ w3, w3 = w2.alloc (.cells #[.int .i64 lg, .bool one, .slice Aq qs.length cq] 24) := ⟨_, rfl⟩
    rw [← hw3] at HM HB3 ⊢
    clear hw3 hmb
    have hfit := (can_log HCan.out).1
    have hlg12 : lg ≤ 12 := by have := (right_len (fits_right hfit)).2.1; omega
    have HN : Hid (bitsM lg one qs b = (encBits lg one qs b).length ∧ (encBits lg one qs b).length = (encT one qs 0 0 b).2.length + 2 * lg ∧ (encBits lg one qs b).length ≤ 12 * 60 + 24) := Lib.hid ⟨by unfold bitsM; rw [if_pos HCan.out], by have := (cheap_law HCan.out HX.out.2 HL.out.2).1; simpa using this, by have := encBits_len12 hfit HX.out.2; have := HL.out.1; omega⟩
    obtain ⟨tl, htl⟩ : ∃ tl, tl = (encT one qs 0 0 b).2.length := ⟨_, rfl⟩
    obtain ⟨n, hn⟩ : ∃ n, n = bitsM lg one qs b := ⟨_, rfl⟩
    have HNN : Hid (n = tl + 2 * lg ∧ n ≤ 744) := Lib.hid (by rw [htl, hn]; have := HN.out; omega)
    have hn1 : (2 : Int) * (lg : Int) ≤ n := by have := HNN.out; omega
    have hn2 : (n : Int) ≤ 1000 := by have := HNN.out; omega
    have HTL := Lib.hid htl
    have H1 : Hid (one = true → 0 < (qs.getD 0 []).length) := Lib.hid fun e => by
      have h3 := fit_count hfit HX.out.2 0 HL.out.2
      have h4 := (good_of_log h3.1).len
      unfold qAt at h4
      rw [e] at h4
      have e2 : listI true (ctxI b ((0 : Nat) : Int)) = 0 := rfl
      rw [e2] at h4; omega
    clear htl hfit
    obtain ⟨⟨m0, m1, m2⟩, _⟩ := cell3 HM.out.blk
    have HBt := bitsL_any lg one Aq cq qs A ca b w3 HM.out.row (by omega) (Kd.C_below HR.out HB3.out) HX.out.2 (by have := HL.out.1; omega)
    rw [← hn] at HBt
    have HBT := Lib.hid HBt
    have HHN := Lib.hid hn
    clear HBt hn
    go_wp2_with fail
    refine HBT.out.mono ?_
    rintro e w4 ⟨rfl, hb4⟩
    have HB4 := Lib.hid (below_tr HB3.out hb4)
    have HM4 := Lib.hid (HM.out.later hb4)
    obtain ⟨⟨n0, n1, n2⟩, _⟩ := cell3 HM4.out.blk
    clear hb4 m0 m1 m2
    go_wp2_with fail
    refine (encodeL_any lg one Aq cq qs A ca b w4 HM4.out.row (by omega) (Kd.C_below HR.out HB4.out) HX.out.2 (by have := HL.out.1; omega)).mono ?_
    rintro e w5 ⟨_, h5, hb5⟩
    obtain ⟨v5, rfl, hv5⟩ := h5 HCan.out
    obtain ⟨p, hp⟩ : ∃ p, p = packB (encBits lg one qs b ++ [true]) := ⟨_, rfl⟩
    rw [← hp] at hv5
    obtain ⟨A5, c5, rfl⟩ := Kd.R_slice hv5
    have HB5 := Lib.hid (below_tr HB4.out hb5)
    have HM5 := Lib.hid (HM4.out.later hb5)
    have hpl : p.length = n / 8 + 1 := by
      have h2 := (pack_closed (encBits lg one qs b)).1
      rw [← hp, ← HN.out.1, ← HHN.out] at h2
      exact h2
    have d3 : ((p.length : Int) == (n : Int) / 8 + 1) = true := by
      rw [beq_iff_eq, hpl]; simp
    clear hv5 hb5 h5 hp hpl n0 n1 n2
    obtain ⟨⟨m0, m1, m2⟩, _⟩ := cell3 HM5.out.blk
    go_wp2_with fail
    rw [show ((n : Int) - 2 * (lg : Int)) = (tl : Int) by have := HNN.out; omega]
    refine (rCheap_any lg one Aq A cq ca tl qs b w5 HM5.out.row (Kd.C_below HR.out HB5.out) HX.out.1 HX.out.2 HCan.out HL.out.1 HL.out.2 HTL.out (by have := HNN.out; omega) H1.out).mono ?_
    rintro e w6 ⟨rfl, hb6⟩
    have HB6 := Lib.hid (below_tr HB5.out hb6)
    clear hb6
    go_wp2_with fail
    go_ret
    exact ⟨rfl, HB6.out⟩
  · have tail : ∀ d1 d2 : Bool, decide (60 < (b.length : Int)) = d1 → ((b.length : Int) == 0) = d2 → (d1 || d2) = true →
        Calls Try.prog 7 #[.slice A b.length ca, .bool one] w (Ret (.bool true) w) := by
      intro d1 d2 e1 e2 h
      clear h1
      cases d1 <;> cases d2 <;> first
        | (exfalso; revert h; decide)
        | (clear h
           go_enter Try.func7, Try.ntmps7
           go_wp2_with fail
           refine (awake_any w).mono ?_
           rintro e w1 ⟨rfl, hb1⟩
           have HB1 := Lib.hid hb1
           clear hb1
           go_wp2_with fail
           go_ret
           exact ⟨rfl, HB1.out⟩)
    refine tail _ _ rfl rfl ?_
    by_cases a1 : 60 < b.length
    · rw [decide_eq_true (by omega)]; rfl
    · rw [show ((b.length : Int) == 0) = true by rw [show b.length = 0 by omega]; rfl]; simp
theorem lanesCheap_law (A : Option Addr) (ca : Nat) (b : List Int) (one : Bool) (w : World) (hr : (Kd.int .u8).C w A b.length b) (hc : b.length ≤ ca) (hby : Bytes b) (_ : b.length * 1 ≤ 140737488351232) :
    Calls Try.prog 7 #[.slice A b.length ca, .bool one] w (Ret (.bool true) w) := lanesCheap_any A ca b one w hr hc hby
end Go.Proofs.Ytfnobinenolhhaa
