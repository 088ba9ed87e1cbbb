/- Plain: what the printed references of counts answer (right, total, log). Plain: what the printed references of bytes' counts, contexts and logs answer. Plain: what is encoded is decoded, step by step; what is decoded is encoded. No program. Plain: payloads: what is encoded is decoded, and the other way. No program. Plain: payloads as bytes: the two main laws. No program. Plain: what the printed references of contexts and logs answer. Plain: normalized counts: who has one more, who has one less; their sum. What the printed references of these answer. Plain: normalized counts: the sum is a power -/
import Derived.Test.YtfnobinenolhhaaM1
import Derived.Test.YtfnobinenolhhaaPRefx1
import Derived.Test.YtfnobinenolhhaaM2
import Derived.Test.YtfnobinenolhhaaPRefx4
import Derived.Test.YtfnobinenolhhaaPRefx3
import Derived.Test.YtfnobinenolhhaaPRefx5
namespace Go.Proofs.Ytfnobinenolhhaa
open Go.RowKit Go.Proofs.Ytfnobinenolhhaa.PRef Go.Proofs.YtfnobinenolhhaaW.PrintWords Go.Proofs.YtfnobinenolhhaaW.PrintLast Go.Proofs.YtfnobinenolhhaaW.PrintMore
theorem rd_nat (xs : List Int) (i : Nat) : rd xs (i : Int) = xs.getD i 0 := rfl
theorem wS (i : Nat) (h : i ≤ 1000000000) : wrap64 ((i : Int) + 1) = ((i + 1 : Nat) : Int) := by rw [w64 (by omega)]; simp
theorem take_snoc_mem {c : List Int} {i : Nat} (h : i < c.length) {P : Int → Prop} (h1 : ∀ x ∈ c.take i, P x) (h2 : P (c.getD i 0)) : ∀ x ∈ c.take (i + 1), P x := by
  intro x hx
  rw [List.take_succ_eq_append_getElem h] at hx
  rcases List.mem_append.1 hx with hx | hx
  · exact h1 x hx
  · rw [List.mem_singleton.1 hx]
    rw [List.getD_eq_getElem?_getD, List.getElem?_eq_getElem h] at h2; exact h2
theorem getD_mem {c : List Int} {i : Nat} (h : i < c.length) : c.getD i 0 ∈ c := by
  rw [List.getD_eq_getElem?_getD, List.getElem?_eq_getElem h]; exact List.getElem_mem h
theorem refRight_loop (c : List Int) (hl : c.length = 256) : ∀ (d i : Nat) (s : Int), i + d = 256 → i ≤ 256 → s = (c.take i).sum → (∀ x ∈ c.take i, 0 ≤ x ∧ x ≤ 1073741824) → 0 ≤ s → s ≤ i * 1073741824 →
    Ev (fun k => puncheonref05_Right.l0 k c s (i : Int)) (rightC c) := by
  intro d
  induction d with
  | zero =>
    intro i s hd hi hs ha h0 h1
    refine Ev.step (fun k => (show puncheonref05_Right.l0 (k + 1) c s (i : Int) = _ by simp only [puncheonref05_Right.l0]; rw [if_neg (by omega)])) ?_
    rw [List.take_of_length_le (by omega)] at hs ha
    have e : rightC c = decide (s ≤ 1073741824) := by
      unfold rightC; rw [hs]; exact decide_eq_decide.2 ⟨fun h => h.2.2, fun h => ⟨hl, fun x hx => (ha x hx).1, h⟩⟩
    rw [e]; exact Ev.now _
  | succ d ih =>
    intro i s hd hi hs ha h0 h1
    have hlt : i < c.length := by omega
    have hts := take_sum hlt
    by_cases hn : c.getD i 0 < 0
    · refine Ev.step (fun k => (show puncheonref05_Right.l0 (k + 1) c s (i : Int) = _ by simp only [puncheonref05_Right.l0]; rw [if_pos (by omega), if_pos (by omega), if_pos (by omega), rd_nat, if_pos hn])) ?_
      have e : rightC c = false := by
        rw [← Bool.not_eq_true, rightC_iff]; intro h
        have := h.2.1 _ (getD_mem hlt); omega
      rw [e]; exact Ev.now _
    · by_cases hb : c.getD i 0 > 1073741824
      · refine Ev.step (fun k => (show puncheonref05_Right.l0 (k + 1) c s (i : Int) = _ by simp only [puncheonref05_Right.l0]; rw [if_pos (by omega), if_pos (by omega), if_pos (by omega), rd_nat, if_neg hn, if_pos hb])) ?_
        have e : rightC c = false := by
          rw [← Bool.not_eq_true, rightC_iff]; intro h
          have := le_sum h.2.1 (getD_mem hlt); omega
        rw [e]; exact Ev.now _
      · refine Ev.step (fun k => (show puncheonref05_Right.l0 (k + 1) c s (i : Int) = _ by simp only [puncheonref05_Right.l0]; rw [if_pos (by omega), if_pos (by omega), if_pos (by omega), rd_nat, if_neg hn, if_neg hb, wS i (by omega), w64 (n := s + c.getD i 0) (by omega)])) ?_
        exact ih (i + 1) _ (by omega) (by omega) (by rw [hts, hs]) (take_snoc_mem hlt ha (by omega)) (by omega) (by omega)
theorem refRight_eq (c : List Int) : Ev (fun k => puncheonref05_Right.f k c) (rightC c) := by
  by_cases hl : c.length = 256
  · refine Ev.congr (fun k => (show puncheonref05_Right.f k c = _ by unfold puncheonref05_Right.f; rw [if_pos (by omega)])) ?_
    exact refRight_loop c hl 256 0 0 (by omega) (by omega) (by simp) (by simp) (by omega) (by omega)
  · refine Ev.congr (fun k => (show puncheonref05_Right.f k c = _ by unfold puncheonref05_Right.f; rw [if_neg (by omega)])) ?_
    have e : rightC c = false := by rw [← Bool.not_eq_true, rightC_iff]; exact fun h => hl h.1
    rw [e]; exact Ev.now _
theorem refTotal_loop (c : List Int) (hr : rightC c = true) : ∀ (d i : Nat) (s : Int), c.length - i = d → i ≤ c.length → s = (c.take i).sum → Ev (fun k => puncheonref05_Total.l0 k c s true (i : Int)) c.sum
  | 0, i, s, hd, hi, hs => by
    refine Ev.step (fun k => (show puncheonref05_Total.l0 (k + 1) c s true (i : Int) = _ by simp only [puncheonref05_Total.l0]; rw [if_neg (by omega)])) ?_
    rw [List.take_of_length_le (by omega)] at hs
    rw [← hs]; exact Ev.now _
  | d + 1, i, s, hd, hi, hs => by
    have hlt : i < c.length := by omega
    have hts := take_sum hlt
    have hR := rightC_iff.1 hr
    have h1 := take_sum_le hR.2.1 (i + 1)
    have h2 : 0 ≤ (c.take (i + 1)).sum := sum_nonneg (fun x hx => hR.2.1 x (List.mem_of_mem_take hx))
    refine Ev.step (fun k => (show puncheonref05_Total.l0 (k + 1) c s true (i : Int) = _ by simp only [puncheonref05_Total.l0]; rw [if_pos (by omega), if_pos trivial, if_pos (by omega), rd_nat, wS i (by omega), w64 (n := s + c.getD i 0) (by omega)])) ?_
    exact refTotal_loop c hr d (i + 1) _ (by omega) (by omega) (by rw [hts, hs])
theorem refTotal_eq (c : List Int) : Ev (fun k => puncheonref05_Total.f k c) (totalC c) := by
  unfold puncheonref05_Total.f
  refine Ev.bind (refRight_eq c) ?_
  unfold totalC
  cases hr : rightC c with
  | true => rw [if_pos rfl]; exact refTotal_loop c hr _ 0 0 rfl (by omega) (by simp)
  | false =>
    rw [if_neg (by decide)]
    refine Ev.step (fun k => (show puncheonref05_Total.l0 (k + 1) c 0 false 0 = some 0 by simp only [puncheonref05_Total.l0]; split <;> simp)) (Ev.now _)
theorem refPower_loop (r : Nat) (hr : r ≤ 30) : ∀ (d i : Nat), r - i = d → i ≤ r → Ev (fun k => puncheonref08_power.l0 k (r : Int) ((2 ^ i : Nat) : Int) (i : Int)) ((2 ^ r : Nat) : Int)
  | 0, i, hd, hi => by
    obtain rfl : i = r := by omega
    exact Ev.step (fun k => (show puncheonref08_power.l0 (k + 1) (i : Int) _ (i : Int) = _ by simp only [puncheonref08_power.l0]; rw [if_neg (by omega)])) (Ev.now _)
  | d + 1, i, hd, hi => by
    have hp : 2 ^ (i + 1) ≤ 2 ^ 30 := Nat.pow_le_pow_right (by omega) (by omega)
    have e : (2 : Int) * ((2 ^ i : Nat) : Int) = ((2 ^ (i + 1) : Nat) : Int) := by rw [Nat.pow_succ]; omega
    have e2 : wrap64 ((2 ^ (i + 1) : Nat) : Int) = ((2 ^ (i + 1) : Nat) : Int) := by
      generalize 2 ^ (i + 1) = P at hp ⊢
      exact w64 (by omega)
    refine Ev.step (fun k => (show puncheonref08_power.l0 (k + 1) (r : Int) _ (i : Int) = _ by simp only [puncheonref08_power.l0]; rw [if_pos (by omega), wS i (by omega), e, e2])) ?_
    exact refPower_loop r hr d (i + 1) (by omega) (by omega)
theorem refPower_eq (r : Nat) (hr : r ≤ 30) : Ev (fun k => puncheonref08_power.f k (r : Int)) ((2 ^ r : Nat) : Int) := by
  unfold puncheonref08_power.f; exact refPower_loop r hr r 0 (by omega) (by omega)
theorem refLog_loop (t : Int) : ∀ (d i : Nat), i + d = 13 → 1 ≤ i → i ≤ 13 → (∀ r, 1 ≤ r → r < i → t ≠ 2 ^ r) → Ev (fun k => puncheonref08_Log.l0 k t (i : Int)) ((logT t : Nat) : Int)
  | 0, i, hd, h1, hi, hn => by
    obtain rfl : i = 13 := by omega
    rw [logT_none (fun r a b => hn r a (by omega))]
    exact Ev.step (fun k => (show puncheonref08_Log.l0 (k + 1) t ((13 : Nat) : Int) = _ by simp only [puncheonref08_Log.l0]; rw [if_neg (by decide)]; rfl)) (Ev.now _)
  | d + 1, i, hd, h1, hi, hn => by
    refine Ev.step (fun k => (show puncheonref08_Log.l0 (k + 1) t (i : Int) = _ by simp only [puncheonref08_Log.l0]; rw [if_pos (by omega)])) ?_
    refine Ev.bind (refPower_eq i (by omega)) ?_
    have e : ((2 ^ i : Nat) : Int) = 2 ^ i := by simp
    by_cases ht : t = 2 ^ i
    · refine Ev.congr (fun k => if_pos (by rw [e]; exact ht)) ?_
      rw [logT_found h1 (by omega) ht]; exact Ev.now _
    · refine Ev.congr (fun k => (if_neg (by rw [e]; exact ht)).trans (by rw [wS i (by omega)])) ?_
      refine refLog_loop t d (i + 1) (by omega) (by omega) (by omega) (fun r a b => ?_)
      by_cases hri : r = i
      · rw [hri]; exact ht
      · exact hn r a (by omega)
theorem refLog_eq (c : List Int) : Ev (fun k => puncheonref08_Log.f k c) ((logC c : Nat) : Int) := by
  unfold puncheonref08_Log.f
  exact Ev.bind (refTotal_eq c) (refLog_loop _ 12 1 (by omega) (by omega) (by omega) (fun r a b => by omega))
end Go.Proofs.Ytfnobinenolhhaa
namespace Go.Proofs.Ytfnobinenolhhaa
open Go.RowKit Go.Proofs.Ytfnobinenolhhaa.PRef Go.Proofs.YtfnobinenolhhaaW.PrintWords Go.Proofs.YtfnobinenolhhaaW.PrintLast Go.Proofs.YtfnobinenolhhaaW.PrintMore
/-- 256 numbers, told by a function -/
def mapR (f : Nat → Int) : List Int := (List.range 256).map f
theorem mapR_len (f : Nat → Int) : (mapR f).length = 256 := by simp [mapR]
theorem mapR_get (f : Nat → Int) {v : Nat} (h : v < 256) : (mapR f).getD v 0 = f v := by
  unfold mapR; rw [List.getD_eq_getElem?_getD, List.getElem?_map, List.getElem?_range h]; rfl
theorem mapR_congr {f g : Nat → Int} (h : ∀ v, v < 256 → f v = g v) : mapR f = mapR g := by
  unfold mapR; exact List.map_congr_left (fun v hv => h v (List.mem_range.1 hv))
theorem mapR_set (f : Nat → Int) {v : Nat} (_ : v < 256) (y : Int) : (mapR f).set v y = mapR (fun u => if u = v then y else f u) := by
  apply List.ext_getElem
  · simp [mapR]
  · intro i h1 h2
    rw [List.getElem_set]
    simp only [mapR, List.getElem_map, List.getElem_range]
    by_cases e : v = i
    · rw [if_pos e, if_pos e.symm]
    · rw [if_neg e, if_neg (fun x => e x.symm)]
theorem mapR_mem {f : Nat → Int} {x : Int} (h : x ∈ mapR f) : ∃ v, v < 256 ∧ x = f v := by
  unfold mapR at h
  obtain ⟨v, hv, rfl⟩ := List.mem_map.1 h
  exact ⟨v, List.mem_range.1 hv, rfl⟩
/-- how often each byte comes -/
def histL (b : List Int) : List Int := mapR (fun v => (b.count (v : Int) : Int))
theorem count_take_succ (b : List Int) (i : Nat) (h : i < b.length) (v : Int) : (b.take (i + 1)).count v = (b.take i).count v + (if b.getD i 0 = v then 1 else 0) := by
  rw [List.take_succ_eq_append_getElem h, List.count_append, List.getD_eq_getElem?_getD, List.getElem?_eq_getElem h, Option.getD_some, List.count_singleton]
  congr 1
  by_cases e : b[i] = v
  · simp [e]
  · simp [e]
def ofAt (b : List Int) (v i : Nat) : List Int := mapR (fun u => if u < v then (b.count (u : Int) : Int) else if u = v then ((b.take i).count (v : Int) : Int) else 0)
theorem refOf_in (b : List Int) (hb : Bytes b) (hl : b.length ≤ 1000000) (v : Nat) (hv : v < 256) (R : List Int) (hn : Ev (fun k => puncheonref05_Of.l0 k b (ofAt b (v + 1) 0) ((v + 1 : Nat) : Int)) R) : ∀ (d i : Nat), i + d = b.length → Ev (fun k => puncheonref05_Of.l1 k b (ofAt b v i) (v : Int) (i : Int)) R := by
  intro d
  induction d with
  | zero =>
    intro i hi
    obtain rfl : i = b.length := by omega
    refine Ev.step (fun k => (show puncheonref05_Of.l1 (k + 1) b _ (v : Int) (b.length : Int) = _ by simp only [puncheonref05_Of.l1]; rw [if_neg (by omega), wS v (by omega)])) ?_
    have e : ofAt b v b.length = ofAt b (v + 1) 0 := by
      unfold ofAt
      refine mapR_congr (fun u _ => ?_)
      rw [List.take_length]
      by_cases h1 : u < v
      · rw [if_pos h1, if_pos (by omega)]
      · by_cases h2 : u = v
        · rw [if_neg h1, if_pos h2, if_pos (by omega), h2]
        · rw [if_neg h1, if_neg h2, if_neg (by omega)]; split <;> simp
    rw [e]; exact hn
  | succ d ih =>
    intro i hi
    have hlt : i < b.length := by omega
    have hg := hb.get i
    have hw : wrap64 (b.getD i 0) = b.getD i 0 := w64 (by omega)
    by_cases e : b.getD i 0 = v
    · have hc : (b.take i).count (v : Int) ≤ 1000000 := by
        have := List.count_le_length (a := (v : Int)) (l := b.take i); rw [List.length_take] at this; omega
      have hget : rd (ofAt b v i) (v : Int) = ((b.take i).count (v : Int) : Int) := by
        rw [rd_nat]; unfold ofAt; rw [mapR_get _ hv, if_neg (by omega), if_pos rfl]
      refine Ev.step (fun k => (show puncheonref05_Of.l1 (k + 1) b _ (v : Int) (i : Int) = _ by simp only [puncheonref05_Of.l1]; rw [if_pos (by omega), if_pos (by omega), rd_nat, hw, if_pos e, if_pos (by omega), if_pos (by unfold ofAt; rw [mapR_len]; omega), hget, wS i (by omega), w64 (n := ((b.take i).count (v : Int) : Int) + 1) (by omega), Int.toNat_natCast])) ?_
      have e2 : (ofAt b v i).set v (((b.take i).count (v : Int) : Int) + 1) = ofAt b v (i + 1) := by
        unfold ofAt
        rw [mapR_set _ hv]
        refine mapR_congr (fun u _ => ?_)
        by_cases h2 : u = v
        · subst h2
          rw [if_pos rfl, if_neg (by omega), if_pos rfl, count_take_succ b i hlt, if_pos e]; simp
        · rw [if_neg h2]
          split
          · rfl
          · first | rfl | rw [if_neg h2, if_neg h2]
      rw [e2]; exact ih (i + 1) (by omega)
    · refine Ev.step (fun k => (show puncheonref05_Of.l1 (k + 1) b _ (v : Int) (i : Int) = _ by simp only [puncheonref05_Of.l1]; rw [if_pos (by omega), if_pos (by omega), rd_nat, hw, if_neg e, wS i (by omega)])) ?_
      have e2 : ofAt b v i = ofAt b v (i + 1) := by
        unfold ofAt
        refine mapR_congr (fun u _ => ?_)
        rw [count_take_succ b i hlt, if_neg e]; rfl
      rw [e2]; exact ih (i + 1) (by omega)
theorem refOf_out (b : List Int) (hb : Bytes b) (hl : b.length ≤ 1000000) : ∀ (d v : Nat), v + d = 256 → Ev (fun k => puncheonref05_Of.l0 k b (ofAt b v 0) (v : Int)) (histL b) := by
  intro d
  induction d with
  | zero =>
    intro v hv
    refine Ev.step (fun k => (show puncheonref05_Of.l0 (k + 1) b _ (v : Int) = _ by simp only [puncheonref05_Of.l0]; rw [if_neg (by omega)])) ?_
    have e : ofAt b v 0 = histL b := by
      unfold ofAt histL
      exact mapR_congr (fun u hu => by rw [if_pos (by omega)])
    rw [e]; exact Ev.now _
  | succ d ih =>
    intro v hv
    refine Ev.step (fun k => (show puncheonref05_Of.l0 (k + 1) b _ (v : Int) = _ by simp only [puncheonref05_Of.l0]; rw [if_pos (by omega)])) ?_
    exact refOf_in b hb hl v (by omega) _ (ih (v + 1) (by omega)) b.length 0 (by omega)
theorem refOf_eq (b : List Int) (hb : Bytes b) (hl : b.length ≤ 1000000) : Ev (fun k => puncheonref05_Of.f k b) (histL b) := by
  refine Ev.congr (fun k => (show puncheonref05_Of.f k b = _ by unfold puncheonref05_Of.f; rw [if_pos (by decide)])) ?_
  have e : List.replicate 256 (0 : Int) = ofAt b 0 0 := by
    unfold ofAt mapR
    rw [← List.length_range (n := 256), ← List.map_const', List.length_range]
    exact List.map_congr_left (fun u _ => by rw [if_neg (by omega)]; split <;> simp)
  rw [e]; exact refOf_out b hb hl 256 0 (by omega)
/-- how many are above 0 -/
def posC (c : List Int) (k : Nat) : Nat := (c.take k).countP (fun x => decide (0 < x))
def manyC (c : List Int) : Nat := if rightC c then c.countP (fun x => decide (0 < x)) else 0
theorem posC_succ (c : List Int) (i : Nat) (h : i < c.length) : posC c (i + 1) = posC c i + (if 0 < c.getD i 0 then 1 else 0) := by
  unfold posC
  rw [List.take_succ_eq_append_getElem h, List.countP_append, List.getD_eq_getElem?_getD, List.getElem?_eq_getElem h, Option.getD_some]
  congr 1
  by_cases e : 0 < c[i] <;> simp [e]
theorem posC_le (c : List Int) (i : Nat) : posC c i ≤ i := by
  unfold posC; have := List.countP_le_length (p := fun x => decide (0 < x)) (l := c.take i); rw [List.length_take] at this; omega
theorem refMany_loop (c : List Int) (hl : c.length ≤ 1000000) : ∀ (d i : Nat), i + d = c.length → Ev (fun k => puncheonref05_Many.l0 k c (posC c i : Int) true (i : Int)) ((c.countP (fun x => decide (0 < x)) : Nat) : Int) := by
  intro d
  induction d with
  | zero =>
    intro i hi
    refine Ev.step (fun k => (show puncheonref05_Many.l0 (k + 1) c _ true (i : Int) = _ by simp only [puncheonref05_Many.l0]; rw [if_neg (by omega)])) ?_
    refine Ev.step (fun k => (show puncheonref05_Many.j1 (k + 1) c _ true (i : Int) false = _ by simp only [puncheonref05_Many.j1]; rw [if_neg (by decide)])) ?_
    have e : posC c i = c.countP (fun x => decide (0 < x)) := by unfold posC; rw [List.take_of_length_le (by omega)]
    rw [e]; exact Ev.now _
  | succ d ih =>
    intro i hi
    have hlt : i < c.length := by omega
    have hs := posC_succ c i hlt
    have hle := posC_le c i
    refine Ev.step (fun k => (show puncheonref05_Many.l0 (k + 1) c _ true (i : Int) = _ by simp only [puncheonref05_Many.l0]; rw [if_pos (by omega)])) ?_
    by_cases e : c.getD i 0 > 0
    · refine Ev.step (fun k => (show puncheonref05_Many.j1 (k + 1) c _ true (i : Int) true = _ by simp only [puncheonref05_Many.j1]; rw [if_pos trivial, if_pos (by omega), if_pos (by omega), rd_nat, if_pos e, wS i (by omega), wS (posC c i) (by omega)])) ?_
      rw [if_pos (by omega)] at hs
      rw [← hs]; exact ih (i + 1) (by omega)
    · refine Ev.step (fun k => (show puncheonref05_Many.j1 (k + 1) c _ true (i : Int) true = _ by simp only [puncheonref05_Many.j1]; rw [if_pos trivial, if_pos (by omega), if_pos (by omega), rd_nat, if_neg e, wS i (by omega)])) ?_
      rw [if_neg (by omega)] at hs
      have := ih (i + 1) (by omega)
      rw [hs] at this; exact this
theorem refMany_eq (c : List Int) (hl : c.length ≤ 1000000) : Ev (fun k => puncheonref05_Many.f k c) ((manyC c : Nat) : Int) := by
  unfold puncheonref05_Many.f
  refine Ev.bind (refRight_eq c) ?_
  unfold manyC
  cases hr : rightC c with
  | true => rw [if_pos rfl]; exact refMany_loop c hl c.length 0 (by omega)
  | false =>
    rw [if_neg (by decide)]
    by_cases h : (0 : Int) < (c.length : Int)
    · refine Ev.step (fun k => (show puncheonref05_Many.l0 (k + 1) c 0 false 0 = _ by simp only [puncheonref05_Many.l0]; rw [if_pos h])) ?_
      exact Ev.step (fun k => (show puncheonref05_Many.j1 (k + 1) c 0 false 0 false = some 0 by simp [puncheonref05_Many.j1])) (Ev.now _)
    · refine Ev.step (fun k => (show puncheonref05_Many.l0 (k + 1) c 0 false 0 = _ by simp only [puncheonref05_Many.l0]; rw [if_neg h])) ?_
      exact Ev.step (fun k => (show puncheonref05_Many.j1 (k + 1) c 0 false 0 false = some 0 by simp [puncheonref05_Many.j1])) (Ev.now _)
theorem refAt_eq (b : List Int) (hb : Bytes b) (hl : b.length ≤ 1000000) (i : Int) : puncheonref06_At.f b i = some (ctxI b i) := by
  unfold puncheonref06_At.f ctxI
  by_cases h1 : i < 0
  · rw [if_pos h1, if_pos (.inl h1)]
  · by_cases h2 : i ≥ (b.length : Int)
    · rw [if_neg h1, if_pos h2, if_pos (.inr h2)]
    · rw [if_neg h1, if_neg h2, if_neg (by omega)]
      simp only [Option.bind_some]
      rw [if_pos (by simp; omega), if_pos (by omega), if_pos (by simp; omega)]
      have hw : ∀ x : Int, 0 ≤ x ∧ x < 256 → wrap64 x = x := fun x hx => w64 (by omega)
      by_cases h3 : i = 0
      · subst h3; rw [if_pos rfl]; exact congrArg some (hw 0 (by decide))
      · rw [if_neg h3]
        have e : rd ([0] ++ b) i = b.getD (i - 1).toNat 0 := by
          unfold rd
          rw [show i.toNat = (i - 1).toNat + 1 by omega]; rfl
        rw [e, hw _ (hb.get _)]
end Go.Proofs.Ytfnobinenolhhaa
namespace Go.Proofs.Ytfnobinenolhhaa
open Go.RowKit
theorem posN_mono (l : List Int) (s : Int) : ∀ m n, m ≤ n → ∃ r, posN l s n = posN l s m ++ r := by
  intro m n hmn
  induction hmn with
  | refl => exact ⟨[], by simp⟩
  | step _ ih =>
    rename_i n _
    obtain ⟨r, hr⟩ := ih
    by_cases e : l.getD n (-1) = s
    · exact ⟨r ++ [(n : Int)], by rw [posN_hit e, hr, List.append_assoc]⟩
    · exact ⟨r, by rw [posN_miss e, hr]⟩
/-- the place of a symbol's k-th key -/
theorem place_of {l : List Int} {s : Int} {P : Nat} (hP : P < l.length) (h : l.getD P (-1) = s) : (posN l s l.length).getD (posN l s P).length 0 = P := by
  obtain ⟨r, hr⟩ := posN_mono l s (P + 1) l.length hP
  rw [hr, posN_hit h, List.getD_eq_getElem?_getD, List.append_assoc, List.getElem?_append_right (Nat.le_refl _)]
  simp
theorem place_at {l : List Int} {s : Int} {k : Nat} (hk : k < (posN l s l.length).length) : ∃ P : Nat, (posN l s l.length).getD k 0 = P ∧ P < l.length ∧ l.getD P (-1) = s ∧ (posN l s P).length = k := by
  have key : ∀ m, m ≤ l.length → k < (posN l s m).length → ∃ P : Nat, (posN l s m).getD k 0 = P ∧ P < m ∧ l.getD P (-1) = s ∧ (posN l s P).length = k := by
    intro m
    induction m with
    | zero => intro _ h; simp [posN] at h
    | succ m ih =>
      intro hm h
      by_cases e : l.getD m (-1) = s
      · by_cases hk2 : k < (posN l s m).length
        · obtain ⟨P, h1, h2, h3, h4⟩ := ih (by omega) hk2
          refine ⟨P, ?_, by omega, h3, h4⟩
          rw [posN_hit e, List.getD_eq_getElem?_getD, List.getElem?_append_left hk2, ← List.getD_eq_getElem?_getD]; exact h1
        · rw [posN_hit e] at h
          simp at h
          have hke : k = (posN l s m).length := by omega
          refine ⟨m, ?_, by omega, e, hke.symm⟩
          rw [posN_hit e, hke, List.getD_eq_getElem?_getD, List.getElem?_append_right (Nat.le_refl _)]
          simp
      · rw [posN_miss e] at h
        obtain ⟨P, h1, h2, h3, h4⟩ := ih (by omega) h
        exact ⟨P, by rw [posN_miss e]; exact h1, by omega, h3, h4⟩
  exact key l.length (Nat.le_refl _) hk
theorem syms_getD {q : List Int} (h : logC q ≠ 0) {P : Nat} (hP : P < 2 ^ logC q) : (symsL q).getD P 0 = (symsL q).getD P (-1) ∧ 0 ≤ (symsL q).getD P 0 ∧ (symsL q).getD P 0 < 256 := by
  have := sym_at (good_of_log h) P (by rw [syms_length h]; exact hP)
  exact ⟨this.2.2.symm, this.1, this.2.1⟩
/-- a cell, told by its symbol and its rank -/
theorem cell_of {q : List Int} (h : logC q ≠ 0) {P s k : Nat} (hP : P < 2 ^ logC q) (hs : (symsL q).getD P (-1) = s) (hk : (posN (symsL q) s P).length = k) :
    cellAt q P = ((s : Int), ((logC q - floorI ((cntC q s + k : Nat) : Int) : Nat) : Int), ((cntC q s + k : Nat) : Int) * 2 ^ (logC q - floorI ((cntC q s + k : Nat) : Int)) - 2 ^ logC q) ∧ k < cntC q s := by
  have hq := good_of_log h
  have h1 := syms_getD h hP
  rw [hs] at h1
  have hg : grownC q P = cntC q s + k := by
    unfold grownC; rw [h1.1]; simp only [Int.toNat_natCast]; rw [hk, cnt_eq hq]
  refine ⟨?_, ?_⟩
  · unfold cellAt; rw [h1.1, hg]
  · have := posN_le_of (l := symsL q) (s := s) (k := P) (by rw [syms_length h]; exact hP) hs
    rw [hk] at this; unfold cntC placesC; exact this
theorem floor_uniq {i r n : Nat} (h1 : 2 ^ (r - n) ≤ i) (h2 : i < 2 ^ (r - n + 1)) (hr : r ≤ 12) : floorI (i : Int) = r - n := by
  have hp : 2 ^ (r - n + 1) ≤ 2 ^ 13 := Nat.pow_le_pow_right (by omega) (by omega)
  have h0 : 0 < i := Nat.lt_of_lt_of_le (Nat.two_pow_pos _) h1
  obtain ⟨f1, f2⟩ := floor_pow i h0 (by omega)
  have a : ¬ floorI (i : Int) + 1 ≤ r - n := fun e => by
    have := Nat.pow_le_pow_right (n := 2) (by omega) e; omega
  have b : ¬ r - n + 1 ≤ floorI (i : Int) := fun e => by
    have := Nat.pow_le_pow_right (n := 2) (by omega) e; omega
  omega
/-- the numbers of a step: W = i * 2^n + low -/
structure StepNum (r cnt W n i low : Nat) : Prop where
  eq : W = i * 2 ^ n + low
  low : low < 2 ^ n
  ge : cnt ≤ i
  lt : i < 2 * cnt
  nr : n ≤ r
  fl : floorI (i : Int) = r - n
theorem step_num {r cnt W n : Nat} (hr : r ≤ 12) (hc : 0 < cnt) (hW1 : 2 ^ r ≤ W) (hW2 : W < 2 * 2 ^ r) (h1 : cnt * 2 ^ n ≤ W) (h2 : W < 2 * cnt * 2 ^ n) : StepNum r cnt W n (W / 2 ^ n) (W % 2 ^ n) := by
  have hn := Nat.two_pow_pos n
  have hnr : n ≤ r := by
    have a : ¬ r + 1 ≤ n := fun e => by
      have h3 := Nat.pow_le_pow_right (n := 2) (by omega) e
      have h4 : 2 ^ n ≤ cnt * 2 ^ n := Nat.le_mul_of_pos_left _ hc
      rw [Nat.pow_succ] at h3; omega
    omega
  have hpr : 2 ^ r = 2 ^ (r - n) * 2 ^ n := by rw [← Nat.pow_add]; congr 1; omega
  have hdiv : 2 ^ (r - n) ≤ W / 2 ^ n := (Nat.le_div_iff_mul_le hn).2 (by rw [← hpr]; exact hW1)
  have hdiv2 : W / 2 ^ n < 2 ^ (r - n + 1) := Nat.div_lt_of_lt_mul (by rw [Nat.pow_succ, Nat.mul_comm (2 ^ n), Nat.mul_assoc, Nat.mul_comm 2, ← Nat.mul_assoc, ← hpr]; omega)
  refine ⟨?_, Nat.mod_lt _ hn, (Nat.le_div_iff_mul_le hn).2 h1, Nat.div_lt_of_lt_mul (by rw [Nat.mul_comm]; exact h2), hnr, floor_uniq hdiv hdiv2 hr⟩
  have := Nat.div_add_mod W (2 ^ n)
  rw [Nat.mul_comm] at this; omega
theorem step_nums {q : List Int} {x s : Int} (hl : logC q ≠ 0) (hx : 0 ≤ x ∧ x < 2 ^ logC q) (hc : 0 < cntC q s) : StepNum (logC q) (cntC q s) (wholeC q x) (stepOut q x s) (wholeC q x / 2 ^ stepOut q x s) (stepLow q x s) ∧ (wholeC q x : Int) = 2 ^ logC q + x := by
  have hr : logC q ≤ 12 := logT_le _
  have hp : 2 ^ logC q ≤ 2 ^ 12 := Nat.pow_le_pow_right (by omega) hr
  have e2 : (2 : Int) ^ logC q = ((2 ^ logC q : Nat) : Int) := by simp
  rw [e2] at hx
  have hw : wholeC q x = 2 ^ logC q + x.toNat := rfl
  have hcl := cnt_le hl s
  obtain ⟨a1, a2, a3⟩ := outC_spec (x := wholeC q x) hc (by omega) (by omega)
  refine ⟨step_num hr hc (by omega) (by omega) a1 a2, ?_⟩
  rw [e2, hw]; omega
/-- what a step leads to tells the step -/
theorem step_back {q : List Int} {x : Int} {s : Nat} (hl : logC q ≠ 0) (hx : 0 ≤ x ∧ x < 2 ^ logC q) (hc : 0 < cntC q s) : ∃ P : Nat, stepNext q x s = P ∧ P < 2 ^ logC q ∧ ∃ bs : Int, cellAt q P = ((s : Int), (stepOut q x s : Int), bs) ∧ bs + stepLow q x s = x ∧ stepLow q x s < 2 ^ stepOut q x s := by
  obtain ⟨H, hW⟩ := step_nums hl hx hc
  obtain ⟨i, hi⟩ : ∃ i, i = wholeC q x / 2 ^ stepOut q x s := ⟨_, rfl⟩
  rw [← hi] at H
  have hk : i - cntC q s < (posN (symsL q) s (symsL q).length).length := by
    show i - cntC q s < cntC q s
    have := H.ge; have := H.lt; omega
  obtain ⟨P, h1, h2, h3, h4⟩ := place_at hk
  rw [syms_length hl] at h2
  refine ⟨P, ?_, h2, ?_⟩
  · unfold stepNext; rw [← hi]; exact h1
  · obtain ⟨hce, _⟩ := cell_of hl h2 h3 h4
    have hgi : cntC q s + (i - cntC q s) = i := by have := H.ge; omega
    rw [hgi] at hce
    have hb : logC q - floorI (i : Int) = stepOut q x s := by rw [H.fl]; have := H.nr; omega
    rw [hb] at hce
    refine ⟨_, hce, ?_, H.low⟩
    have e1 : (i : Int) * 2 ^ stepOut q x s = ((i * 2 ^ stepOut q x s : Nat) : Int) := by simp
    have := H.eq
    rw [e1]; omega
/-- what a cell leads to is stepped back to it -/
theorem step_fore {q : List Int} {P more : Nat} (hl : logC q ≠ 0) (hP : P < 2 ^ logC q) {s b : Nat} {bs : Int} (hce : cellAt q P = ((s : Int), (b : Int), bs)) (hm : more < 2 ^ b) :
    0 < cntC q s ∧ 0 ≤ bs + more ∧ bs + more < 2 ^ logC q ∧ stepOut q (bs + more) s = b ∧ stepLow q (bs + more) s = more ∧ stepNext q (bs + more) s = P := by
  have hr : logC q ≤ 12 := logT_le _
  have hp : 2 ^ logC q ≤ 2 ^ 12 := Nat.pow_le_pow_right (by omega) hr
  have hsy := syms_getD hl hP
  have hs1 : (cellAt q P).1 = (symsL q).getD P 0 := rfl
  rw [hce] at hs1
  have hs : (symsL q).getD P (-1) = s := by rw [← hsy.1]; exact hs1.symm
  obtain ⟨k, hk⟩ : ∃ k, (posN (symsL q) s P).length = k := ⟨_, rfl⟩
  obtain ⟨hce2, hkc⟩ := cell_of hl hP hs hk
  rw [hce] at hce2
  obtain ⟨g, hg⟩ : ∃ g, g = cntC q s + k := ⟨_, rfl⟩
  rw [← hg] at hce2
  have hb : (b : Int) = ((logC q - floorI (g : Int) : Nat) : Int) := (Prod.mk.inj (Prod.mk.inj hce2).2).1
  have hb' : logC q - floorI (g : Int) = b := by omega
  have hbs : bs = (g : Int) * 2 ^ b - 2 ^ logC q := by have := (Prod.mk.inj (Prod.mk.inj hce2).2).2; rw [hb'] at this; exact this
  have hok := cellAt_ok hl P hP
  rw [hce] at hok
  obtain ⟨_, _, ⟨b', hbb, _, hsum⟩, hbs0, _⟩ := hok
  obtain rfl : b' = b := by simp only at hbb; omega
  simp only at hsum hbs0
  have e1 : (2 : Int) ^ b' = ((2 ^ b' : Nat) : Int) := by simp
  have e2 : (2 : Int) ^ logC q = ((2 ^ logC q : Nat) : Int) := by simp
  have e3 : (g : Int) * 2 ^ b' = ((g * 2 ^ b' : Nat) : Int) := by simp
  have hbs2 : bs = ((g * 2 ^ b' : Nat) : Int) - ((2 ^ logC q : Nat) : Int) := by rw [← e3, ← e2]; exact hbs
  rw [e1, e2] at hsum
  have hW : wholeC q (bs + more) = g * 2 ^ b' + more := by unfold wholeC; omega
  have hgc : cntC q s * 2 ^ b' ≤ g * 2 ^ b' := Nat.mul_le_mul_right _ (by omega)
  have hgc2 : (g + 1) * 2 ^ b' ≤ 2 * cntC q s * 2 ^ b' := Nat.mul_le_mul_right _ (by omega)
  rw [Nat.add_mul, Nat.one_mul] at hgc2
  have hout : stepOut q (bs + more) s = b' := by
    unfold stepOut; rw [hW]
    exact outC_eq (by omega) (by have := logT_le (totalC q); have hbr : b' ≤ logC q := by omega
                                 omega) (by omega) (by omega)
  have hdiv : (g * 2 ^ b' + more) / 2 ^ b' = g := by
    rw [Nat.add_comm, Nat.add_mul_div_right _ _ (Nat.two_pow_pos _), Nat.div_eq_of_lt hm]; omega
  refine ⟨by omega, by omega, by rw [e2]; omega, hout, ?_, ?_⟩
  · unfold stepLow; rw [hW, hout, Nat.add_comm, Nat.add_mul_mod_self_right, Nat.mod_eq_of_lt hm]
  · unfold stepNext; rw [hW, hout, hdiv]
    have := place_of (l := symsL q) (s := s) (P := P) (by rw [syms_length hl]; exact hP) hs
    rw [hk] at this
    rw [show g - cntC q s = k by omega]; exact this
end Go.Proofs.Ytfnobinenolhhaa
namespace Go.Proofs.Ytfnobinenolhhaa
open Go.RowKit
/-- the first bits of bytes -/
structure BitsP (ps : List Int) (left : Nat) (bs : List Bool) : Prop where
  len : bs.length = left
  at_ : ∀ i, i < left → bitI ps i = (bs.getD i false).toNat
theorem lowBits_get (v n i : Nat) (h : i < n) : (lowBits v n).getD i false = decide (v / 2 ^ i % 2 = 1) := by
  unfold lowBits
  rw [List.getD_eq_getElem?_getD, List.getElem?_map, List.getElem?_range h]; rfl
theorem bit_toNat (v i : Nat) : (decide (v / 2 ^ i % 2 = 1)).toNat = v / 2 ^ i % 2 := by
  rcases Nat.mod_two_eq_zero_or_one (v / 2 ^ i) with e | e <;> rw [e] <;> rfl
theorem bits_drop {ps : List Int} {left n : Nat} {bs : List Bool} {v : Nat} (h : BitsP ps left (bs ++ lowBits v n)) : BitsP ps (left - n) bs := by
  have hl := h.len
  rw [List.length_append, lowBits_len] at hl
  refine ⟨by omega, fun i hi => ?_⟩
  rw [h.at_ i (by omega), List.getD_eq_getElem?_getD, List.getElem?_append_left (by omega), ← List.getD_eq_getElem?_getD]
theorem take_val {ps : List Int} {left n : Nat} {bs : List Bool} {v : Nat} (h : BitsP ps left (bs ++ lowBits v n)) (hv : v < 2 ^ n) : ∀ j, j ≤ n → takeV ps left j = v / 2 ^ (n - j) := by
  have hl := h.len
  rw [List.length_append, lowBits_len] at hl
  intro j
  induction j with
  | zero => intro _; simp only [takeV, Nat.sub_zero]; rw [Nat.div_eq_of_lt hv]
  | succ j ih =>
    intro hj
    simp only [takeV]
    rw [ih (by omega), h.at_ (left - (j + 1)) (by omega), List.getD_eq_getElem?_getD, List.getElem?_append_right (by omega), ← List.getD_eq_getElem?_getD, lowBits_get _ _ _ (by omega), bit_toNat,
      show left - (j + 1) - bs.length = n - (j + 1) by omega, show n - j = n - (j + 1) + 1 by omega, Nat.pow_succ, ← Nat.div_div_eq_div_mul]
    omega
theorem take_bits {ps : List Int} {left n : Nat} {bs : List Bool} {v : Nat} (h : BitsP ps left (bs ++ lowBits v n)) (hv : v < 2 ^ n) : takeV ps left n = v ∧ n ≤ left := by
  have hl := h.len
  rw [List.length_append, lowBits_len] at hl
  have := take_val h hv n (Nat.le_refl _)
  rw [Nat.sub_self, Nat.pow_zero, Nat.div_one] at this
  exact ⟨this, by omega⟩
theorem lowBits_cons (u n : Nat) : lowBits u (n + 1) = decide (u % 2 = 1) :: lowBits (u / 2) n := by
  unfold lowBits
  rw [List.range_succ_eq_map, List.map_cons, List.map_map]
  congr 1
  · simp
  · apply List.map_congr_left
    intro i _
    simp only [Function.comp, Nat.succ_eq_add_one]
    rw [Nat.pow_succ, Nat.mul_comm, ← Nat.div_div_eq_div_mul]
theorem lowBits_byteL : ∀ l : List Bool, lowBits (byteL l) l.length = l
  | [] => rfl
  | b :: l => by
    rw [List.length_cons, lowBits_cons, byteL]
    have h1 : (b.toNat + 2 * byteL l) % 2 = b.toNat := by have : b.toNat ≤ 1 := by cases b <;> decide
                                                          omega
    have h2 : (b.toNat + 2 * byteL l) / 2 = byteL l := by have : b.toNat ≤ 1 := by cases b <;> decide
                                                          omega
    rw [h1, h2, lowBits_byteL l]
    congr 1
    cases b <;> rfl
theorem bits_split {ps : List Int} {left n : Nat} {bs : List Bool} (h : BitsP ps left bs) (hn : n ≤ left) : bs = bs.take (left - n) ++ lowBits (takeV ps left n) n ∧ BitsP ps (left - n) (bs.take (left - n)) := by
  have hl := h.len
  have hd : (bs.drop (left - n)).length = n := by rw [List.length_drop]; omega
  have e : bs = bs.take (left - n) ++ lowBits (byteL (bs.drop (left - n))) n := by
    have := lowBits_byteL (bs.drop (left - n))
    rw [hd] at this
    rw [this, List.take_append_drop]
  have h2 := h
  rw [e] at h2
  have hv := byteL_lt (bs.drop (left - n))
  rw [hd] at hv
  have ht := take_bits h2 hv
  rw [ht.1]
  exact ⟨e, bits_drop h2⟩
/-- a tail, encoded: the states and the bits ahead of it -/
def qOf (one : Bool) (qs : List (List Int)) (last : Int) : List Int := qs.getD (listI one last) []
def encT (one : Bool) (qs : List (List Int)) : Int → Nat → List Int → (Int × Int) × List Bool
  | _, _, [] => ((0, 0), [])
  | last, i, c :: z =>
    let r := encT one qs c (i + 1) z
    let x := pick2 (i % 2) r.1.1 r.1.2
    (set2 (i % 2) r.1.1 r.1.2 (stepNext (qOf one qs last) x c), r.2 ++ lowBits (stepLow (qOf one qs last) x c) (stepOut (qOf one qs last) x c))
/-- each byte of a tail is expected -/
def fitT (lg : Int) (one : Bool) (qs : List (List Int)) : Int → List Int → Prop
  | _, [] => True
  | last, c :: z => (logC (qOf one qs last) ≠ 0 ∧ (logC (qOf one qs last) : Int) = lg ∧ 0 ≤ c ∧ c < 256 ∧ 0 < cntC (qOf one qs last) c) ∧ fitT lg one qs c z
theorem encT_nil (one : Bool) (qs : List (List Int)) (l l' : Int) (i j : Nat) : encT one qs l i [] = encT one qs l' j [] := rfl
theorem ctx_next {b : List Int} {i : Nat} (h : i + 1 < b.length) : ctxI b ((i + 1 : Nat) : Int) = b.getD i 0 := by
  unfold ctxI
  rw [if_neg (by omega), if_neg (by omega)]
  congr 1; omega
theorem encN_encT (one : Bool) (qs : List (List Int)) (b : List Int) : ∀ k, k ≤ b.length → encN one qs b k = encT one qs (ctxI b ((b.length - k : Nat) : Int)) (b.length - k) (b.drop (b.length - k)) := by
  intro k
  induction k with
  | zero => intro _; rw [Nat.sub_zero, List.drop_length]; rfl
  | succ k ih =>
    intro hk
    obtain ⟨i, hi⟩ : ∃ i, i = b.length - (k + 1) := ⟨_, rfl⟩
    have hlt : i < b.length := by omega
    have e1 : b.drop i = b.getD i 0 :: b.drop (i + 1) := by
      rw [List.drop_eq_getElem_cons hlt, List.getD_eq_getElem?_getD, List.getElem?_eq_getElem hlt]; rfl
    rw [← hi, e1]
    simp only [encN, encT]
    rw [ih (by omega), show b.length - 1 - k = i by omega, show b.length - k = i + 1 by omega]
    have e2 : encT one qs (ctxI b ((i + 1 : Nat) : Int)) (i + 1) (b.drop (i + 1)) = encT one qs (b.getD i 0) (i + 1) (b.drop (i + 1)) := by
      by_cases h : i + 1 < b.length
      · rw [ctx_next h]
      · rw [List.drop_of_length_le (by omega)]; rfl
    rw [e2]
    unfold qAt qOf pick2 set2
    rfl
theorem set_pick (t : Nat) (x0 x1 y : Int) : pick2 t (set2 t x0 x1 y).1 (set2 t x0 x1 y).2 = y := by unfold pick2 set2; split <;> rfl
theorem set_set (t : Nat) (x0 x1 y : Int) : set2 t (set2 t x0 x1 y).1 (set2 t x0 x1 y).2 (pick2 t x0 x1) = (x0, x1) := by unfold pick2 set2; split <;> rfl
theorem encT_range {lg : Int} {one : Bool} {qs : List (List Int)} : ∀ (z : List Int) (last : Int) (i : Nat), fitT lg one qs last z → (0 ≤ (encT one qs last i z).1.1 ∧ (encT one qs last i z).1.1 < 2 ^ lg.toNat) ∧ (0 ≤ (encT one qs last i z).1.2 ∧ (encT one qs last i z).1.2 < 2 ^ lg.toNat)
  | [], _, _, _ => by
    have h : (0 : Int) < 2 ^ lg.toNat := by
      have := Nat.two_pow_pos lg.toNat
      have e : (2 : Int) ^ lg.toNat = ((2 ^ lg.toNat : Nat) : Int) := by simp
      rw [e]; omega
    exact ⟨⟨Int.le_refl _, h⟩, ⟨Int.le_refl _, h⟩⟩
  | c :: z, last, i, h => by
    obtain ⟨⟨h1, h2, h3, h4, h5⟩, hz⟩ := h
    have ih := encT_range z c (i + 1) hz
    have hp := place_lt h1 c
    have e : lg.toNat = logC (qOf one qs last) := by omega
    simp only [encT]
    rw [e] at ih ⊢
    refine set2_range ih.1 ih.2 ?_
    exact hp _
theorem enc_dec {lg : Int} {one : Bool} {qs : List (List Int)} {ps : List Int} : ∀ (z : List Int) (last : Int) (i left : Nat) (out : List Int), fitT lg one qs last z → BitsP ps left (encT one qs last i z).2 →
    decGo one qs ps z.length i last (encT one qs last i z).1.1 (encT one qs last i z).1.2 left out = (0, out ++ z)
  | [], last, i, left, out, _, hb => by
    have : left = 0 := by have := hb.len; simpa [encT] using this.symm
    subst this
    simp [decGo, encT]
  | c :: z, last, i, left, out, hf, hb => by
    obtain ⟨⟨h1, h2, h3, h4, h5⟩, hz⟩ := hf
    obtain ⟨s, rfl⟩ : ∃ s : Nat, c = s := ⟨c.toNat, by omega⟩
    have hrg := encT_range z (s : Int) (i + 1) hz
    obtain ⟨r, hr⟩ : ∃ r, r = encT one qs (s : Int) (i + 1) z := ⟨_, rfl⟩
    have e : lg.toNat = logC (qOf one qs last) := by omega
    have hx : 0 ≤ pick2 (i % 2) r.1.1 r.1.2 ∧ pick2 (i % 2) r.1.1 r.1.2 < 2 ^ logC (qOf one qs last) := by
      rw [← hr, e] at hrg
      unfold pick2; split
      · exact hrg.1
      · exact hrg.2
    obtain ⟨P, hP1, hP2, bs, hc, hsum, hlow⟩ := step_back h1 hx h5
    have hT : encT one qs last i ((s : Int) :: z) = (set2 (i % 2) r.1.1 r.1.2 (stepNext (qOf one qs last) (pick2 (i % 2) r.1.1 r.1.2) s), r.2 ++ lowBits (stepLow (qOf one qs last) (pick2 (i % 2) r.1.1 r.1.2) s) (stepOut (qOf one qs last) (pick2 (i % 2) r.1.1 r.1.2) s)) := by
      simp only [encT]; rw [← hr]
    rw [hT] at hb ⊢
    simp only at hb ⊢
    obtain ⟨htk, hle⟩ := take_bits hb hlow
    have hb2 := bits_drop hb
    have hcells : cellsOf (qs.getD (listI one last) []) = cellsC (qOf one qs last) := by unfold cellsOf; exact if_neg h1
    have hlen := cellsC_len h1
    have hget := cellsC_get h1 P hP2
    rw [List.length_cons, decGo_yes (x := P) (b := stepOut (qOf one qs last) (pick2 (i % 2) r.1.1 r.1.2) s) (s := (s : Int)) (bs := bs) (by rw [hcells, hlen]; have := Nat.two_pow_pos (logC (qOf one qs last)); omega) (by rw [set_pick]; exact hP1) (by rw [hcells, hget]; exact hc) hle]
    rw [htk, hsum, set_set]
    rw [hr] at hb2 ⊢
    have ih := enc_dec z (s : Int) (i + 1) (left - stepOut (qOf one qs last) (pick2 (i % 2) r.1.1 r.1.2) s) (out ++ [(s : Int)]) hz (by rw [hr]; exact hb2)
    rw [← hr] at ih ⊢
    rw [ih, List.append_assoc]; rfl
theorem dec_enc {lg : Int} {one : Bool} {qs : List (List Int)} {ps : List Int} (hR : rightM lg one qs = true) : ∀ (n : Nat) (last : Int) (i left : Nat) (x0 x1 : Int) (out res : List Int) (bs : List Bool), (0 ≤ x0 ∧ x0 < 2 ^ lg.toNat) → (0 ≤ x1 ∧ x1 < 2 ^ lg.toNat) → BitsP ps left bs →
    decGo one qs ps n i last x0 x1 left out = (0, res) → ∃ z, res = out ++ z ∧ z.length = n ∧ fitT lg one qs last z ∧ encT one qs last i z = ((x0, x1), bs)
  | 0, last, i, left, x0, x1, out, res, bs, h0, h1, hb, h => by
    simp only [decGo] at h
    split at h
    · rename_i hz
      obtain ⟨rfl, rfl, rfl⟩ := hz
      have hbs : bs = [] := List.eq_nil_of_length_eq_zero hb.len
      subst hbs
      exact ⟨[], by simpa using (Prod.mk.inj h).2.symm, rfl, trivial, rfl⟩
    · exact absurd (Prod.mk.inj h).1 (by decide)
  | n + 1, last, i, left, x0, x1, out, res, bs, h0, h1, hb, h => by
    have hrc := right_cells hR (listI one last)
    by_cases hz : (cellsOf (qs.getD (listI one last) [])).length = 0
    · rw [decGo_none hz] at h; exact absurd (Prod.mk.inj h).1 (by decide)
    · obtain ⟨hq1, hq2, hq3, hq4⟩ := hrc.resolve_left hz
      have hpr : 0 ≤ pick2 (i % 2) x0 x1 ∧ pick2 (i % 2) x0 x1 < 2 ^ lg.toNat := by
        unfold pick2; split
        · exact h0
        · exact h1
      obtain ⟨x, hx⟩ : ∃ x : Nat, pick2 (i % 2) x0 x1 = x := ⟨(pick2 (i % 2) x0 x1).toNat, by omega⟩
      have e2 : (2 : Int) ^ lg.toNat = ((2 ^ lg.toNat : Nat) : Int) := by simp
      have hlq : lg.toNat = logC (qOf one qs last) := by show _ = logC (qs.getD (listI one last) []); omega
      rw [hx, e2, hlq] at hpr
      have hP : x < 2 ^ logC (qOf one qs last) := by omega
      have hl1 : logC (qOf one qs last) ≠ 0 := hq1
      have hget : (cellsOf (qs.getD (listI one last) [])).getD x z3 = cellAt (qOf one qs last) x := by rw [hq3]; exact cellsC_get hl1 x hP
      have hok := cellAt_ok hl1 x hP
      obtain ⟨⟨sI, bI, bs0⟩, hce⟩ : ∃ t : K3, t = cellAt (qOf one qs last) x := ⟨_, rfl⟩
      rw [← hce] at hget hok
      obtain ⟨a1, a2, ⟨b, a3, a4, a5⟩, a6, a7⟩ := hok
      simp only at a1 a2 a3 a4 a5 a6 a7
      subst a3
      obtain ⟨s, rfl⟩ : ∃ s : Nat, sI = s := ⟨sI.toNat, by omega⟩
      by_cases hle : b ≤ left
      · rw [decGo_yes hz hx hget hle] at h
        obtain ⟨hsp, hb2⟩ := bits_split hb hle
        have hm := takeV_lt ps left b
        obtain ⟨more, hmore⟩ : ∃ m, m = takeV ps left b := ⟨_, rfl⟩
        rw [← hmore] at h hsp hm
        obtain ⟨f1, f2, f3, f4, f5, f6⟩ := step_fore hl1 hP hce.symm hm
        have hrange := set2_range (t := i % 2) (y := bs0 + more) h0 h1 ⟨f2, by rw [hlq]; exact f3⟩
        obtain ⟨z, hz1, hz2, hz3, hz4⟩ := dec_enc hR n (s : Int) (i + 1) (left - b) _ _ _ _ _ hrange.1 hrange.2 hb2 h
        refine ⟨(s : Int) :: z, by rw [hz1, List.append_assoc]; rfl, by rw [List.length_cons, hz2], ⟨⟨hl1, hq2, a1, a2, f1⟩, hz3⟩, ?_⟩
        have hpk : pick2 (i % 2) (set2 (i % 2) x0 x1 (bs0 + more)).1 (set2 (i % 2) x0 x1 (bs0 + more)).2 = bs0 + more := set_pick _ _ _ _
        simp only [encT, hz4]
        rw [hpk, f4, f5, f6, ← hsp, ← hx, set_set]
      · rw [decGo_short hz hx hget hle] at h; exact absurd (Prod.mk.inj h).1 (by decide)
end Go.Proofs.Ytfnobinenolhhaa
namespace Go.Proofs.Ytfnobinenolhhaa
open Go.RowKit
theorem bit_byteL (l : List Bool) (j : Nat) : byteL l / 2 ^ j % 2 = (l.getD j false).toNat := by
  induction l generalizing j with
  | nil => simp [byteL]
  | cons b l ih =>
    have hb : b.toNat ≤ 1 := by cases b <;> decide
    cases j with
    | zero => simp only [byteL, Nat.pow_zero, Nat.div_one, List.getD_cons_zero]; omega
    | succ j =>
      simp only [byteL, List.getD_cons_succ]
      rw [Nat.pow_succ, Nat.mul_comm (2 ^ j), ← Nat.div_div_eq_div_mul, show (b.toNat + 2 * byteL l) / 2 = byteL l by omega]
      exact ih j
theorem bit_pack (l : List Bool) (i : Nat) (h : i < l.length) : bitI (packB l) i = (l.getD i false).toNat := by
  unfold bitI
  have hk : i / 8 < (packB l).length := by rw [packB_len]; omega
  rw [List.getD_eq_getElem?_getD, List.getElem?_eq_getElem hk, Option.getD_some, packB_at]
  simp only [Int.toNat_natCast]
  rw [bit_byteL, List.getD_eq_getElem?_getD, List.getElem?_take, if_pos (by omega), List.getElem?_drop, ← List.getD_eq_getElem?_getD]
  congr 2; omega
theorem packB_bytes (l : List Bool) : ∀ x ∈ packB l, 0 ≤ x ∧ x < 256 := by
  intro x hx
  unfold packB at hx
  obtain ⟨i, _, rfl⟩ := List.mem_map.1 hx
  have h1 := byteL_lt ((l.drop (8 * i)).take 8)
  have h2 : 2 ^ ((l.drop (8 * i)).take 8).length ≤ 2 ^ 8 := Nat.pow_le_pow_right (by omega) (by rw [List.length_take]; omega)
  exact ⟨by omega, by omega⟩
theorem bitLen_of {x m : Nat} (h1 : 2 ^ m ≤ x) (h2 : x < 2 ^ (m + 1)) (hx : x < 2 ^ 64) : Lib.bitLen x = m + 1 := by
  have h0 : 0 < x := Nat.lt_of_lt_of_le (Nat.two_pow_pos _) h1
  obtain ⟨a, b, c⟩ := bitLen_pow x h0 hx
  have d : ¬ Lib.bitLen x ≤ m := fun e => by have := Nat.pow_le_pow_right (n := 2) (by omega) e; omega
  have f : ¬ m + 1 ≤ Lib.bitLen x - 1 := fun e => by have := Nat.pow_le_pow_right (n := 2) (by omega) e; omega
  omega
/-- closed bits -/
theorem pack_closed (bs : List Bool) : (packB (bs ++ [true])).length = bs.length / 8 + 1 ∧ ¬ ((packB (bs ++ [true])).length = 0 ∨ lastB (packB (bs ++ [true])) = 0) ∧ bitsIn (packB (bs ++ [true])) = bs.length ∧ BitsP (packB (bs ++ [true])) bs.length bs := by
  have hl : (packB (bs ++ [true])).length = bs.length / 8 + 1 := by rw [packB_len, List.length_append, List.length_singleton]; omega
  have hlast : lastB (packB (bs ++ [true])) = ((byteL (bs.drop (8 * (bs.length / 8))) + 2 ^ (bs.length % 8) : Nat) : Int) := by
    unfold lastB
    rw [List.getD_eq_getElem?_getD, List.getElem?_eq_getElem (by omega), Option.getD_some, packB_at]
    have hd : (bs.drop (8 * (bs.length / 8))).length = bs.length % 8 := by rw [List.length_drop]; omega
    rw [hl, Nat.add_sub_cancel, List.drop_append_of_le_length (by omega), List.take_of_length_le (by rw [List.length_append, hd, List.length_singleton]; omega), byteL_snoc, hd]
    simp
  have hlt := byteL_lt (bs.drop (8 * (bs.length / 8)))
  rw [show (bs.drop (8 * (bs.length / 8))).length = bs.length % 8 by rw [List.length_drop]; omega] at hlt
  have hp := Nat.two_pow_pos (bs.length % 8)
  have hp8 : 2 ^ (bs.length % 8) ≤ 2 ^ 8 := Nat.pow_le_pow_right (by omega) (by omega)
  refine ⟨hl, by rw [hl, hlast]; omega, ?_, rfl, fun i hi => ?_⟩
  · unfold bitsIn
    rw [hlast, hl, Int.toNat_natCast, bitLen_of (m := bs.length % 8) (by omega) (by rw [Nat.pow_succ]; omega) (by omega)]
    omega
  · rw [bit_pack _ _ (by rw [List.length_append]; omega), List.getD_eq_getElem?_getD, List.getElem?_append_left hi, ← List.getD_eq_getElem?_getD]
theorem byteL_low (y k : Nat) : byteL (lowBits y k) = y % 2 ^ k := by
  induction k with
  | zero => simp [lowBits, byteL, Nat.mod_one]
  | succ k ih =>
    rw [lowBits_succ, byteL_snoc, ih, lowBits_len, bit_toNat, Nat.mod_pow_succ, Nat.mul_comm]
/-- bytes that were closed, as bits -/
def bitsL (ps : List Int) : List Bool := (List.range (bitsIn ps)).map (fun i => decide (bitI ps i = 1))
theorem bitsL_ok (ps : List Int) : BitsP ps (bitsIn ps) (bitsL ps) := by
  refine ⟨by simp [bitsL], fun i hi => ?_⟩
  unfold bitsL
  rw [List.getD_eq_getElem?_getD, List.getElem?_map, List.getElem?_range hi]
  have := bitI_le ps i
  show bitI ps i = (decide (bitI ps i = 1)).toNat
  rcases (by omega : bitI ps i = 0 ∨ bitI ps i = 1) with e | e <;> rw [e] <;> rfl
theorem bits_low {ps : List Int} {left : Nat} {bs : List Bool} (h : BitsP ps left bs) {i k : Nat} (_ : i < ps.length) (hk : k ≤ 8) (hl : 8 * i + k ≤ left) : (bs.drop (8 * i)).take k = lowBits (ps.getD i 0).toNat k := by
  have hlen := h.len
  apply List.ext_getElem
  · rw [lowBits_len, List.length_take, List.length_drop]; omega
  · intro j h1 h2
    rw [lowBits_len] at h2
    have e1 : ((bs.drop (8 * i)).take k)[j] = bs.getD (8 * i + j) false := by
      rw [List.getElem_take, List.getElem_drop, List.getD_eq_getElem?_getD, List.getElem?_eq_getElem (by omega)]; rfl
    have e2 : (lowBits (ps.getD i 0).toNat k)[j]'(by rw [lowBits_len]; exact h2) = decide ((ps.getD i 0).toNat / 2 ^ j % 2 = 1) := by
      have := lowBits_get (ps.getD i 0).toNat k j h2
      rw [List.getD_eq_getElem?_getD, List.getElem?_eq_getElem (by rw [lowBits_len]; exact h2)] at this; exact this
    rw [e1, e2]
    have hb := h.at_ (8 * i + j) (by omega)
    unfold bitI at hb
    rw [show (8 * i + j) / 8 = i by omega, show (8 * i + j) % 8 = j by omega] at hb
    rw [hb]
    cases bs.getD (8 * i + j) false <;> rfl
/-- closed again, they are the same bytes -/
theorem pack_back {ps : List Int} (hps : ∀ x ∈ ps, 0 ≤ x ∧ x < 256) (h : ¬ (ps.length = 0 ∨ lastB ps = 0)) {bs : List Bool} (hb : BitsP ps (bitsIn ps) bs) : packB (bs ++ [true]) = ps := by
  have hge : ∀ i, i < ps.length → 0 ≤ ps.getD i 0 ∧ ps.getD i 0 < 256 := fun i hi => by
    rw [List.getD_eq_getElem?_getD, List.getElem?_eq_getElem hi]; exact hps _ (List.getElem_mem hi)
  obtain ⟨y, hy⟩ : ∃ y : Nat, lastB ps = y := ⟨(lastB ps).toNat, by unfold lastB; have := hge (ps.length - 1) (by omega); omega⟩
  have hy256 : y < 256 := by unfold lastB at hy; have := hge (ps.length - 1) (by omega); omega
  have hy0 : 0 < y := by omega
  obtain ⟨l1, l2, l3⟩ := bitLen_pow y hy0 (by omega)
  have hl8 := Lib.bitLen_le8' (y : Int) (by omega) (by omega)
  rw [Int.toNat_natCast] at hl8
  have hbits : bitsIn ps = 8 * (ps.length - 1) + (Lib.bitLen y - 1) := by unfold bitsIn; rw [hy, Int.toNat_natCast]; omega
  have hlen := hb.len
  apply List.ext_getElem
  · rw [packB_len, List.length_append, List.length_singleton]; omega
  · intro i h1 h2
    rw [packB_at]
    have hpi : ps[i] = ((ps.getD i 0).toNat : Int) := by
      have := hge i h2
      rw [Int.toNat_of_nonneg this.1, List.getD_eq_getElem?_getD, List.getElem?_eq_getElem h2]; rfl
    rw [hpi]
    congr 1
    by_cases hi : i + 1 < ps.length
    · rw [List.drop_append_of_le_length (by omega), List.take_append_of_le_length (by rw [List.length_drop]; omega), bits_low hb h2 (Nat.le_refl 8) (by omega), byteL_low]
      have := (hge i h2).2
      exact Nat.mod_eq_of_lt (by omega)
    · have hie : i = ps.length - 1 := by omega
      have hyi : (ps.getD i 0).toNat = y := by unfold lastB at hy; rw [hie, hy]; rfl
      have hdl : (bs.drop (8 * i)).length = Lib.bitLen y - 1 := by rw [List.length_drop]; omega
      have hlow := bits_low hb h2 (k := Lib.bitLen y - 1) (by omega) (by omega)
      rw [List.take_of_length_le (by omega), hyi] at hlow
      rw [List.drop_append_of_le_length (by omega), List.take_of_length_le (by rw [List.length_append, hdl, List.length_singleton]; omega), byteL_snoc, hlow, byteL_low, lowBits_len, hyi]
      show y % 2 ^ (Lib.bitLen y - 1) + 1 * 2 ^ (Lib.bitLen y - 1) = y
      have e : y / 2 ^ (Lib.bitLen y - 1) = 1 := by
        rw [Nat.div_eq_iff (Nat.two_pow_pos _)]
        have : 2 ^ Lib.bitLen y = 2 * 2 ^ (Lib.bitLen y - 1) := by rw [← Nat.pow_succ']; congr 1; omega
        omega
      have := Nat.div_add_mod y (2 ^ (Lib.bitLen y - 1))
      rw [e] at this; omega
theorem qAt_qOf (one : Bool) (qs : List (List Int)) (b : List Int) (i : Nat) : qAt one qs b i = qOf one qs (ctxI b i) := rfl
theorem drop_cons (b : List Int) (i : Nat) (h : i < b.length) : b.drop i = b.getD i 0 :: b.drop (i + 1) := by
  rw [List.drop_eq_getElem_cons h, List.getD_eq_getElem?_getD, List.getElem?_eq_getElem h]; rfl
theorem fitT_ctx {lg : Int} {one : Bool} {qs : List (List Int)} {b : List Int} (i : Nat) (h : i < b.length) (l : Int) : (i + 1 < b.length → l = ctxI b ((i + 1 : Nat) : Int)) → (fitT lg one qs (b.getD i 0) (b.drop (i + 1)) ↔ fitT lg one qs l (b.drop (i + 1))) := by
  intro hl
  by_cases e : i + 1 < b.length
  · rw [hl e, ctx_next e]
  · rw [List.drop_of_length_le (by omega)]; exact Iff.rfl
theorem fits_fitT {lg : Int} {one : Bool} {qs : List (List Int)} {b : List Int} (h : fitsM lg one qs b = true) (hb : Bytes b) : ∀ k, k ≤ b.length → fitT lg one qs (ctxI b ((b.length - k : Nat) : Int)) (b.drop (b.length - k)) := by
  intro k
  induction k with
  | zero => intro _; rw [Nat.sub_zero, List.drop_length]; trivial
  | succ k ih =>
    intro hk
    have hlt : b.length - (k + 1) < b.length := by omega
    rw [drop_cons b _ hlt]
    have hf := fit_count h hb (b.length - (k + 1)) hlt
    have hg := hb.get (b.length - (k + 1))
    have ih2 := ih (by omega)
    rw [show b.length - k = b.length - (k + 1) + 1 by omega] at ih2
    exact ⟨⟨hf.1, hf.2.1, hg.1, hg.2, hf.2.2⟩, (fitT_ctx _ hlt _ (fun _ => rfl)).2 ih2⟩
theorem fitT_fits {lg : Int} {one : Bool} {qs : List (List Int)} {b : List Int} (h : rightM lg one qs = true) (hf : fitT lg one qs (ctxI b 0) b) : fitsM lg one qs b = true ∧ Bytes b := by
  have key : ∀ k, k ≤ b.length → fitT lg one qs (ctxI b (k : Nat)) (b.drop k) ∧ ∀ i, i < k → fitAt one qs b i = true ∧ 0 ≤ b.getD i 0 ∧ b.getD i 0 < 256 := by
    intro k
    induction k with
    | zero => intro _; exact ⟨hf, fun i hi => by omega⟩
    | succ k ih =>
      intro hk
      obtain ⟨h1, h2⟩ := ih (by omega)
      have hlt : k < b.length := by omega
      rw [drop_cons b k hlt] at h1
      obtain ⟨⟨a1, a2, a3, a4, a5⟩, a6⟩ := h1
      refine ⟨(fitT_ctx k hlt _ (fun _ => rfl)).1 a6, fun i hi => ?_⟩
      by_cases e : i = k
      · subst e
        refine ⟨?_, a3, a4⟩
        have hg := good_of_log a1
        obtain ⟨x, hx⟩ : ∃ x : Nat, b.getD i 0 = x := ⟨(b.getD i 0).toNat, by omega⟩
        rw [hx, cnt_eq hg] at a5
        have := (hg.get x).1
        have hlen := hg.len
        unfold fitAt
        rw [decide_eq_true_eq]
        unfold qOf at hlen a5
        refine ⟨by omega, ?_⟩
        rw [hx, Int.toNat_natCast]; omega
      · exact h2 i (by omega)
  obtain ⟨_, h2⟩ := key b.length (Nat.le_refl _)
  refine ⟨?_, fun x hx => ?_⟩
  · unfold fitsM
    rw [h, Bool.true_and, List.all_eq_true]
    exact fun i hi => (h2 i (List.mem_range.1 hi)).1
  · obtain ⟨i, hi, rfl⟩ := List.getElem_of_mem hx
    have := (h2 i hi).2
    rw [List.getD_eq_getElem?_getD, List.getElem?_eq_getElem hi] at this; exact this
theorem ctx_zero (b : List Int) (h : 0 < b.length) : ctxI b 0 = 0 := by unfold ctxI; rw [if_neg (by omega), if_pos rfl]
theorem encBits_encT (lg : Int) (one : Bool) (qs : List (List Int)) (b : List Int) : encBits lg one qs b = (encT one qs 0 0 b).2 ++ lowBits (encT one qs 0 0 b).1.2.toNat lg.toNat ++ lowBits (encT one qs 0 0 b).1.1.toNat lg.toNat := by
  have e := encN_encT one qs b b.length (Nat.le_refl _)
  rw [Nat.sub_self, List.drop_zero] at e
  have e2 : encT one qs (ctxI b ((0 : Nat) : Int)) 0 b = encT one qs 0 0 b := by
    cases b with
    | nil => rfl
    | cons c z => rw [show ctxI (c :: z) ((0 : Nat) : Int) = 0 from ctx_zero _ (by simp)]
  unfold encBits
  rw [e, e2]
/-- WHAT IS ENCODED IS DECODED -/
theorem dec_of_enc {lg : Int} {one : Bool} {qs : List (List Int)} {b : List Int} (h : canM lg one qs b = true) (hb : Bytes b) : decM lg one qs (packB (encBits lg one qs b ++ [true])) b.length = (0, b) := by
  unfold canM at h
  simp only [Bool.and_eq_true, decide_eq_true_eq] at h
  have hR := fits_right h.2
  have hF := fits_fitT h.2 hb b.length (Nat.le_refl _)
  rw [Nat.sub_self, List.drop_zero] at hF
  have hF0 : fitT lg one qs 0 b := by
    cases b with
    | nil => trivial
    | cons c z => rw [show ctxI (c :: z) ((0 : Nat) : Int) = 0 from ctx_zero _ (by simp)] at hF; exact hF
  obtain ⟨_, hc, hbi, hB⟩ := pack_closed (encBits lg one qs b)
  obtain ⟨ps, hps⟩ : ∃ ps, ps = packB (encBits lg one qs b ++ [true]) := ⟨_, rfl⟩
  rw [← hps] at hc hbi hB ⊢
  have hrg := encT_range b 0 0 hF0
  have hE := encBits_encT lg one qs b
  obtain ⟨r, hr⟩ : ∃ r, r = encT one qs 0 0 b := ⟨_, rfl⟩
  rw [← hr] at hE hrg
  have hlen : (encBits lg one qs b).length = r.2.length + lg.toNat + lg.toNat := by rw [hE]; simp only [List.length_append, lowBits_len]
  rw [hE] at hB
  have e2 : (2 : Int) ^ lg.toNat = ((2 ^ lg.toNat : Nat) : Int) := by simp
  rw [e2] at hrg
  obtain ⟨t0, l0⟩ := take_bits hB (by omega)
  have hB1 := bits_drop hB
  obtain ⟨t1, l1⟩ := take_bits hB1 (by omega)
  have hB2 := bits_drop hB1
  rw [← hE] at t0 t1 hB2 l0
  unfold decM
  rw [if_neg (by rw [hR]; simp; omega), if_neg hc, hbi, if_neg (by omega), t0, t1, Int.toNat_natCast]
  have := enc_dec b 0 0 _ [] hF0 (by rw [← hr]; exact hB2)
  rw [← hr] at this
  rw [Int.toNat_of_nonneg hrg.1.1, Int.toNat_of_nonneg hrg.2.1, this, List.nil_append]
/-- WHAT IS DECODED IS ENCODED -/
theorem enc_of_dec {lg : Int} {one : Bool} {qs : List (List Int)} {ps z : List Int} {n : Int} (hps : ∀ x ∈ ps, 0 ≤ x ∧ x < 256) (h : decM lg one qs ps n = (0, z)) : canM lg one qs z = true ∧ Bytes z ∧ (z.length : Int) = n ∧ ps = packB (encBits lg one qs z ++ [true]) := by
  unfold decM at h
  by_cases h1 : n < 0 ∨ 131072 < n ∨ rightM lg one qs = false
  · rw [if_pos h1] at h; exact absurd (Prod.mk.inj h).1 (by decide)
  · rw [if_neg h1] at h
    by_cases h2 : ps.length = 0 ∨ lastB ps = 0
    · rw [if_pos h2] at h; exact absurd (Prod.mk.inj h).1 (by decide)
    · rw [if_neg h2] at h
      by_cases h3 : bitsIn ps < lg.toNat + lg.toNat
      · rw [if_pos h3] at h; exact absurd (Prod.mk.inj h).1 (by decide)
      · rw [if_neg h3] at h
        have hR : rightM lg one qs = true := by
          cases hr : rightM lg one qs with
          | true => rfl
          | false => exact absurd (.inr (.inr hr)) h1
        have hB := bitsL_ok ps
        obtain ⟨e0, hB0⟩ := bits_split hB (n := lg.toNat) (by omega)
        obtain ⟨e1, hB1⟩ := bits_split hB0 (n := lg.toNat) (by omega)
        have e2 : (2 : Int) ^ lg.toNat = ((2 ^ lg.toNat : Nat) : Int) := by simp
        have v0 := takeV_lt ps (bitsIn ps) lg.toNat
        have v1 := takeV_lt ps (bitsIn ps - lg.toNat) lg.toNat
        obtain ⟨y, hy1, hy2, hy3, hy4⟩ := dec_enc hR n.toNat 0 0 _ _ _ [] z _ ⟨by omega, by rw [e2]; omega⟩ ⟨by omega, by rw [e2]; omega⟩ hB1 h
        rw [List.nil_append] at hy1
        subst hy1
        have hF0 : fitT lg one qs (ctxI z 0) z := by
          cases z with
          | nil => trivial
          | cons c y => rw [ctx_zero _ (by simp)]; exact hy3
        obtain ⟨hf1, hf2⟩ := fitT_fits hR hF0
        refine ⟨?_, hf2, by omega, ?_⟩
        · unfold canM; rw [hf1, Bool.and_true, decide_eq_true_eq]; omega
        · have hE := encBits_encT lg one qs z
          rw [hy4] at hE
          simp only [Int.toNat_natCast] at hE
          rw [← e1, ← e0] at hE
          rw [hE]
          exact (pack_back hps h2 hB).symm
end Go.Proofs.Ytfnobinenolhhaa
namespace Go.Proofs.Ytfnobinenolhhaa
open Go.RowKit Go.Proofs.Ytfnobinenolhhaa.PRef Go.Proofs.YtfnobinenolhhaaW.PrintWords Go.Proofs.YtfnobinenolhhaaW.PrintLast Go.Proofs.YtfnobinenolhhaaW.PrintMore
/-- the bytes of a context, among the first k -/
def pkL (b : List Int) (c : Int) (k : Nat) : List Int := ((List.range k).filter (fun j => decide (ctxI b (j : Nat) = c))).map (fun j => b.getD j 0)
def pickedL (b : List Int) (c : Int) : List Int := pkL b c b.length
theorem pkL_hit {b : List Int} {c : Int} {k : Nat} (h : ctxI b (k : Nat) = c) : pkL b c (k + 1) = pkL b c k ++ [b.getD k 0] := by
  unfold pkL; rw [List.range_succ, List.filter_append, List.map_append]; congr 1
  simp only [List.filter_cons, List.filter_nil, h, decide_true]; rfl
theorem pkL_miss {b : List Int} {c : Int} {k : Nat} (h : ctxI b (k : Nat) ≠ c) : pkL b c (k + 1) = pkL b c k := by
  unfold pkL; rw [List.range_succ, List.filter_append, List.map_append]
  simp only [List.filter_cons, List.filter_nil, h, decide_false]; simp
theorem pkL_len (b : List Int) (c : Int) (k : Nat) : (pkL b c k).length ≤ k := by
  unfold pkL; rw [List.length_map]; exact Nat.le_trans (List.length_filter_le _ _) (by simp)
theorem pkL_bytes {b : List Int} (hb : Bytes b) (c : Int) (k : Nat) : Bytes (pkL b c k) := by
  intro x hx
  unfold pkL at hx
  obtain ⟨j, _, rfl⟩ := List.mem_map.1 hx
  exact hb.get j
theorem histL_snoc (l : List Int) {y : Nat} (hy : y < 256) : histL (l ++ [(y : Int)]) = (histL l).set y ((l.count (y : Int) : Int) + 1) := by
  unfold histL
  rw [mapR_set _ hy]
  refine mapR_congr (fun u _ => ?_)
  rw [List.count_append, List.count_singleton]
  by_cases e : u = y
  · subst e; rw [if_pos rfl]; simp
  · rw [if_neg e]
    have : ¬ (y : Int) = (u : Int) := by omega
    simp [this]
theorem histL_get (l : List Int) {y : Nat} (hy : y < 256) : (histL l).getD y 0 = (l.count (y : Int) : Int) := by unfold histL; rw [mapR_get _ hy]
theorem refFor_loop (b : List Int) (hb : Bytes b) (hl : b.length ≤ 1000000) (c : Int) : ∀ (d i : Nat), i + d = b.length → Ev (fun k => puncheonref06_For.l0 k b c (histL (pkL b c i)) (i : Int)) (histL (pickedL b c)) := by
  intro d
  induction d with
  | zero =>
    intro i hi
    obtain rfl : i = b.length := by omega
    refine Ev.step (fun k => (show puncheonref06_For.l0 (k + 1) b c _ (b.length : Int) = _ by simp only [puncheonref06_For.l0]; rw [if_neg (by omega)])) ?_
    exact Ev.now _
  | succ d ih =>
    intro i hi
    have hlt : i < b.length := by omega
    have hg := hb.get i
    obtain ⟨y, hy⟩ : ∃ y : Nat, b.getD i 0 = y := ⟨(b.getD i 0).toNat, by omega⟩
    have hy2 : y < 256 := by omega
    refine Ev.step (fun k => (show puncheonref06_For.l0 (k + 1) b c _ (i : Int) = _ by simp only [puncheonref06_For.l0]; rw [if_pos (by omega), refAt_eq b hb hl, Option.bind_some])) ?_
    by_cases e : ctxI b (i : Nat) = c
    · have hc : (pkL b c i).count (y : Int) ≤ 1000000 := by
        have := List.count_le_length (a := (y : Int)) (l := pkL b c i); have := pkL_len b c i; omega
      refine Ev.congr (fun k => (show _ = _ by rw [if_pos e, if_pos (by omega), rd_nat, hy, if_pos (by omega), if_pos (by unfold histL; rw [mapR_len]; omega), rd_nat, histL_get _ hy2, w64 (n := ((pkL b c i).count (y : Int) : Int) + 1) (by omega), wS i (by omega), Int.toNat_natCast])) ?_
      have e2 : (histL (pkL b c i)).set y (((pkL b c i).count (y : Int) : Int) + 1) = histL (pkL b c (i + 1)) := by rw [pkL_hit e, hy, histL_snoc _ hy2]
      rw [e2]; exact ih (i + 1) (by omega)
    · refine Ev.congr (fun k => (show _ = _ by rw [if_neg e, wS i (by omega)])) ?_
      rw [← pkL_miss e]; exact ih (i + 1) (by omega)
theorem refFor_eq (b : List Int) (hb : Bytes b) (hl : b.length ≤ 1000000) (c : Int) : Ev (fun k => puncheonref06_For.f k b c) (histL (pickedL b c)) := by
  refine Ev.congr (fun k => (show puncheonref06_For.f k b c = _ by unfold puncheonref06_For.f; rw [if_pos (by decide)])) ?_
  have e : List.replicate 256 (0 : Int) = histL (pkL b c 0) := by
    unfold histL mapR
    rw [← List.length_range (n := 256), ← List.map_const', List.length_range]
    exact List.map_congr_left (fun u _ => by simp [pkL])
  rw [e]; exact refFor_loop b hb hl c b.length 0 (by omega)
/-- the most unlike bytes of a context -/
def widN (b : List Int) : Nat → Nat
  | 0 => 0
  | k + 1 => max (widN b k) (manyC (histL (pickedL b (k : Nat))))
theorem manyC_le (c : List Int) : manyC c ≤ 256 := by
  unfold manyC
  split
  · rename_i h
    have := List.countP_le_length (p := fun x => decide (0 < x)) (l := c); have := (rightC_iff.1 h).1; omega
  · omega
theorem widN_le (b : List Int) : ∀ k, widN b k ≤ 256
  | 0 => by simp [widN]
  | k + 1 => by
    have := widN_le b k; have := manyC_le (histL (pickedL b (k : Nat)))
    simp only [widN]; omega
theorem mx_nat (a b : Nat) : mx (a : Int) (b : Int) = ((max a b : Nat) : Int) := by unfold mx; split <;> omega
theorem refWidest_loop (b : List Int) (hb : Bytes b) (hl : b.length ≤ 1000000) : ∀ (d i : Nat), i + d = 256 → Ev (fun k => puncheonref06_Widest.l0 k b ((widN b i : Nat) : Int) (i : Int)) ((widN b 256 : Nat) : Int) := by
  intro d
  induction d with
  | zero =>
    intro i hi
    refine Ev.step (fun k => (show puncheonref06_Widest.l0 (k + 1) b _ (i : Int) = _ by simp only [puncheonref06_Widest.l0]; rw [if_neg (by omega)])) ?_
    rw [show i = 256 by omega]; exact Ev.now _
  | succ d ih =>
    intro i hi
    refine Ev.step (fun k => (show puncheonref06_Widest.l0 (k + 1) b _ (i : Int) = _ by simp only [puncheonref06_Widest.l0]; rw [if_pos (by omega)])) ?_
    refine Ev.bind (refFor_eq b hb hl i) ?_
    refine Ev.bind (refMany_eq _ (by unfold histL; rw [mapR_len]; omega)) ?_
    refine Ev.congr (fun k => (show _ = _ by rw [mx_nat, wS i (by omega)])) ?_
    exact ih (i + 1) (by omega)
theorem refWidest_eq (b : List Int) (hb : Bytes b) (hl : b.length ≤ 1000000) : Ev (fun k => puncheonref06_Widest.f k b) ((widN b 256 : Nat) : Int) := by
  unfold puncheonref06_Widest.f; exact refWidest_loop b hb hl 256 0 (by omega)
/-- the contexts that there are, among the first k -/
def presN (b : List Int) (k : Nat) : List Int := ((List.range k).filter (fun (c : Nat) => decide (0 < (pickedL b (c : Int)).length))).map (fun (c : Nat) => (c : Int))
theorem presN_succ (b : List Int) (k : Nat) : presN b (k + 1) = if 0 < (pickedL b (k : Int)).length then presN b k ++ [(k : Int)] else presN b k := by
  unfold presN; rw [List.range_succ, List.filter_append, List.map_append]
  by_cases h : 0 < (pickedL b (k : Int)).length
  · rw [if_pos h]; congr 1; simp only [List.filter_cons, List.filter_nil, h, decide_true]; rfl
  · rw [if_neg h]; simp only [List.filter_cons, List.filter_nil, h, decide_false]; simp
theorem presN_len (b : List Int) (k : Nat) : (presN b k).length ≤ k := by
  unfold presN; rw [List.length_map]; exact Nat.le_trans (List.length_filter_le _ _) (by simp)
theorem refPres_in (b : List Int) (hb : Bytes b) (hl : b.length ≤ 1000000) (c : Nat) (hc : c < 256) (R : List Int) (hn : Ev (fun k => puncheonref06_Present.l0 k b (presN b (c + 1)) ((c + 1 : Nat) : Int)) R) : ∀ (d i : Nat), i + d = b.length → Ev (fun k => puncheonref06_Present.l1 k b (presN b c) (c : Int) ((pkL b (c : Int) i).length : Int) (i : Int)) R := by
  intro d
  induction d with
  | zero =>
    intro i hi
    obtain rfl : i = b.length := by omega
    have hs := presN_succ b c
    have hpl := presN_len b c
    by_cases h : 0 < (pickedL b (c : Int)).length
    · refine Ev.step (fun k => (show puncheonref06_Present.l1 (k + 1) b (presN b c) (c : Int) _ (b.length : Int) = _ by simp only [puncheonref06_Present.l1]; rw [if_neg (by omega), if_pos (by unfold pickedL at h; omega), if_pos (by omega), wS c (by omega)])) ?_
      rw [if_pos h] at hs
      rw [← hs]; exact hn
    · refine Ev.step (fun k => (show puncheonref06_Present.l1 (k + 1) b (presN b c) (c : Int) _ (b.length : Int) = _ by simp only [puncheonref06_Present.l1]; rw [if_neg (by omega), if_neg (by unfold pickedL at h; omega), wS c (by omega)])) ?_
      rw [if_neg h] at hs
      rw [← hs]; exact hn
  | succ d ih =>
    intro i hi
    have hle := pkL_len b (c : Int) i
    refine Ev.step (fun k => (show puncheonref06_Present.l1 (k + 1) b (presN b c) (c : Int) _ (i : Int) = _ by simp only [puncheonref06_Present.l1]; rw [if_pos (by omega), refAt_eq b hb hl, Option.bind_some])) ?_
    by_cases e : ctxI b (i : Nat) = (c : Int)
    · refine Ev.congr (fun k => (show _ = _ by rw [if_pos e, wS i (by omega), wS _ (show (pkL b (c : Int) i).length ≤ 1000000000 by omega)])) ?_
      have := ih (i + 1) (by omega)
      rw [pkL_hit e, List.length_append, List.length_singleton] at this; exact this
    · refine Ev.congr (fun k => (show _ = _ by rw [if_neg e, wS i (by omega)])) ?_
      have := ih (i + 1) (by omega)
      rw [pkL_miss e] at this; exact this
theorem refPres_out (b : List Int) (hb : Bytes b) (hl : b.length ≤ 1000000) : ∀ (d c : Nat), c + d = 256 → Ev (fun k => puncheonref06_Present.l0 k b (presN b c) (c : Int)) (presN b 256) := by
  intro d
  induction d with
  | zero =>
    intro c hc
    refine Ev.step (fun k => (show puncheonref06_Present.l0 (k + 1) b _ (c : Int) = _ by simp only [puncheonref06_Present.l0]; rw [if_neg (by omega)])) ?_
    rw [show c = 256 by omega]; exact Ev.now _
  | succ d ih =>
    intro c hc
    refine Ev.step (fun k => (show puncheonref06_Present.l0 (k + 1) b _ (c : Int) = _ by simp only [puncheonref06_Present.l0]; rw [if_pos (by omega)])) ?_
    exact refPres_in b hb hl c (by omega) _ (ih (c + 1) (by omega)) b.length 0 (by omega)
theorem refPres_eq (b : List Int) (hb : Bytes b) (hl : b.length ≤ 1000000) : Ev (fun k => puncheonref06_Present.f k b) (presN b 256) := by
  unfold puncheonref06_Present.f; exact refPres_out b hb hl 256 0 (by omega)
theorem refFloor_loop (n : Nat) (hn : n < 2 ^ 40) : ∀ (d j : Nat), j + d = 41 → (j = 0 ∨ 2 ^ j ≤ n) → Ev (fun k => puncheonref07_Floor.l0 k (n : Int) (j : Int) ((2 ^ (j + 1) : Nat) : Int)) ((floorI n : Nat) : Int) := by
  intro d
  induction d with
  | zero =>
    intro j hj h
    have : 2 ^ 40 ≤ 2 ^ j := Nat.pow_le_pow_right (by omega) (by omega)
    exfalso; omega
  | succ d ih =>
    intro j hj h
    have hp : 2 ^ (j + 2) ≤ 2 ^ 43 := Nat.pow_le_pow_right (by omega) (by omega)
    have e : wrap64 (2 * ((2 ^ (j + 1) : Nat) : Int)) = ((2 ^ (j + 1 + 1) : Nat) : Int) := by
      have : 2 ^ (j + 2) = 2 * 2 ^ (j + 1) := Nat.pow_succ'
      rw [show j + 1 + 1 = j + 2 by omega, this]
      rw [this] at hp
      generalize 2 ^ (j + 1) = P at hp ⊢
      rw [w64 (by omega)]; omega
    by_cases hc : 2 ^ (j + 1) ≤ n
    · refine Ev.step (fun k => (show puncheonref07_Floor.l0 (k + 1) (n : Int) (j : Int) _ = _ by simp only [puncheonref07_Floor.l0]; rw [if_pos (Int.ofNat_le.2 hc), if_pos (by omega), wS j (by omega), e])) ?_
      exact ih (j + 1) (by omega) (.inr hc)
    · refine Ev.step (fun k => (show puncheonref07_Floor.l0 (k + 1) (n : Int) (j : Int) _ = _ by simp only [puncheonref07_Floor.l0]; rw [if_neg (fun h => hc (Int.ofNat_le.1 h))])) ?_
      have ef : floorI (n : Int) = j := by
        rcases Nat.eq_zero_or_pos n with h0 | h0
        · subst h0
          have : j = 0 := by
            rcases h with h | h
            · exact h
            · have := Nat.two_pow_pos j; omega
          rw [this]; rfl
        · have h1 : 2 ^ j ≤ n := by
            rcases h with h | h
            · rw [h, Nat.pow_zero]; exact h0
            · exact h
          unfold floorI widthI
          rw [Int.toNat_natCast, bitLen_of h1 (by omega) (by omega)]; omega
      rw [ef]; exact Ev.now _
theorem refFloor_eq (n : Nat) (hn : n < 2 ^ 40) : Ev (fun k => puncheonref07_Floor.f k (n : Int)) ((floorI n : Nat) : Int) := by
  unfold puncheonref07_Floor.f; exact refFloor_loop n hn 41 0 rfl (.inl rfl)
/-- a log, rounded up -/
def ceilI (n : Int) : Nat := widthI (n - 1)
theorem refCeil_loop (n : Nat) (hn : n < 2 ^ 40) : ∀ (d j : Nat), j + d = 41 → (j = 0 ∨ 2 ^ (j - 1) < n) → Ev (fun k => puncheonref07_Ceil.l0 k (n : Int) (j : Int) ((2 ^ j : Nat) : Int)) ((ceilI n : Nat) : Int) := by
  intro d
  induction d with
  | zero =>
    intro j hj h
    have : 2 ^ 40 ≤ 2 ^ (j - 1) := Nat.pow_le_pow_right (by omega) (by omega)
    exfalso; omega
  | succ d ih =>
    intro j hj h
    have hp : 2 ^ (j + 1) ≤ 2 ^ 43 := Nat.pow_le_pow_right (by omega) (by omega)
    have e : wrap64 (2 * ((2 ^ j : Nat) : Int)) = ((2 ^ (j + 1) : Nat) : Int) := by
      have : 2 ^ (j + 1) = 2 * 2 ^ j := Nat.pow_succ'
      rw [this]
      rw [this] at hp
      generalize 2 ^ j = P at hp ⊢
      rw [w64 (by omega)]; omega
    by_cases hc : 2 ^ j < n
    · refine Ev.step (fun k => (show puncheonref07_Ceil.l0 (k + 1) (n : Int) (j : Int) _ = _ by simp only [puncheonref07_Ceil.l0]; rw [if_pos (Int.ofNat_lt.2 hc), if_pos (by omega), wS j (by omega), e])) ?_
      exact ih (j + 1) (by omega) (.inr (by simpa using hc))
    · refine Ev.step (fun k => (show puncheonref07_Ceil.l0 (k + 1) (n : Int) (j : Int) _ = _ by simp only [puncheonref07_Ceil.l0]; rw [if_neg (fun h => hc (Int.ofNat_lt.1 h))])) ?_
      have ef : ceilI (n : Int) = j := by
        unfold ceilI widthI
        rcases h with h | h
        · subst h
          rw [show ((n : Int) - 1).toNat = 0 by simp at hc; omega]; rfl
        · obtain ⟨i, rfl⟩ : ∃ i, j = i + 1 := ⟨j - 1, by
            have : j ≠ 0 := by
              intro h0; subst h0; simp at hc h; omega
            omega⟩
          rw [show ((n : Int) - 1).toNat = n - 1 by omega]
          rw [Nat.add_sub_cancel] at h
          exact bitLen_of (by omega) (by omega) (by omega)
      rw [ef]; exact Ev.now _
theorem refCeil_eq (n : Nat) (hn : n < 2 ^ 40) : Ev (fun k => puncheonref07_Ceil.f k (n : Int)) ((ceilI n : Nat) : Int) := by
  unfold puncheonref07_Ceil.f; exact refCeil_loop n hn 41 0 rfl (.inl rfl)
/-- a table's log -/
def pickI (n m : Nat) (most : Int) : Int := mx (mx (mn ((floorI n : Int) - 2) most) 5) (ceilI m)
theorem floorI_le (n : Nat) (h : n < 2 ^ 40) : floorI (n : Int) ≤ 40 := by
  rcases Nat.eq_zero_or_pos n with h0 | h0
  · subst h0; decide
  · have := (floor_pow n h0 (by omega)).1
    have a : ¬ 41 ≤ floorI (n : Int) := fun e => by
      have := Nat.pow_le_pow_right (n := 2) (by omega) e; omega
    omega
theorem refPick_eq (n m : Nat) (most : Int) (hn : n < 2 ^ 40) (hm : m < 2 ^ 40) : Ev (fun k => puncheonref07_Pick.f k (n : Int) (m : Int) most) (pickI n m most) := by
  unfold puncheonref07_Pick.f
  refine Ev.bind (refFloor_eq n hn) (Ev.bind (refCeil_eq m hm) ?_)
  have := floorI_le n hn
  refine Ev.congr (fun k => (show _ = _ by rw [w64 (n := (floorI (n : Int) : Int) - 2) (by omega)]; exact rfl)) (Ev.now _)
end Go.Proofs.Ytfnobinenolhhaa
namespace Go.Proofs.Ytfnobinenolhhaa
open Go.RowKit Go.Proofs.Ytfnobinenolhhaa.PRef Go.Proofs.YtfnobinenolhhaaW.PrintWords Go.Proofs.YtfnobinenolhhaaW.PrintLast Go.Proofs.YtfnobinenolhhaaW.PrintMore
/-- who has one more next, among the first -/
def needN (rest : List Int) (had : List Bool) : Nat → Int
  | 0 => -1
  | k + 1 => if had.getD k false = true then needN rest had k else if needN rest had k < 0 then (k : Int) else if rest.getD k 0 > rest.getD (needN rest had k).toNat 0 then (k : Int) else needN rest had k
theorem needN_lt (rest : List Int) (had : List Bool) : ∀ k, -1 ≤ needN rest had k ∧ needN rest had k < k ∧ (0 ≤ needN rest had k → had.getD (needN rest had k).toNat false = false)
  | 0 => by simp [needN]
  | k + 1 => by
    obtain ⟨h1, h2, h3⟩ := needN_lt rest had k
    simp only [needN]
    cases hk : had.getD k false with
    | true => rw [if_pos rfl]; exact ⟨h1, by omega, h3⟩
    | false =>
      rw [if_neg (by decide)]
      split
      · exact ⟨by omega, by omega, fun _ => by rw [Int.toNat_natCast]; exact hk⟩
      · split
        · exact ⟨by omega, by omega, fun _ => by rw [Int.toNat_natCast]; exact hk⟩
        · exact ⟨h1, by omega, h3⟩
theorem needN_some (rest : List Int) (had : List Bool) {s : Nat} (hs : had.getD s false = false) : ∀ k, s < k → 0 ≤ needN rest had k
  | 0, h => by omega
  | k + 1, h => by
    simp only [needN]
    by_cases e : s = k
    · subst e
      rw [hs, if_neg (by decide)]
      split
      · omega
      · split <;> omega
    · have ih := needN_some rest had hs k (by omega)
      split
      · exact ih
      · rw [if_neg (by omega)]
        split <;> omega
theorem refNeed_loop (rest : List Int) (had : List Bool) (hr : rest.length = 256) (hh : had.length = 256) : ∀ (d i : Nat), i + d = 256 → Ev (fun k => puncheonref08_neediest.l0 k rest had (needN rest had i) (i : Int)) (needN rest had 256) := by
  intro d
  induction d with
  | zero =>
    intro i hi
    refine Ev.step (fun k => (show puncheonref08_neediest.l0 (k + 1) rest had _ (i : Int) = _ by simp only [puncheonref08_neediest.l0]; rw [if_neg (by omega)])) ?_
    rw [show i = 256 by omega]; exact Ev.now _
  | succ d ih =>
    intro i hi
    have hn := needN_lt rest had i
    have hrd : rdOf false had (i : Int) = had.getD i false := rfl
    have hs : needN rest had (i + 1) = if had.getD i false = true then needN rest had i else if needN rest had i < 0 then (i : Int) else if rest.getD i 0 > rest.getD (needN rest had i).toNat 0 then (i : Int) else needN rest had i := rfl
    by_cases e1 : had.getD i false = true
    · refine Ev.step (fun k => (show puncheonref08_neediest.l0 (k + 1) rest had _ (i : Int) = _ by simp only [puncheonref08_neediest.l0]; rw [if_pos (by omega), if_pos (by omega), if_pos (by omega), hrd, if_pos e1, wS i (by omega)])) ?_
      rw [if_pos e1] at hs; rw [← hs]; exact ih (i + 1) (by omega)
    · rw [if_neg e1] at hs
      by_cases e2 : needN rest had i < 0
      · refine Ev.step (fun k => (show puncheonref08_neediest.l0 (k + 1) rest had _ (i : Int) = _ by simp only [puncheonref08_neediest.l0]; rw [if_pos (by omega), if_pos (by omega), if_pos (by omega), hrd, if_neg e1, if_pos e2, wS i (by omega)])) ?_
        rw [if_pos e2] at hs
        have := ih (i + 1) (by omega); rw [hs] at this; exact this
      · rw [if_neg e2] at hs
        have hrd2 : rd rest (needN rest had i) = rest.getD (needN rest had i).toNat 0 := rfl
        by_cases e3 : rest.getD i 0 > rest.getD (needN rest had i).toNat 0
        · refine Ev.step (fun k => (show puncheonref08_neediest.l0 (k + 1) rest had _ (i : Int) = _ by simp only [puncheonref08_neediest.l0]; rw [if_pos (by omega), if_pos (by omega), if_pos (by omega), hrd, if_neg e1, if_neg e2, if_pos (by omega), if_pos (by omega), if_pos (by omega), rd_nat, hrd2, if_pos e3, wS i (by omega)])) ?_
          rw [if_pos e3] at hs
          have := ih (i + 1) (by omega); rw [hs] at this; exact this
        · refine Ev.step (fun k => (show puncheonref08_neediest.l0 (k + 1) rest had _ (i : Int) = _ by simp only [puncheonref08_neediest.l0]; rw [if_pos (by omega), if_pos (by omega), if_pos (by omega), hrd, if_neg e1, if_neg e2, if_pos (by omega), if_pos (by omega), if_pos (by omega), rd_nat, hrd2, if_neg e3, wS i (by omega)])) ?_
          rw [if_neg e3] at hs; rw [← hs]; exact ih (i + 1) (by omega)
theorem refNeed_eq (rest : List Int) (had : List Bool) (hr : rest.length = 256) (hh : had.length = 256) : Ev (fun k => puncheonref08_neediest.f k rest had) (needN rest had 256) := by
  unfold puncheonref08_neediest.f; exact refNeed_loop rest had hr hh 256 0 (by omega)
/-- who has one less next, among the first -/
def richN (q c : List Int) : Nat → Nat
  | 0 => 0
  | k + 1 => if q.getD k 0 > q.getD (richN q c k) 0 ∨ q.getD k 0 = q.getD (richN q c k) 0 ∧ c.getD k 0 ≤ c.getD (richN q c k) 0 then k else richN q c k
theorem richN_lt (q c : List Int) : ∀ k, richN q c k ≤ k - 1
  | 0 => by simp [richN]
  | k + 1 => by
    have := richN_lt q c k
    simp only [richN]; split <;> omega
theorem richN_max (q c : List Int) : ∀ k, ∀ s, s < k → q.getD s 0 ≤ q.getD (richN q c k) 0
  | 0, s, h => by omega
  | k + 1, s, h => by
    have ih := richN_max q c k
    simp only [richN]
    split
    · rename_i hc
      by_cases e : s = k
      · subst e; exact Int.le_refl _
      · have := ih s (by omega); omega
    · rename_i hc
      by_cases e : s = k
      · subst e; omega
      · exact ih s (by omega)
theorem richN_one (q c : List Int) : richN q c 1 = 0 := by simp only [richN]; split <;> rfl
theorem refRich_loop (q c : List Int) (hq : q.length = 256) (hc : c.length = 256) : ∀ (d i : Nat), i + d = 256 → 1 ≤ i → Ev (fun k => puncheonref08_richest.l0 k q c ((richN q c i : Nat) : Int) (i : Int)) ((richN q c 256 : Nat) : Int) := by
  intro d
  induction d with
  | zero =>
    intro i hi _
    refine Ev.step (fun k => (show puncheonref08_richest.l0 (k + 1) q c _ (i : Int) = _ by simp only [puncheonref08_richest.l0]; rw [if_neg (by omega)])) ?_
    rw [show i = 256 by omega]; exact Ev.now _
  | succ d ih =>
    intro i hi h1
    have hlt := richN_lt q c i
    have hs : richN q c (i + 1) = if q.getD i 0 > q.getD (richN q c i) 0 ∨ q.getD i 0 = q.getD (richN q c i) 0 ∧ c.getD i 0 ≤ c.getD (richN q c i) 0 then i else richN q c i := rfl
    by_cases e1 : q.getD i 0 > q.getD (richN q c i) 0
    · refine Ev.step (fun k => (show puncheonref08_richest.l0 (k + 1) q c _ (i : Int) = _ by simp only [puncheonref08_richest.l0]; rw [if_pos (by omega), if_pos (by omega), if_pos (by omega), if_pos (by omega), if_pos (by omega), rd_nat, rd_nat, if_pos e1, wS i (by omega)])) ?_
      rw [if_pos (.inl e1)] at hs
      have := ih (i + 1) (by omega) (by omega); rw [hs] at this; exact this
    · by_cases e2 : q.getD i 0 = q.getD (richN q c i) 0
      · by_cases e3 : c.getD i 0 ≤ c.getD (richN q c i) 0
        · refine Ev.step (fun k => (show puncheonref08_richest.l0 (k + 1) q c _ (i : Int) = _ by simp only [puncheonref08_richest.l0]; rw [if_pos (by omega), if_pos (by omega), if_pos (by omega), if_pos (by omega), if_pos (by omega), rd_nat, rd_nat, if_neg e1, if_pos e2, if_pos (by omega), if_pos (by omega), rd_nat, rd_nat, if_pos e3, wS i (by omega)])) ?_
          rw [if_pos (.inr ⟨e2, e3⟩)] at hs
          have := ih (i + 1) (by omega) (by omega); rw [hs] at this; exact this
        · refine Ev.step (fun k => (show puncheonref08_richest.l0 (k + 1) q c _ (i : Int) = _ by simp only [puncheonref08_richest.l0]; rw [if_pos (by omega), if_pos (by omega), if_pos (by omega), if_pos (by omega), if_pos (by omega), rd_nat, rd_nat, if_neg e1, if_pos e2, if_pos (by omega), if_pos (by omega), rd_nat, rd_nat, if_neg e3, wS i (by omega)])) ?_
          rw [if_neg (by omega)] at hs
          have := ih (i + 1) (by omega) (by omega); rw [hs] at this; exact this
      · refine Ev.step (fun k => (show puncheonref08_richest.l0 (k + 1) q c _ (i : Int) = _ by simp only [puncheonref08_richest.l0]; rw [if_pos (by omega), if_pos (by omega), if_pos (by omega), if_pos (by omega), if_pos (by omega), rd_nat, rd_nat, if_neg e1, if_neg e2, wS i (by omega)])) ?_
        rw [if_neg (by omega)] at hs
        have := ih (i + 1) (by omega) (by omega); rw [hs] at this; exact this
theorem refRich_eq (q c : List Int) (hq : q.length = 256) (hc : c.length = 256) : Ev (fun k => puncheonref08_richest.f k q c) ((richN q c 256 : Nat) : Int) := by
  unfold puncheonref08_richest.f
  have := refRich_loop q c hq hc 255 1 rfl (by omega)
  rw [richN_one] at this; exact this
theorem refSum_loop (q : List Int) (hq : ∀ x ∈ q, 0 ≤ x ∧ x ≤ 1000000000) (hl : q.length ≤ 1000000) : ∀ (d i : Nat) (s : Int), i + d = q.length → s = (q.take i).sum → 0 ≤ s ∧ s ≤ i * 1000000000 → Ev (fun k => puncheonref08_sum.l0 k q s (i : Int)) q.sum := by
  intro d
  induction d with
  | zero =>
    intro i s hi hs _
    refine Ev.step (fun k => (show puncheonref08_sum.l0 (k + 1) q s (i : Int) = _ by simp only [puncheonref08_sum.l0]; rw [if_neg (by omega)])) ?_
    rw [List.take_of_length_le (by omega)] at hs
    rw [← hs]; exact Ev.now _
  | succ d ih =>
    intro i s hi hs hb
    have hlt : i < q.length := by omega
    have hx := hq _ (getD_mem hlt)
    have hts := take_sum hlt
    refine Ev.step (fun k => (show puncheonref08_sum.l0 (k + 1) q s (i : Int) = _ by simp only [puncheonref08_sum.l0]; rw [if_pos (by omega), if_pos (by omega), rd_nat, wS i (by omega), w64 (n := s + q.getD i 0) (by omega)])) ?_
    exact ih (i + 1) _ (by omega) (by rw [hts, hs]) (by omega)
theorem refSum_eq (q : List Int) (hq : ∀ x ∈ q, 0 ≤ x ∧ x ≤ 1000000000) (hl : q.length ≤ 1000000) : Ev (fun k => puncheonref08_sum.f k q) q.sum := by
  unfold puncheonref08_sum.f; exact refSum_loop q hq hl q.length 0 0 (by omega) (by simp) (by omega)
end Go.Proofs.Ytfnobinenolhhaa
namespace Go.Proofs.Ytfnobinenolhhaa
open Go.RowKit
theorem sum_set (q : List Int) (s : Nat) (y : Int) (h : s < q.length) : (q.set s y).sum = q.sum - q.getD s 0 + y := by
  induction q generalizing s with
  | nil => simp at h
  | cons a q ih =>
    cases s with
    | zero => simp; omega
    | succ s =>
      have := ih s (by simpa using h)
      simp only [List.set_cons_succ, List.sum_cons, List.getD_cons_succ, this]; omega
theorem getD_set (q : List Int) (s t : Nat) (y : Int) (h : s < q.length) : (q.set s y).getD t 0 = if t = s then y else q.getD t 0 := by
  rw [List.getD_eq_getElem?_getD, List.getElem?_set]
  by_cases e : s = t
  · subst e; rw [if_pos rfl, if_pos h, if_pos rfl]; rfl
  · rw [if_neg e, if_neg (fun x => e x.symm), List.getD_eq_getElem?_getD]
/-- the first of the counts, what is left, and who has had enough -/
def q0F (c : List Int) (P n : Int) (s : Nat) : Int := if c.getD s 0 * P / n = 0 then min (c.getD s 0) 1 else c.getD s 0 * P / n
def q0L (c : List Int) (P n : Int) : List Int := mapR (q0F c P n)
def restL (c : List Int) (P n : Int) : List Int := mapR (fun s => c.getD s 0 * P % n)
def hadL (c : List Int) (P n : Int) : List Bool := (List.range 256).map (fun s => decide (c.getD s 0 * P / n = 0))
def giveIt (rest : List Int) : Nat → List Int × List Bool → List Int × List Bool
  | 0, st => st
  | m + 1, st => let r := giveIt rest m st; (r.1.set (needN rest r.2 256).toNat (r.1.getD (needN rest r.2 256).toNat 0 + 1), r.2.set (needN rest r.2 256).toNat true)
def takeIt (c : List Int) : Nat → List Int → List Int
  | 0, q => q
  | m + 1, q => let r := takeIt c m q; r.set (richN r c 256) (r.getD (richN r c 256) 0 - 1)
def giveM (c : List Int) (P n : Int) : Nat := (P - (q0L c P n).sum).toNat
def normL (c : List Int) (r : Nat) : List Int :=
  let P : Int := 2 ^ r
  let n := c.sum
  let g := (giveIt (restL c P n) (giveM c P n) (q0L c P n, hadL c P n)).1
  takeIt c (g.sum - P).toNat g
theorem mapR_sum_le {f g : Nat → Int} (h : ∀ s, s < 256 → f s ≤ g s) : (mapR f).sum ≤ (mapR g).sum := by
  unfold mapR
  have key : ∀ l : List Nat, (∀ s ∈ l, f s ≤ g s) → (l.map f).sum ≤ (l.map g).sum := by
    intro l
    induction l with
    | nil => intro _; simp
    | cons a l ih =>
      intro hl
      have := ih (fun s hs => hl s (by simp [hs])); have := hl a (by simp)
      simp only [List.map_cons, List.sum_cons]; omega
  exact key _ (fun s hs => h s (List.mem_range.1 hs))
theorem mapR_self {c : List Int} (h : c.length = 256) : mapR (fun s => c.getD s 0) = c := by
  apply List.ext_getElem
  · rw [mapR_len, h]
  · intro i h1 h2; simp [mapR, List.getElem?_eq_getElem h2]
theorem mapR_sum_mul (f : Nat → Int) (k : Int) : (mapR (fun s => f s * k)).sum = (mapR f).sum * k := by
  unfold mapR
  induction List.range 256 with
  | nil => simp
  | cons a l ih => simp only [List.map_cons, List.sum_cons, ih, Int.add_mul]
theorem mapR_sum_add (f g : Nat → Int) : (mapR (fun s => f s + g s)).sum = (mapR f).sum + (mapR g).sum := by
  unfold mapR
  induction List.range 256 with
  | nil => simp
  | cons a l ih => simp only [List.map_cons, List.sum_cons, ih]; omega
/-- how many haven't had enough -/
def freeN (had : List Bool) : Nat := had.countP (fun b => !b)
theorem free_sum (c : List Int) (P n : Int) : ((freeN (hadL c P n) : Nat) : Int) = (mapR (fun s => if c.getD s 0 * P / n = 0 then 0 else 1)).sum := by
  unfold freeN hadL mapR
  induction List.range 256 with
  | nil => simp
  | cons a l ih =>
    have e1 : ((if (!decide (c.getD a 0 * P / n = 0)) = true then 1 else 0 : Nat) : Int) = if c.getD a 0 * P / n = 0 then 0 else 1 := by
      by_cases e : c.getD a 0 * P / n = 0
      · rw [if_pos e, decide_eq_true e]; rfl
      · rw [if_neg e, decide_eq_false e]; rfl
    rw [List.map_cons, List.map_cons, List.countP_cons, List.sum_cons, Int.natCast_add, ih, e1]; omega
/-- counts that can be normalized -/
structure Can (c : List Int) (r : Nat) : Prop where
  len : c.length = 256
  nonneg : ∀ x ∈ c, 0 ≤ x
  pos : 0 < c.sum
  le : c.sum ≤ 1073741824
  r1 : 1 ≤ r
  r12 : r ≤ 12
  many : c.countP (fun x => decide (0 < x)) ≤ 2 ^ r
theorem Can.get {c : List Int} {r : Nat} (h : Can c r) (s : Nat) : 0 ≤ c.getD s 0 ∧ c.getD s 0 ≤ c.sum := by
  by_cases hs : s < c.length
  · exact ⟨h.nonneg _ (getD_mem hs), le_sum h.nonneg (getD_mem hs)⟩
  · rw [List.getD_eq_getElem?_getD, List.getElem?_eq_none (by omega)]; have := h.pos; simp; omega
theorem Can.q0 {c : List Int} {r : Nat} (h : Can c r) (s : Nat) : 0 ≤ q0F c (2 ^ r) c.sum s ∧ q0F c (2 ^ r) c.sum s ≤ 4096 ∧ (0 < q0F c (2 ^ r) c.sum s ↔ 0 < c.getD s 0) ∧ c.getD s 0 * 2 ^ r ≤ (q0F c (2 ^ r) c.sum s + (if c.getD s 0 * 2 ^ r / c.sum = 0 then 0 else 1)) * c.sum := by
  have hg := h.get s
  have hp := h.pos
  have h2 := pow_le12 h.r12
  have hm0 : 0 ≤ c.getD s 0 * 2 ^ r := Int.mul_nonneg hg.1 (by omega)
  have hd0 : 0 ≤ c.getD s 0 * 2 ^ r / c.sum := Int.ediv_nonneg hm0 (by omega)
  have hdm := Int.mul_ediv_add_emod (c.getD s 0 * 2 ^ r) c.sum
  have hml := Int.emod_lt_of_pos (c.getD s 0 * 2 ^ r) hp
  have hmn := Int.emod_nonneg (c.getD s 0 * 2 ^ r) (b := c.sum) (by omega)
  have hle : c.getD s 0 * 2 ^ r / c.sum ≤ 2 ^ r := by
    refine Int.ediv_le_of_le_mul hp ?_
    rw [Int.mul_comm]; exact Int.mul_le_mul_of_nonneg_left hg.2 (by omega)
  unfold q0F
  by_cases e : c.getD s 0 * 2 ^ r / c.sum = 0
  · rw [if_pos e, if_pos e]
    rw [e, Int.mul_zero, Int.zero_add] at hdm
    refine ⟨by omega, by omega, by omega, ?_⟩
    by_cases e2 : c.getD s 0 = 0
    · rw [e2, show min (0 : Int) 1 = 0 by decide]; simp
    · rw [show min (c.getD s 0) 1 = 1 by omega]; omega
  · rw [if_neg e, if_neg e]
    refine ⟨hd0, by omega, ⟨fun _ => ?_, fun _ => by omega⟩, ?_⟩
    · by_cases e2 : c.getD s 0 = 0
      · rw [e2] at e; simp at e
      · omega
    · rw [Int.add_mul, Int.one_mul, Int.mul_comm (c.getD s 0 * 2 ^ r / c.sum)]; omega
/-- enough haven't had enough -/
theorem Can.enough {c : List Int} {r : Nat} (h : Can c r) : (2 : Int) ^ r ≤ (q0L c (2 ^ r) c.sum).sum + freeN (hadL c (2 ^ r) c.sum) := by
  have h1 : (mapR (fun s => c.getD s 0 * 2 ^ r)).sum ≤ (mapR (fun s => (q0F c (2 ^ r) c.sum s + (if c.getD s 0 * 2 ^ r / c.sum = 0 then 0 else 1)) * c.sum)).sum := mapR_sum_le (fun s _ => (h.q0 s).2.2.2)
  rw [mapR_sum_mul, mapR_sum_mul, mapR_sum_add, mapR_self h.len, ← free_sum, Int.mul_comm c.sum] at h1
  exact Int.le_of_mul_le_mul_right h1 h.pos
theorem free_exists {had : List Bool} (hl : had.length = 256) (h : 0 < freeN had) : ∃ s, s < 256 ∧ had.getD s false = false := by
  unfold freeN at h
  obtain ⟨b, hb, hbf⟩ := List.countP_pos_iff.1 h
  obtain ⟨s, hs, rfl⟩ := List.getElem_of_mem hb
  refine ⟨s, by omega, ?_⟩
  rw [List.getD_eq_getElem?_getD, List.getElem?_eq_getElem hs]; simpa using hbf
theorem free_set {had : List Bool} {s : Nat} (hs : s < had.length) (h : had.getD s false = false) : freeN (had.set s true) + 1 = freeN had := by
  unfold freeN
  induction had generalizing s with
  | nil => simp at hs
  | cons a l ih =>
    cases s with
    | zero => simp at h; subst h; simp
    | succ s =>
      have := ih (s := s) (by simpa using hs) (by simpa using h)
      simp only [List.set_cons_succ, List.countP_cons]; omega
/-- counts on the way -/
structure Way (c q : List Int) : Prop where
  len : q.length = 256
  rng : ∀ s, 0 ≤ q.getD s 0 ∧ q.getD s 0 ≤ 100000
  iff : ∀ s, 0 < q.getD s 0 ↔ 0 < c.getD s 0
theorem give_way {c : List Int} {r : Nat} (h : Can c r) : ∀ m, m ≤ giveM c (2 ^ r) c.sum →
    let st := giveIt (restL c (2 ^ r) c.sum) m (q0L c (2 ^ r) c.sum, hadL c (2 ^ r) c.sum)
    st.1.length = 256 ∧ st.2.length = 256 ∧ (∀ s, 0 ≤ st.1.getD s 0 ∧ st.1.getD s 0 ≤ 4096 + m) ∧ (∀ s, 0 < st.1.getD s 0 ↔ 0 < c.getD s 0) ∧ st.1.sum = (q0L c (2 ^ r) c.sum).sum + m ∧ freeN st.2 + m = freeN (hadL c (2 ^ r) c.sum) ∧
      (∀ s, s < 256 → st.2.getD s false = false → 0 < c.getD s 0)
  | 0, _ => by
    have hlen : (q0L c (2 ^ r) c.sum).length = 256 := mapR_len _
    refine ⟨hlen, by simp [giveIt, hadL], fun s => ?_, fun s => ?_, by simp [giveIt], rfl, fun s hs hf => ?_⟩
    · show 0 ≤ (q0L c (2 ^ r) c.sum).getD s 0 ∧ (q0L c (2 ^ r) c.sum).getD s 0 ≤ 4096 + ((0 : Nat) : Int)
      by_cases hs : s < 256
      · unfold q0L; rw [mapR_get _ hs]; have := h.q0 s; exact ⟨this.1, by have := this.2.1; omega⟩
      · rw [List.getD_eq_getElem?_getD, List.getElem?_eq_none (by omega)]; simp
    · show 0 < (q0L c (2 ^ r) c.sum).getD s 0 ↔ _
      by_cases hs : s < 256
      · unfold q0L; rw [mapR_get _ hs]; exact (h.q0 s).2.2.1
      · rw [List.getD_eq_getElem?_getD, List.getElem?_eq_none (by omega), List.getD_eq_getElem?_getD, List.getElem?_eq_none (by have := h.len; omega)]
    · have hf2 : (hadL c (2 ^ r) c.sum).getD s false = false := hf
      unfold hadL at hf2
      rw [List.getD_eq_getElem?_getD, List.getElem?_map, List.getElem?_range hs] at hf2
      simp only [Option.map_some, Option.getD_some, decide_eq_false_iff_not] at hf2
      have := (h.get s).1
      by_cases e2 : c.getD s 0 = 0
      · rw [e2] at hf2; simp at hf2
      · omega
  | m + 1, hm => by
    obtain ⟨h1, h2, h3, h4, h5, h6, h7⟩ := give_way h m (by omega)
    have hen := h.enough
    obtain ⟨st, hst⟩ : ∃ st, st = giveIt (restL c (2 ^ r) c.sum) m (q0L c (2 ^ r) c.sum, hadL c (2 ^ r) c.sum) := ⟨_, rfl⟩
    simp only [giveIt]
    rw [← hst] at h1 h2 h3 h4 h5 h6 h7 ⊢
    have hM : (m : Int) + 1 ≤ 2 ^ r - (q0L c (2 ^ r) c.sum).sum := by unfold giveM at hm; omega
    obtain ⟨s0, hs0, hf0⟩ := free_exists h2 (by omega)
    have hn0 := needN_some (restL c (2 ^ r) c.sum) st.2 hf0 256 hs0
    have hnl := needN_lt (restL c (2 ^ r) c.sum) st.2 256
    obtain ⟨t, ht⟩ : ∃ t : Nat, needN (restL c (2 ^ r) c.sum) st.2 256 = t := ⟨_, (Int.toNat_of_nonneg hn0).symm⟩
    rw [ht] at hnl ⊢
    have htf := hnl.2.2 (by omega)
    rw [Int.toNat_natCast] at htf ⊢
    have ht256 : t < 256 := by omega
    have hct := h7 t ht256 htf
    have hg := h3 t
    refine ⟨by rw [List.length_set]; exact h1, by rw [List.length_set]; exact h2, fun s => ?_, fun s => ?_, ?_, ?_, fun s hs hf => ?_⟩
    · rw [getD_set _ _ _ _ (by omega)]
      have := h3 s
      split <;> omega
    · rw [getD_set _ _ _ _ (by omega)]
      by_cases e : s = t
      · subst e; rw [if_pos rfl]; exact ⟨fun _ => hct, fun _ => by omega⟩
      · rw [if_neg e]; exact h4 s
    · rw [sum_set _ _ _ (by omega), h5]; omega
    · have := free_set (had := st.2) (s := t) (by omega) htf; omega
    · refine h7 s hs ?_
      by_cases e : s = t
      · subst e; exact htf
      · rw [List.getD_eq_getElem?_getD, List.getElem?_set_ne (fun x => e x.symm), ← List.getD_eq_getElem?_getD] at hf; exact hf
theorem sum_le_pos {q : List Int} (h : ∀ x ∈ q, 0 ≤ x ∧ x ≤ 1) : q.sum ≤ (q.countP (fun x => decide (0 < x)) : Nat) := by
  induction q with
  | nil => simp
  | cons a l ih =>
    have := ih (fun x hx => h x (by simp [hx]))
    have ha := h a (by simp)
    rw [List.sum_cons, List.countP_cons]
    by_cases e : 0 < a
    · simp [e]; omega
    · simp [e]; omega
theorem pos_same {c q : List Int} (hc : c.length = 256) (hq : q.length = 256) (h : ∀ s, 0 < q.getD s 0 ↔ 0 < c.getD s 0) : q.countP (fun x => decide (0 < x)) = c.countP (fun x => decide (0 < x)) := by
  have e : ∀ l : List Int, l.length = 256 → l.countP (fun x => decide (0 < x)) = (List.range 256).countP (fun s => decide (0 < l.getD s 0)) := by
    intro l hl
    have := mapR_self hl
    conv => lhs; rw [← this]
    unfold mapR
    rw [List.countP_map]; rfl
  rw [e q hq, e c hc]
  exact List.countP_congr (fun s _ => by simp only [decide_eq_true_eq]; exact h s)
theorem take_way {c : List Int} {r : Nat} (h : Can c r) {q : List Int} (hq : Way c q) : ∀ m, m ≤ (q.sum - 2 ^ r).toNat →
    Way c (takeIt c m q) ∧ (takeIt c m q).sum = q.sum - m
  | 0, _ => ⟨hq, by simp [takeIt]⟩
  | m + 1, hm => by
    obtain ⟨h1, h2⟩ := take_way h hq m (by omega)
    simp only [takeIt]
    obtain ⟨t, ht⟩ : ∃ t, t = takeIt c m q := ⟨_, rfl⟩
    rw [← ht] at h1 h2 ⊢
    obtain ⟨b, hb⟩ : ∃ b, b = richN t c 256 := ⟨_, rfl⟩
    have hbl := richN_lt t c 256
    have hmax := richN_max t c 256
    rw [← hb] at hbl hmax ⊢
    have hlen := h1.len
    have hbig : 2 ≤ t.getD b 0 := by
      by_cases e : 2 ≤ t.getD b 0
      · exact e
      · exfalso
        have hle : t.sum ≤ (t.countP (fun x => decide (0 < x)) : Nat) := sum_le_pos (fun x hx => by
          obtain ⟨s, hs, rfl⟩ := List.getElem_of_mem hx
          have a := hmax s (by omega); have a2 := h1.rng s
          rw [List.getD_eq_getElem?_getD, List.getElem?_eq_getElem hs, Option.getD_some] at a a2
          omega)
        rw [pos_same h.len hlen h1.iff] at hle
        have hmny := h.many
        have e2 : (2 : Int) ^ r = ((2 ^ r : Nat) : Int) := by simp
        have hmI : (m : Int) + 1 ≤ q.sum - 2 ^ r := by omega
        rw [e2] at hmI; omega
    have hrb := h1.rng b
    have hib := h1.iff b
    refine ⟨⟨by rw [List.length_set]; exact hlen, fun s => ?_, fun s => ?_⟩, ?_⟩
    · rw [getD_set _ _ _ _ (by omega)]
      have := h1.rng s
      split <;> omega
    · rw [getD_set _ _ _ _ (by omega)]
      by_cases e : s = b
      · subst e; rw [if_pos rfl]; exact ⟨fun _ => hib.1 (by omega), fun _ => by omega⟩
      · rw [if_neg e]; exact h1.iff s
    · rw [sum_set _ _ _ (by omega), h2]; omega
theorem give_end {c : List Int} {r : Nat} (h : Can c r) : Way c (giveIt (restL c (2 ^ r) c.sum) (giveM c (2 ^ r) c.sum) (q0L c (2 ^ r) c.sum, hadL c (2 ^ r) c.sum)).1 ∧ 2 ^ r ≤ (giveIt (restL c (2 ^ r) c.sum) (giveM c (2 ^ r) c.sum) (q0L c (2 ^ r) c.sum, hadL c (2 ^ r) c.sum)).1.sum := by
  obtain ⟨h1, h2, h3, h4, h5, h6, h7⟩ := give_way h _ (Nat.le_refl _)
  have h0 : 0 ≤ (q0L c (2 ^ r) c.sum).sum := sum_nonneg (fun x hx => by
    obtain ⟨v, hv, rfl⟩ := mapR_mem hx; exact (h.q0 v).1)
  have hp := pow_le12 h.r12
  have hM : giveM c (2 ^ r) c.sum ≤ 4096 := by unfold giveM; omega
  refine ⟨⟨h1, fun s => ⟨(h3 s).1, by have := (h3 s).2; omega⟩, h4⟩, ?_⟩
  rw [h5]; unfold giveM; omega
/-- the normalized counts -/
theorem norm_ok {c : List Int} {r : Nat} (h : Can c r) : Good (normL c r) ∧ (normL c r).sum = 2 ^ r ∧ ∀ s, 0 < (normL c r).getD s 0 ↔ 0 < c.getD s 0 := by
  obtain ⟨hw, hs⟩ := give_end h
  obtain ⟨h1, h2⟩ := take_way h hw _ (Nat.le_refl _)
  have hp := pow_le12 h.r12
  have e : normL c r = takeIt c ((giveIt (restL c (2 ^ r) c.sum) (giveM c (2 ^ r) c.sum) (q0L c (2 ^ r) c.sum, hadL c (2 ^ r) c.sum)).1.sum - 2 ^ r).toNat (giveIt (restL c (2 ^ r) c.sum) (giveM c (2 ^ r) c.sum) (q0L c (2 ^ r) c.sum, hadL c (2 ^ r) c.sum)).1 := rfl
  rw [← e] at h1 h2
  have hsum : (normL c r).sum = 2 ^ r := by rw [h2]; omega
  refine ⟨⟨h1.len, fun x hx => ?_, by omega⟩, hsum, h1.iff⟩
  obtain ⟨s, hs, rfl⟩ := List.getElem_of_mem hx
  have := h1.rng s
  rw [List.getD_eq_getElem?_getD, List.getElem?_eq_getElem hs] at this; exact this.1
theorem norm_log {c : List Int} {r : Nat} (h : Can c r) : logC (normL c r) = r := by
  obtain ⟨h1, h2, _⟩ := norm_ok h
  have hp := pow_le12 h.r12
  have hr : rightC (normL c r) = true := rightC_iff.2 ⟨h1.len, h1.nonneg, by omega⟩
  unfold logC totalC
  rw [if_pos hr, h2]
  exact logT_found h.r1 h.r12 rfl
end Go.Proofs.Ytfnobinenolhhaa
namespace Go.Proofs.Ytfnobinenolhhaa
open Go.RowKit Go.Proofs.YtfnobinenolhhaaW.PrintWords Go.Proofs.YtfnobinenolhhaaW.PrintLast Go.Proofs.YtfnobinenolhhaaW.PrintMore
theorem hist_sum (b : List Int) (hb : Bytes b) : (histL b).sum = b.length := by
  induction b with
  | nil =>
    unfold histL mapR
    have : ∀ l : List Nat, (l.map (fun (v : Nat) => (((([] : List Int).count (v : Int)) : Nat) : Int))).sum = 0 := by
      intro l; induction l with
      | nil => rfl
      | cons a l ih => rw [List.map_cons, List.sum_cons, ih]; simp
    exact this _
  | cons x l ih =>
    have hx := hb x (by simp)
    have ih2 := ih (fun y hy => hb y (by simp [hy]))
    obtain ⟨v, rfl⟩ : ∃ v : Nat, x = v := ⟨x.toNat, by omega⟩
    have e : histL ((v : Int) :: l) = (histL l).set v ((l.count (v : Int) : Int) + 1) := by
      unfold histL
      rw [mapR_set _ (by omega)]
      refine mapR_congr (fun u _ => ?_)
      rw [List.count_cons]
      by_cases e : u = v
      · subst e; rw [if_pos rfl]; simp
      · rw [if_neg e]
        have : ¬ (v : Int) = (u : Int) := by omega
        simp [this]
    rw [e, sum_set _ _ _ (by unfold histL; rw [mapR_len]; omega), histL_get _ (by omega), ih2, List.length_cons]
    omega
theorem hist_pos (b : List Int) {s : Nat} (hs : s < 256) : 0 < (histL b).getD s 0 ↔ (s : Int) ∈ b := by
  rw [histL_get _ hs, ← List.count_pos_iff]; omega
theorem ceil_ok (m : Nat) (h : m ≤ 256) : ceilI m ≤ 8 ∧ m ≤ 2 ^ ceilI m := by
  unfold ceilI widthI
  rcases Nat.lt_or_ge m 2 with h2 | h2
  · rw [show ((m : Int) - 1).toNat = 0 by omega]
    exact ⟨by decide, by have : Lib.bitLen 0 = 0 := by decide
                         rw [this]; omega⟩
  · obtain ⟨y, hy⟩ : ∃ y, y = m - 1 := ⟨_, rfl⟩
    rw [show ((m : Int) - 1).toNat = y by omega]
    obtain ⟨a, b, c⟩ := bitLen_pow y (by omega) (by omega)
    have := Lib.bitLen_le8' (y : Int) (by omega) (by omega)
    rw [Int.toNat_natCast] at this
    exact ⟨this, by omega⟩
theorem pick_ok (n m : Nat) (most : Nat) (h : m ≤ 256) (h8 : 8 ≤ most) (h12 : most ≤ 12) : ∃ r : Nat, pickI n m most = r ∧ 5 ≤ r ∧ r ≤ most ∧ m ≤ 2 ^ r := by
  obtain ⟨c1, c2⟩ := ceil_ok m h
  have hr : 5 ≤ pickI n m most ∧ pickI n m most ≤ most ∧ (ceilI m : Int) ≤ pickI n m most := by
    unfold pickI mx mn
    split <;> (split <;> (split <;> omega))
  refine ⟨(pickI n m most).toNat, by omega, by omega, by omega, ?_⟩
  have : 2 ^ ceilI m ≤ 2 ^ (pickI n m most).toNat := Nat.pow_le_pow_right (by omega) (by omega)
  omega
theorem manyC_of {c : List Int} (h : rightC c = true) : manyC c = c.countP (fun x => decide (0 < x)) := by unfold manyC; rw [if_pos h]
theorem hist_right (b : List Int) (hb : Bytes b) (hl : b.length ≤ 1000000) : rightC (histL b) = true :=
  rightC_iff.2 ⟨mapR_len _, fun x hx => by obtain ⟨v, _, rfl⟩ := mapR_mem hx; omega, by rw [hist_sum b hb]; omega⟩
theorem hist_can {b : List Int} {r : Nat} (hb : Bytes b) (hl : b.length ≤ 1000000) (h0 : 0 < b.length) (h1 : 1 ≤ r) (h12 : r ≤ 12) (hm : manyC (histL b) ≤ 2 ^ r) : Can (histL b) r :=
  ⟨mapR_len _, fun x hx => by obtain ⟨v, _, rfl⟩ := mapR_mem hx; omega, by rw [hist_sum b hb]; omega, by rw [hist_sum b hb]; omega, h1, h12, by rw [← manyC_of (hist_right b hb hl)]; exact hm⟩
/-- the log and the list of all bytes -/
def zeroR (b : List Int) : Nat := (pickI b.length (manyC (histL b)) 11).toNat
def zeroQ (b : List Int) : List Int := normL (histL b) (zeroR b)
theorem zeroR_ok (b : List Int) : pickI b.length (manyC (histL b)) 11 = (zeroR b : Int) ∧ 5 ≤ zeroR b ∧ zeroR b ≤ 11 ∧ manyC (histL b) ≤ 2 ^ zeroR b := by
  obtain ⟨r, h1, h2, h3, h4⟩ := pick_ok b.length (manyC (histL b)) 11 (manyC_le _) (by omega) (by omega)
  have e : zeroR b = r := by unfold zeroR; rw [show ((11 : Nat) : Int) = 11 from rfl] at h1; rw [h1]; simp
  rw [e]; exact ⟨h1, h2, h3, h4⟩
theorem bad_not {lg : Int} {q : List Int} (h : logC q ≠ 0) (h2 : (logC q : Int) = lg) : badQ lg q = false := by
  unfold badQ; exact decide_eq_false (fun x => x.2 ⟨h, h2⟩)
theorem bad_nil (lg : Int) : badQ lg [] = false := by unfold badQ; exact decide_eq_false (fun x => by simp at x)
theorem zero_can {b : List Int} (hb : Bytes b) (hl : b.length ≤ 1000000) (h0 : 0 < b.length) : Can (histL b) (zeroR b) := by
  have := zeroR_ok b
  exact hist_can hb hl h0 (by omega) (by omega) this.2.2.2
theorem zero_right {b : List Int} (hb : Bytes b) (hl : b.length ≤ 1000000) (h0 : 0 < b.length) : rightM (zeroR b) true [zeroQ b] = true := by
  have hc := zero_can hb hl h0
  have hz := zeroR_ok b
  have hlog := norm_log hc
  have hlen := (norm_ok hc).1.len
  unfold rightM
  rw [if_neg (by omega), if_neg (by
    simp only [List.any_cons, List.any_nil, Bool.or_false]
    rw [bad_not (q := zeroQ b) (by unfold zeroQ; omega) (by unfold zeroQ; rw [hlog])]; decide)]
  rw [if_pos rfl, decide_eq_true_eq]
  have h0 : 0 < (normL (histL b) (zeroR b)).length := by omega
  refine ⟨List.length_singleton, ?_⟩
  rw [List.getD_cons_zero]; unfold zeroQ; exact h0
theorem zero_fits {b : List Int} (hb : Bytes b) (hl : b.length ≤ 1000000) (h0 : 0 < b.length) : fitsM (zeroR b) true [zeroQ b] b = true := by
  have hc := zero_can hb hl h0
  have hn := norm_ok hc
  unfold fitsM
  rw [zero_right hb hl h0, Bool.true_and, List.all_eq_true]
  intro i hi
  have hi' := List.mem_range.1 hi
  have hg := hb.get i
  obtain ⟨x, hx⟩ : ∃ x : Nat, b.getD i 0 = x := ⟨(b.getD i 0).toNat, by omega⟩
  unfold fitAt
  rw [decide_eq_true_eq]
  have e0 : ([zeroQ b].getD (listI true (ctxI b i)) []) = normL (histL b) (zeroR b) := by unfold listI; rw [if_pos rfl, List.getD_cons_zero]; rfl
  rw [e0]
  refine ⟨by have := hn.1.len; omega, ?_⟩
  rw [hx, Int.toNat_natCast]
  have h1 := (hn.2.2 x).2 ((hist_pos b (by omega)).2 (by rw [← hx]; exact getD_mem hi'))
  omega
/-- the log and the lists by contexts -/
def firstR (b : List Int) : Nat := (pickI b.length (widN b 256) 9).toNat
def firstQ (b : List Int) (c : Nat) : List Int := if 0 < (pickedL b (c : Int)).length then normL (histL (pickedL b (c : Int))) (firstR b) else []
def firstL (b : List Int) : List (List Int) := (List.range 256).map (firstQ b)
theorem firstR_ok (b : List Int) : pickI b.length (widN b 256) 9 = (firstR b : Int) ∧ 5 ≤ firstR b ∧ firstR b ≤ 9 ∧ widN b 256 ≤ 2 ^ firstR b := by
  obtain ⟨r, h1, h2, h3, h4⟩ := pick_ok b.length (widN b 256) 9 (widN_le b _) (by omega) (by omega)
  have e : firstR b = r := by unfold firstR; rw [show ((9 : Nat) : Int) = 9 from rfl] at h1; rw [h1]; simp
  rw [e]; exact ⟨h1, h2, h3, h4⟩
theorem widN_ge (b : List Int) : ∀ k c, c < k → manyC (histL (pickedL b (c : Nat))) ≤ widN b k
  | 0, c, h => by omega
  | k + 1, c, h => by
    simp only [widN]
    by_cases e : c = k
    · subst e; omega
    · have := widN_ge b k c (by omega); omega
theorem picked_len (b : List Int) (c : Int) : (pickedL b c).length ≤ b.length := pkL_len b c b.length
theorem first_can {b : List Int} (hb : Bytes b) (hl : b.length ≤ 1000000) {c : Nat} (hc : c < 256) (h0 : 0 < (pickedL b (c : Int)).length) : Can (histL (pickedL b (c : Int))) (firstR b) := by
  have h1 := firstR_ok b
  have h2 := widN_ge b 256 c hc
  have h3 := picked_len b (c : Int)
  exact hist_can (pkL_bytes hb _ _) (by omega) h0 (by omega) (by omega) (by omega)
theorem firstL_len (b : List Int) : (firstL b).length = 256 := by simp [firstL]
theorem firstL_get (b : List Int) {c : Nat} (h : c < 256) : (firstL b).getD c [] = firstQ b c := by
  unfold firstL; rw [List.getD_eq_getElem?_getD, List.getElem?_map, List.getElem?_range h]; rfl
theorem first_right {b : List Int} (hb : Bytes b) (hl : b.length ≤ 1000000) : rightM (firstR b) false (firstL b) = true := by
  have hz := firstR_ok b
  unfold rightM
  rw [if_neg (by omega), if_neg]
  · rw [if_neg (by decide), decide_eq_true_eq]; exact firstL_len b
  · rw [Bool.not_eq_true, List.any_eq_false]
    intro q hq
    unfold firstL at hq
    obtain ⟨c, hc, rfl⟩ := List.mem_map.1 hq
    unfold firstQ
    split
    · rename_i h0
      have hlog := norm_log (first_can hb hl (List.mem_range.1 hc) h0)
      rw [bad_not (by omega) (by rw [hlog])]; decide
    · rw [bad_nil]; decide
theorem first_fits {b : List Int} (hb : Bytes b) (hl : b.length ≤ 1000000) : fitsM (firstR b) false (firstL b) b = true := by
  unfold fitsM
  rw [first_right hb hl, Bool.true_and, List.all_eq_true]
  intro i hi
  have hi' := List.mem_range.1 hi
  have hg := hb.get i
  have hcr := ctx_range hb i hi'
  obtain ⟨x, hx⟩ : ∃ x : Nat, b.getD i 0 = x := ⟨(b.getD i 0).toNat, by omega⟩
  obtain ⟨c, hc⟩ : ∃ c : Nat, ctxI b i = c := ⟨(ctxI b i).toNat, by omega⟩
  have hmem : b.getD i 0 ∈ pickedL b (c : Int) := by
    unfold pickedL pkL
    exact List.mem_map.2 ⟨i, List.mem_filter.2 ⟨hi, by rw [decide_eq_true_eq]; exact hc⟩, rfl⟩
  have hpos : 0 < (pickedL b (c : Int)).length := List.length_pos_of_mem hmem
  have hcan := first_can hb hl (c := c) (by omega) hpos
  have hn := norm_ok hcan
  have e : (firstL b).getD (listI false (ctxI b i)) [] = normL (histL (pickedL b (c : Int))) (firstR b) := by
    rw [hc]
    show (firstL b).getD ((c : Int)).toNat [] = _
    rw [Int.toNat_natCast, firstL_get b (by omega)]
    unfold firstQ; rw [if_pos hpos]
  unfold fitAt
  rw [decide_eq_true_eq, e]
  refine ⟨by have := hn.1.len; omega, ?_⟩
  rw [hx, Int.toNat_natCast]
  have h1 := (hn.2.2 x).2 ((hist_pos _ (by omega)).2 (by rw [← hx]; exact hmem))
  omega
end Go.Proofs.Ytfnobinenolhhaa
