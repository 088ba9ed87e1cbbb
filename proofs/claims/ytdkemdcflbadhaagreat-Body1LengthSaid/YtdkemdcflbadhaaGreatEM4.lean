/- Plain: what the printed references of counts answer (right, total, log). -/
import Derived.Test.YtdkemdcflbadhaaGreatES1
import Derived.Test.YtdkemdcflbadhaaGreatEM1
import Derived.Test.YtdkemdcflbadhaaGreatER1
import Derived.Test.YtdkemdcflbadhaaGreatEM0
import Derived.Test.YtdkemdcflbadhaaGreatEM2
import Derived.Deep.LoopGhost
import Derived.Laws.Rows
import Derived.Deep.DeepCutAuto
import Derived.Deep.RegionHeld3
import Derived.RangeFuncRecord
import Derived.RangeFuncSeq
import Derived.WalkKit
import Derived.OwnWalkIn
import Derived.TacticsInMore
import Derived.BigFrameIn
import Derived.LoopNIn
import Derived.LoopIn
import Derived.Maps.OwnIn
import Derived.Maps.AppendAt
import Derived.RangeFuncBox
import Derived.OwnWalk
import Derived.RangeFuncLeaves
import Derived.Defers
import Derived.Recover
import Derived.BigQuiet
import Derived.Deep.QuietTactic
import Derived.Deep.MidRow
namespace Go.Proofs.YtdkemdcflbadhaaGreat
open Go.RowKit Go.Proofs.YtdkemdcflbadhaaGreat.PRef Go.Proofs.YtdkemdcflbadhaaGreatW.PrintWords Go.Proofs.YtdkemdcflbadhaaGreatW.PrintLast Go.Proofs.YtdkemdcflbadhaaGreatW.PrintMore
theorem rd_nat (xs : List Int) (i : Nat) : rd xs (i : Int) = xs.getD i 0 := rfl
theorem wS (i : Nat) (h : i ≤ 1000000000) : wrap64 ((i : Int) + 1) = ((i + 1 : Nat) : Int) := by rw [w64 (by omega)]; simp
theorem take_snoc_mem {c : List Int} {i : Nat} (h : i < c.length) {P : Int → Prop} (h1 : ∀ x ∈ c.take i, P x) (h2 : P (c.getD i 0)) : ∀ x ∈ c.take (i + 1), P x := by
  intro x hx
  rw [List.take_succ_eq_append_getElem h] at hx
  rcases List.mem_append.1 hx with hx | hx
  · exact h1 x hx
  · rw [List.mem_singleton.1 hx]
    rw [List.getD_eq_getElem?_getD, List.getElem?_eq_getElem h] at h2; exact h2
theorem getD_mem {c : List Int} {i : Nat} (h : i < c.length) : c.getD i 0 ∈ c := by
  rw [List.getD_eq_getElem?_getD, List.getElem?_eq_getElem h]; exact List.getElem_mem h
theorem refRight_loop (c : List Int) (hl : c.length = 256) : ∀ (d i : Nat) (s : Int), i + d = 256 → i ≤ 256 → s = (c.take i).sum → (∀ x ∈ c.take i, 0 ≤ x ∧ x ≤ 1073741824) → 0 ≤ s → s ≤ i * 1073741824 →
    Ev (fun k => puncheonref05_Right.l0 k c s (i : Int)) (rightC c) := by
  intro d
  induction d with
  | zero =>
    intro i s hd hi hs ha h0 h1
    refine Ev.step (fun k => (show puncheonref05_Right.l0 (k + 1) c s (i : Int) = _ by simp only [puncheonref05_Right.l0]; rw [if_neg (by omega)])) ?_
    rw [List.take_of_length_le (by omega)] at hs ha
    have e : rightC c = decide (s ≤ 1073741824) := by
      unfold rightC; rw [hs]; exact decide_eq_decide.2 ⟨fun h => h.2.2, fun h => ⟨hl, fun x hx => (ha x hx).1, h⟩⟩
    rw [e]; exact Ev.now _
  | succ d ih =>
    intro i s hd hi hs ha h0 h1
    have hlt : i < c.length := by omega
    have hts := take_sum hlt
    by_cases hn : c.getD i 0 < 0
    · refine Ev.step (fun k => (show puncheonref05_Right.l0 (k + 1) c s (i : Int) = _ by simp only [puncheonref05_Right.l0]; rw [if_pos (by omega), if_pos (by omega), if_pos (by omega), rd_nat, if_pos hn])) ?_
      have e : rightC c = false := by
        rw [← Bool.not_eq_true, rightC_iff]; intro h
        have := h.2.1 _ (getD_mem hlt); omega
      rw [e]; exact Ev.now _
    · by_cases hb : c.getD i 0 > 1073741824
      · refine Ev.step (fun k => (show puncheonref05_Right.l0 (k + 1) c s (i : Int) = _ by simp only [puncheonref05_Right.l0]; rw [if_pos (by omega), if_pos (by omega), if_pos (by omega), rd_nat, if_neg hn, if_pos hb])) ?_
        have e : rightC c = false := by
          rw [← Bool.not_eq_true, rightC_iff]; intro h
          have := le_sum h.2.1 (getD_mem hlt); omega
        rw [e]; exact Ev.now _
      · refine Ev.step (fun k => (show puncheonref05_Right.l0 (k + 1) c s (i : Int) = _ by simp only [puncheonref05_Right.l0]; rw [if_pos (by omega), if_pos (by omega), if_pos (by omega), rd_nat, if_neg hn, if_neg hb, wS i (by omega), w64 (n := s + c.getD i 0) (by omega)])) ?_
        exact ih (i + 1) _ (by omega) (by omega) (by rw [hts, hs]) (take_snoc_mem hlt ha (by omega)) (by omega) (by omega)
theorem refRight_eq (c : List Int) : Ev (fun k => puncheonref05_Right.f k c) (rightC c) := by
  by_cases hl : c.length = 256
  · refine Ev.congr (fun k => (show puncheonref05_Right.f k c = _ by unfold puncheonref05_Right.f; rw [if_pos (by omega)])) ?_
    exact refRight_loop c hl 256 0 0 (by omega) (by omega) (by simp) (by simp) (by omega) (by omega)
  · refine Ev.congr (fun k => (show puncheonref05_Right.f k c = _ by unfold puncheonref05_Right.f; rw [if_neg (by omega)])) ?_
    have e : rightC c = false := by rw [← Bool.not_eq_true, rightC_iff]; exact fun h => hl h.1
    rw [e]; exact Ev.now _
theorem refTotal_loop (c : List Int) (hr : rightC c = true) : ∀ (d i : Nat) (s : Int), c.length - i = d → i ≤ c.length → s = (c.take i).sum → Ev (fun k => puncheonref05_Total.l0 k c s true (i : Int)) c.sum
  | 0, i, s, hd, hi, hs => by
    refine Ev.step (fun k => (show puncheonref05_Total.l0 (k + 1) c s true (i : Int) = _ by simp only [puncheonref05_Total.l0]; rw [if_neg (by omega)])) ?_
    rw [List.take_of_length_le (by omega)] at hs
    rw [← hs]; exact Ev.now _
  | d + 1, i, s, hd, hi, hs => by
    have hlt : i < c.length := by omega
    have hts := take_sum hlt
    have hR := rightC_iff.1 hr
    have h1 := take_sum_le hR.2.1 (i + 1)
    have h2 : 0 ≤ (c.take (i + 1)).sum := sum_nonneg (fun x hx => hR.2.1 x (List.mem_of_mem_take hx))
    refine Ev.step (fun k => (show puncheonref05_Total.l0 (k + 1) c s true (i : Int) = _ by simp only [puncheonref05_Total.l0]; rw [if_pos (by omega), if_pos trivial, if_pos (by omega), rd_nat, wS i (by omega), w64 (n := s + c.getD i 0) (by omega)])) ?_
    exact refTotal_loop c hr d (i + 1) _ (by omega) (by omega) (by rw [hts, hs])
theorem refTotal_eq (c : List Int) : Ev (fun k => puncheonref05_Total.f k c) (totalC c) := by
  unfold puncheonref05_Total.f
  refine Ev.bind (refRight_eq c) ?_
  unfold totalC
  cases hr : rightC c with
  | true => rw [if_pos rfl]; exact refTotal_loop c hr _ 0 0 rfl (by omega) (by simp)
  | false =>
    rw [if_neg (by decide)]
    refine Ev.step (fun k => (show puncheonref05_Total.l0 (k + 1) c 0 false 0 = some 0 by simp only [puncheonref05_Total.l0]; split <;> simp)) (Ev.now _)
theorem refPower_loop (r : Nat) (hr : r ≤ 30) : ∀ (d i : Nat), r - i = d → i ≤ r → Ev (fun k => puncheonref08_power.l0 k (r : Int) ((2 ^ i : Nat) : Int) (i : Int)) ((2 ^ r : Nat) : Int)
  | 0, i, hd, hi => by
    obtain rfl : i = r := by omega
    exact Ev.step (fun k => (show puncheonref08_power.l0 (k + 1) (i : Int) _ (i : Int) = _ by simp only [puncheonref08_power.l0]; rw [if_neg (by omega)])) (Ev.now _)
  | d + 1, i, hd, hi => by
    have hp : 2 ^ (i + 1) ≤ 2 ^ 30 := Nat.pow_le_pow_right (by omega) (by omega)
    have e : (2 : Int) * ((2 ^ i : Nat) : Int) = ((2 ^ (i + 1) : Nat) : Int) := by rw [Nat.pow_succ]; omega
    have e2 : wrap64 ((2 ^ (i + 1) : Nat) : Int) = ((2 ^ (i + 1) : Nat) : Int) := by
      generalize 2 ^ (i + 1) = P at hp ⊢
      exact w64 (by omega)
    refine Ev.step (fun k => (show puncheonref08_power.l0 (k + 1) (r : Int) _ (i : Int) = _ by simp only [puncheonref08_power.l0]; rw [if_pos (by omega), wS i (by omega), e, e2])) ?_
    exact refPower_loop r hr d (i + 1) (by omega) (by omega)
theorem refPower_eq (r : Nat) (hr : r ≤ 30) : Ev (fun k => puncheonref08_power.f k (r : Int)) ((2 ^ r : Nat) : Int) := by
  unfold puncheonref08_power.f; exact refPower_loop r hr r 0 (by omega) (by omega)
theorem refLog_loop (t : Int) : ∀ (d i : Nat), i + d = 13 → 1 ≤ i → i ≤ 13 → (∀ r, 1 ≤ r → r < i → t ≠ 2 ^ r) → Ev (fun k => puncheonref08_Log.l0 k t (i : Int)) ((logT t : Nat) : Int)
  | 0, i, hd, h1, hi, hn => by
    obtain rfl : i = 13 := by omega
    rw [logT_none (fun r a b => hn r a (by omega))]
    exact Ev.step (fun k => (show puncheonref08_Log.l0 (k + 1) t ((13 : Nat) : Int) = _ by simp only [puncheonref08_Log.l0]; rw [if_neg (by decide)]; rfl)) (Ev.now _)
  | d + 1, i, hd, h1, hi, hn => by
    refine Ev.step (fun k => (show puncheonref08_Log.l0 (k + 1) t (i : Int) = _ by simp only [puncheonref08_Log.l0]; rw [if_pos (by omega)])) ?_
    refine Ev.bind (refPower_eq i (by omega)) ?_
    have e : ((2 ^ i : Nat) : Int) = 2 ^ i := by simp
    by_cases ht : t = 2 ^ i
    · refine Ev.congr (fun k => if_pos (by rw [e]; exact ht)) ?_
      rw [logT_found h1 (by omega) ht]; exact Ev.now _
    · refine Ev.congr (fun k => (if_neg (by rw [e]; exact ht)).trans (by rw [wS i (by omega)])) ?_
      refine refLog_loop t d (i + 1) (by omega) (by omega) (by omega) (fun r a b => ?_)
      by_cases hri : r = i
      · rw [hri]; exact ht
      · exact hn r a (by omega)
theorem refLog_eq (c : List Int) : Ev (fun k => puncheonref08_Log.f k c) ((logC c : Nat) : Int) := by
  unfold puncheonref08_Log.f
  exact Ev.bind (refTotal_eq c) (refLog_loop _ 12 1 (by omega) (by omega) (by omega) (fun r a b => by omega))
end Go.Proofs.YtdkemdcflbadhaaGreat
namespace Go.Proofs.YtdkemdcflbadhaaGreat
open Go.RowKit Go.Proofs.YtdkemdcflbadhaaGreat.PRef Go.Proofs.YtdkemdcflbadhaaGreatW.PrintWords Go.Proofs.YtdkemdcflbadhaaGreatW.PrintLast Go.Proofs.YtdkemdcflbadhaaGreatW.PrintMore
/-- 256 numbers, told by a function -/
def mapR (f : Nat → Int) : List Int := (List.range 256).map f
theorem mapR_len (f : Nat → Int) : (mapR f).length = 256 := by simp [mapR]
theorem mapR_get (f : Nat → Int) {v : Nat} (h : v < 256) : (mapR f).getD v 0 = f v := by
  unfold mapR; rw [List.getD_eq_getElem?_getD, List.getElem?_map, List.getElem?_range h]; rfl
theorem mapR_congr {f g : Nat → Int} (h : ∀ v, v < 256 → f v = g v) : mapR f = mapR g := by
  unfold mapR; exact List.map_congr_left (fun v hv => h v (List.mem_range.1 hv))
theorem mapR_set (f : Nat → Int) {v : Nat} (_ : v < 256) (y : Int) : (mapR f).set v y = mapR (fun u => if u = v then y else f u) := by
  apply List.ext_getElem
  · simp [mapR]
  · intro i h1 h2
    rw [List.getElem_set]
    simp only [mapR, List.getElem_map, List.getElem_range]
    by_cases e : v = i
    · rw [if_pos e, if_pos e.symm]
    · rw [if_neg e, if_neg (fun x => e x.symm)]
theorem mapR_mem {f : Nat → Int} {x : Int} (h : x ∈ mapR f) : ∃ v, v < 256 ∧ x = f v := by
  unfold mapR at h
  obtain ⟨v, hv, rfl⟩ := List.mem_map.1 h
  exact ⟨v, List.mem_range.1 hv, rfl⟩
/-- how often each byte comes -/
def histL (b : List Int) : List Int := mapR (fun v => (b.count (v : Int) : Int))
/-- how many are above 0 -/
def posC (c : List Int) (k : Nat) : Nat := (c.take k).countP (fun x => decide (0 < x))
def manyC (c : List Int) : Nat := if rightC c then c.countP (fun x => decide (0 < x)) else 0
theorem posC_succ (c : List Int) (i : Nat) (h : i < c.length) : posC c (i + 1) = posC c i + (if 0 < c.getD i 0 then 1 else 0) := by
  unfold posC
  rw [List.take_succ_eq_append_getElem h, List.countP_append, List.getD_eq_getElem?_getD, List.getElem?_eq_getElem h, Option.getD_some]
  congr 1
  by_cases e : 0 < c[i] <;> simp [e]
theorem posC_le (c : List Int) (i : Nat) : posC c i ≤ i := by
  unfold posC; have := List.countP_le_length (p := fun x => decide (0 < x)) (l := c.take i); rw [List.length_take] at this; omega
theorem refAt_eq (b : List Int) (hb : Bytes b) (hl : b.length ≤ 1000000) (i : Int) : puncheonref06_At.f b i = some (ctxI b i) := by
  unfold puncheonref06_At.f ctxI
  by_cases h1 : i < 0
  · rw [if_pos h1, if_pos (.inl h1)]
  · by_cases h2 : i ≥ (b.length : Int)
    · rw [if_neg h1, if_pos h2, if_pos (.inr h2)]
    · rw [if_neg h1, if_neg h2, if_neg (by omega)]
      simp only [Option.bind_some]
      rw [if_pos (by simp; omega), if_pos (by omega), if_pos (by simp; omega)]
      have hw : ∀ x : Int, 0 ≤ x ∧ x < 256 → wrap64 x = x := fun x hx => w64 (by omega)
      by_cases h3 : i = 0
      · subst h3; rw [if_pos rfl]; exact congrArg some (hw 0 (by decide))
      · rw [if_neg h3]
        have e : rd ([0] ++ b) i = b.getD (i - 1).toNat 0 := by
          unfold rd
          rw [show i.toNat = (i - 1).toNat + 1 by omega]; rfl
        rw [e, hw _ (hb.get _)]
end Go.Proofs.YtdkemdcflbadhaaGreat
namespace Go.Proofs.YtdkemdcflbadhaaGreat
open Go.RowKit Go.Proofs.YtdkemdcflbadhaaGreat.PRef Go.Proofs.YtdkemdcflbadhaaGreatW.PrintWords Go.Proofs.YtdkemdcflbadhaaGreatW.PrintLast Go.Proofs.YtdkemdcflbadhaaGreatW.PrintMore
/-- the bytes of a context, among the first k -/
def pkL (b : List Int) (c : Int) (k : Nat) : List Int := ((List.range k).filter (fun j => decide (ctxI b (j : Nat) = c))).map (fun j => b.getD j 0)
def pickedL (b : List Int) (c : Int) : List Int := pkL b c b.length
theorem pkL_hit {b : List Int} {c : Int} {k : Nat} (h : ctxI b (k : Nat) = c) : pkL b c (k + 1) = pkL b c k ++ [b.getD k 0] := by
  unfold pkL; rw [List.range_succ, List.filter_append, List.map_append]; congr 1
  simp only [List.filter_cons, List.filter_nil, h, decide_true]; rfl
theorem pkL_miss {b : List Int} {c : Int} {k : Nat} (h : ctxI b (k : Nat) ≠ c) : pkL b c (k + 1) = pkL b c k := by
  unfold pkL; rw [List.range_succ, List.filter_append, List.map_append]
  simp only [List.filter_cons, List.filter_nil, h, decide_false]; simp
theorem pkL_len (b : List Int) (c : Int) (k : Nat) : (pkL b c k).length ≤ k := by
  unfold pkL; rw [List.length_map]; exact Nat.le_trans (List.length_filter_le _ _) (by simp)
theorem pkL_bytes {b : List Int} (hb : Bytes b) (c : Int) (k : Nat) : Bytes (pkL b c k) := by
  intro x hx
  unfold pkL at hx
  obtain ⟨j, _, rfl⟩ := List.mem_map.1 hx
  exact hb.get j
theorem histL_snoc (l : List Int) {y : Nat} (hy : y < 256) : histL (l ++ [(y : Int)]) = (histL l).set y ((l.count (y : Int) : Int) + 1) := by
  unfold histL
  rw [mapR_set _ hy]
  refine mapR_congr (fun u _ => ?_)
  rw [List.count_append, List.count_singleton]
  by_cases e : u = y
  · subst e; rw [if_pos rfl]; simp
  · rw [if_neg e]
    have : ¬ (y : Int) = (u : Int) := by omega
    simp [this]
theorem histL_get (l : List Int) {y : Nat} (hy : y < 256) : (histL l).getD y 0 = (l.count (y : Int) : Int) := by unfold histL; rw [mapR_get _ hy]
/-- the most unlike bytes of a context -/
def widN (b : List Int) : Nat → Nat
  | 0 => 0
  | k + 1 => max (widN b k) (manyC (histL (pickedL b (k : Nat))))
theorem manyC_le (c : List Int) : manyC c ≤ 256 := by
  unfold manyC
  split
  · rename_i h
    have := List.countP_le_length (p := fun x => decide (0 < x)) (l := c); have := (rightC_iff.1 h).1; omega
  · omega
theorem widN_le (b : List Int) : ∀ k, widN b k ≤ 256
  | 0 => by simp [widN]
  | k + 1 => by
    have := widN_le b k; have := manyC_le (histL (pickedL b (k : Nat)))
    simp only [widN]; omega
/-- the contexts that there are, among the first k -/
def presN (b : List Int) (k : Nat) : List Int := ((List.range k).filter (fun (c : Nat) => decide (0 < (pickedL b (c : Int)).length))).map (fun (c : Nat) => (c : Int))
theorem presN_succ (b : List Int) (k : Nat) : presN b (k + 1) = if 0 < (pickedL b (k : Int)).length then presN b k ++ [(k : Int)] else presN b k := by
  unfold presN; rw [List.range_succ, List.filter_append, List.map_append]
  by_cases h : 0 < (pickedL b (k : Int)).length
  · rw [if_pos h]; congr 1; simp only [List.filter_cons, List.filter_nil, h, decide_true]; rfl
  · rw [if_neg h]; simp only [List.filter_cons, List.filter_nil, h, decide_false]; simp
theorem presN_len (b : List Int) (k : Nat) : (presN b k).length ≤ k := by
  unfold presN; rw [List.length_map]; exact Nat.le_trans (List.length_filter_le _ _) (by simp)
/-- a log, rounded up -/
def ceilI (n : Int) : Nat := widthI (n - 1)
/-- a table's log -/
def pickI (n m : Nat) (most : Int) : Int := mx (mx (mn ((floorI n : Int) - 2) most) 5) (ceilI m)
theorem floorI_le (n : Nat) (h : n < 2 ^ 40) : floorI (n : Int) ≤ 40 := by
  rcases Nat.eq_zero_or_pos n with h0 | h0
  · subst h0; decide
  · have := (floor_pow n h0 (by omega)).1
    have a : ¬ 41 ≤ floorI (n : Int) := fun e => by
      have := Nat.pow_le_pow_right (n := 2) (by omega) e; omega
    omega
end Go.Proofs.YtdkemdcflbadhaaGreat
namespace Go.Proofs.YtdkemdcflbadhaaGreat
open Go.RowKit Go.Proofs.YtdkemdcflbadhaaGreat.PRef Go.Proofs.YtdkemdcflbadhaaGreatW.PrintWords Go.Proofs.YtdkemdcflbadhaaGreatW.PrintLast Go.Proofs.YtdkemdcflbadhaaGreatW.PrintMore
/-- who has one more next, among the first -/
def needN (rest : List Int) (had : List Bool) : Nat → Int
  | 0 => -1
  | k + 1 => if had.getD k false = true then needN rest had k else if needN rest had k < 0 then (k : Int) else if rest.getD k 0 > rest.getD (needN rest had k).toNat 0 then (k : Int) else needN rest had k
theorem needN_lt (rest : List Int) (had : List Bool) : ∀ k, -1 ≤ needN rest had k ∧ needN rest had k < k ∧ (0 ≤ needN rest had k → had.getD (needN rest had k).toNat false = false)
  | 0 => by simp [needN]
  | k + 1 => by
    obtain ⟨h1, h2, h3⟩ := needN_lt rest had k
    simp only [needN]
    cases hk : had.getD k false with
    | true => rw [if_pos rfl]; exact ⟨h1, by omega, h3⟩
    | false =>
      rw [if_neg (by decide)]
      split
      · exact ⟨by omega, by omega, fun _ => by rw [Int.toNat_natCast]; exact hk⟩
      · split
        · exact ⟨by omega, by omega, fun _ => by rw [Int.toNat_natCast]; exact hk⟩
        · exact ⟨h1, by omega, h3⟩
theorem needN_some (rest : List Int) (had : List Bool) {s : Nat} (hs : had.getD s false = false) : ∀ k, s < k → 0 ≤ needN rest had k
  | 0, h => by omega
  | k + 1, h => by
    simp only [needN]
    by_cases e : s = k
    · subst e
      rw [hs, if_neg (by decide)]
      split
      · omega
      · split <;> omega
    · have ih := needN_some rest had hs k (by omega)
      split
      · exact ih
      · rw [if_neg (by omega)]
        split <;> omega
/-- who has one less next, among the first -/
def richN (q c : List Int) : Nat → Nat
  | 0 => 0
  | k + 1 => if q.getD k 0 > q.getD (richN q c k) 0 ∨ q.getD k 0 = q.getD (richN q c k) 0 ∧ c.getD k 0 ≤ c.getD (richN q c k) 0 then k else richN q c k
theorem richN_lt (q c : List Int) : ∀ k, richN q c k ≤ k - 1
  | 0 => by simp [richN]
  | k + 1 => by
    have := richN_lt q c k
    simp only [richN]; split <;> omega
theorem richN_max (q c : List Int) : ∀ k, ∀ s, s < k → q.getD s 0 ≤ q.getD (richN q c k) 0
  | 0, s, h => by omega
  | k + 1, s, h => by
    have ih := richN_max q c k
    simp only [richN]
    split
    · rename_i hc
      by_cases e : s = k
      · subst e; exact Int.le_refl _
      · have := ih s (by omega); omega
    · rename_i hc
      by_cases e : s = k
      · subst e; omega
      · exact ih s (by omega)
end Go.Proofs.YtdkemdcflbadhaaGreat
namespace Go.Proofs.YtdkemdcflbadhaaGreat
open Go.RowKit
theorem sum_set (q : List Int) (s : Nat) (y : Int) (h : s < q.length) : (q.set s y).sum = q.sum - q.getD s 0 + y := by
  induction q generalizing s with
  | nil => simp at h
  | cons a q ih =>
    cases s with
    | zero => simp; omega
    | succ s =>
      have := ih s (by simpa using h)
      simp only [List.set_cons_succ, List.sum_cons, List.getD_cons_succ, this]; omega
theorem getD_set (q : List Int) (s t : Nat) (y : Int) (h : s < q.length) : (q.set s y).getD t 0 = if t = s then y else q.getD t 0 := by
  rw [List.getD_eq_getElem?_getD, List.getElem?_set]
  by_cases e : s = t
  · subst e; rw [if_pos rfl, if_pos h, if_pos rfl]; rfl
  · rw [if_neg e, if_neg (fun x => e x.symm), List.getD_eq_getElem?_getD]
/-- the first of the counts, what is left, and who has had enough -/
def q0F (c : List Int) (P n : Int) (s : Nat) : Int := if c.getD s 0 * P / n = 0 then min (c.getD s 0) 1 else c.getD s 0 * P / n
def q0L (c : List Int) (P n : Int) : List Int := mapR (q0F c P n)
def restL (c : List Int) (P n : Int) : List Int := mapR (fun s => c.getD s 0 * P % n)
def hadL (c : List Int) (P n : Int) : List Bool := (List.range 256).map (fun s => decide (c.getD s 0 * P / n = 0))
def giveIt (rest : List Int) : Nat → List Int × List Bool → List Int × List Bool
  | 0, st => st
  | m + 1, st => let r := giveIt rest m st; (r.1.set (needN rest r.2 256).toNat (r.1.getD (needN rest r.2 256).toNat 0 + 1), r.2.set (needN rest r.2 256).toNat true)
def takeIt (c : List Int) : Nat → List Int → List Int
  | 0, q => q
  | m + 1, q => let r := takeIt c m q; r.set (richN r c 256) (r.getD (richN r c 256) 0 - 1)
def giveM (c : List Int) (P n : Int) : Nat := (P - (q0L c P n).sum).toNat
def normL (c : List Int) (r : Nat) : List Int :=
  let P : Int := 2 ^ r
  let n := c.sum
  let g := (giveIt (restL c P n) (giveM c P n) (q0L c P n, hadL c P n)).1
  takeIt c (g.sum - P).toNat g
theorem mapR_sum_le {f g : Nat → Int} (h : ∀ s, s < 256 → f s ≤ g s) : (mapR f).sum ≤ (mapR g).sum := by
  unfold mapR
  have key : ∀ l : List Nat, (∀ s ∈ l, f s ≤ g s) → (l.map f).sum ≤ (l.map g).sum := by
    intro l
    induction l with
    | nil => intro _; simp
    | cons a l ih =>
      intro hl
      have := ih (fun s hs => hl s (by simp [hs])); have := hl a (by simp)
      simp only [List.map_cons, List.sum_cons]; omega
  exact key _ (fun s hs => h s (List.mem_range.1 hs))
theorem mapR_self {c : List Int} (h : c.length = 256) : mapR (fun s => c.getD s 0) = c := by
  apply List.ext_getElem
  · rw [mapR_len, h]
  · intro i h1 h2; simp [mapR, List.getElem?_eq_getElem h2]
theorem mapR_sum_mul (f : Nat → Int) (k : Int) : (mapR (fun s => f s * k)).sum = (mapR f).sum * k := by
  unfold mapR
  induction List.range 256 with
  | nil => simp
  | cons a l ih => simp only [List.map_cons, List.sum_cons, ih, Int.add_mul]
theorem mapR_sum_add (f g : Nat → Int) : (mapR (fun s => f s + g s)).sum = (mapR f).sum + (mapR g).sum := by
  unfold mapR
  induction List.range 256 with
  | nil => simp
  | cons a l ih => simp only [List.map_cons, List.sum_cons, ih]; omega
/-- how many haven't had enough -/
def freeN (had : List Bool) : Nat := had.countP (fun b => !b)
theorem free_sum (c : List Int) (P n : Int) : ((freeN (hadL c P n) : Nat) : Int) = (mapR (fun s => if c.getD s 0 * P / n = 0 then 0 else 1)).sum := by
  unfold freeN hadL mapR
  induction List.range 256 with
  | nil => simp
  | cons a l ih =>
    have e1 : ((if (!decide (c.getD a 0 * P / n = 0)) = true then 1 else 0 : Nat) : Int) = if c.getD a 0 * P / n = 0 then 0 else 1 := by
      by_cases e : c.getD a 0 * P / n = 0
      · rw [if_pos e, decide_eq_true e]; rfl
      · rw [if_neg e, decide_eq_false e]; rfl
    rw [List.map_cons, List.map_cons, List.countP_cons, List.sum_cons, Int.natCast_add, ih, e1]; omega
/-- counts that can be normalized -/
structure Can (c : List Int) (r : Nat) : Prop where
  len : c.length = 256
  nonneg : ∀ x ∈ c, 0 ≤ x
  pos : 0 < c.sum
  le : c.sum ≤ 1073741824
  r1 : 1 ≤ r
  r12 : r ≤ 12
  many : c.countP (fun x => decide (0 < x)) ≤ 2 ^ r
theorem Can.get {c : List Int} {r : Nat} (h : Can c r) (s : Nat) : 0 ≤ c.getD s 0 ∧ c.getD s 0 ≤ c.sum := by
  by_cases hs : s < c.length
  · exact ⟨h.nonneg _ (getD_mem hs), le_sum h.nonneg (getD_mem hs)⟩
  · rw [List.getD_eq_getElem?_getD, List.getElem?_eq_none (by omega)]; have := h.pos; simp; omega
theorem Can.q0 {c : List Int} {r : Nat} (h : Can c r) (s : Nat) : 0 ≤ q0F c (2 ^ r) c.sum s ∧ q0F c (2 ^ r) c.sum s ≤ 4096 ∧ (0 < q0F c (2 ^ r) c.sum s ↔ 0 < c.getD s 0) ∧ c.getD s 0 * 2 ^ r ≤ (q0F c (2 ^ r) c.sum s + (if c.getD s 0 * 2 ^ r / c.sum = 0 then 0 else 1)) * c.sum := by
  have hg := h.get s
  have hp := h.pos
  have h2 := pow_le12 h.r12
  have hm0 : 0 ≤ c.getD s 0 * 2 ^ r := Int.mul_nonneg hg.1 (by omega)
  have hd0 : 0 ≤ c.getD s 0 * 2 ^ r / c.sum := Int.ediv_nonneg hm0 (by omega)
  have hdm := Int.mul_ediv_add_emod (c.getD s 0 * 2 ^ r) c.sum
  have hml := Int.emod_lt_of_pos (c.getD s 0 * 2 ^ r) hp
  have hmn := Int.emod_nonneg (c.getD s 0 * 2 ^ r) (b := c.sum) (by omega)
  have hle : c.getD s 0 * 2 ^ r / c.sum ≤ 2 ^ r := by
    refine Int.ediv_le_of_le_mul hp ?_
    rw [Int.mul_comm]; exact Int.mul_le_mul_of_nonneg_left hg.2 (by omega)
  unfold q0F
  by_cases e : c.getD s 0 * 2 ^ r / c.sum = 0
  · rw [if_pos e, if_pos e]
    rw [e, Int.mul_zero, Int.zero_add] at hdm
    refine ⟨by omega, by omega, by omega, ?_⟩
    by_cases e2 : c.getD s 0 = 0
    · rw [e2, show min (0 : Int) 1 = 0 by decide]; simp
    · rw [show min (c.getD s 0) 1 = 1 by omega]; omega
  · rw [if_neg e, if_neg e]
    refine ⟨hd0, by omega, ⟨fun _ => ?_, fun _ => by omega⟩, ?_⟩
    · by_cases e2 : c.getD s 0 = 0
      · rw [e2] at e; simp at e
      · omega
    · rw [Int.add_mul, Int.one_mul, Int.mul_comm (c.getD s 0 * 2 ^ r / c.sum)]; omega
/-- enough haven't had enough -/
theorem Can.enough {c : List Int} {r : Nat} (h : Can c r) : (2 : Int) ^ r ≤ (q0L c (2 ^ r) c.sum).sum + freeN (hadL c (2 ^ r) c.sum) := by
  have h1 : (mapR (fun s => c.getD s 0 * 2 ^ r)).sum ≤ (mapR (fun s => (q0F c (2 ^ r) c.sum s + (if c.getD s 0 * 2 ^ r / c.sum = 0 then 0 else 1)) * c.sum)).sum := mapR_sum_le (fun s _ => (h.q0 s).2.2.2)
  rw [mapR_sum_mul, mapR_sum_mul, mapR_sum_add, mapR_self h.len, ← free_sum, Int.mul_comm c.sum] at h1
  exact Int.le_of_mul_le_mul_right h1 h.pos
theorem free_exists {had : List Bool} (hl : had.length = 256) (h : 0 < freeN had) : ∃ s, s < 256 ∧ had.getD s false = false := by
  unfold freeN at h
  obtain ⟨b, hb, hbf⟩ := List.countP_pos_iff.1 h
  obtain ⟨s, hs, rfl⟩ := List.getElem_of_mem hb
  refine ⟨s, by omega, ?_⟩
  rw [List.getD_eq_getElem?_getD, List.getElem?_eq_getElem hs]; simpa using hbf
theorem free_set {had : List Bool} {s : Nat} (hs : s < had.length) (h : had.getD s false = false) : freeN (had.set s true) + 1 = freeN had := by
  unfold freeN
  induction had generalizing s with
  | nil => simp at hs
  | cons a l ih =>
    cases s with
    | zero => simp at h; subst h; simp
    | succ s =>
      have := ih (s := s) (by simpa using hs) (by simpa using h)
      simp only [List.set_cons_succ, List.countP_cons]; omega
/-- counts on the way -/
structure Way (c q : List Int) : Prop where
  len : q.length = 256
  rng : ∀ s, 0 ≤ q.getD s 0 ∧ q.getD s 0 ≤ 100000
  iff : ∀ s, 0 < q.getD s 0 ↔ 0 < c.getD s 0
theorem give_way {c : List Int} {r : Nat} (h : Can c r) : ∀ m, m ≤ giveM c (2 ^ r) c.sum →
    let st := giveIt (restL c (2 ^ r) c.sum) m (q0L c (2 ^ r) c.sum, hadL c (2 ^ r) c.sum)
    st.1.length = 256 ∧ st.2.length = 256 ∧ (∀ s, 0 ≤ st.1.getD s 0 ∧ st.1.getD s 0 ≤ 4096 + m) ∧ (∀ s, 0 < st.1.getD s 0 ↔ 0 < c.getD s 0) ∧ st.1.sum = (q0L c (2 ^ r) c.sum).sum + m ∧ freeN st.2 + m = freeN (hadL c (2 ^ r) c.sum) ∧
      (∀ s, s < 256 → st.2.getD s false = false → 0 < c.getD s 0)
  | 0, _ => by
    have hlen : (q0L c (2 ^ r) c.sum).length = 256 := mapR_len _
    refine ⟨hlen, by simp [giveIt, hadL], fun s => ?_, fun s => ?_, by simp [giveIt], rfl, fun s hs hf => ?_⟩
    · show 0 ≤ (q0L c (2 ^ r) c.sum).getD s 0 ∧ (q0L c (2 ^ r) c.sum).getD s 0 ≤ 4096 + ((0 : Nat) : Int)
      by_cases hs : s < 256
      · unfold q0L; rw [mapR_get _ hs]; have := h.q0 s; exact ⟨this.1, by have := this.2.1; omega⟩
      · rw [List.getD_eq_getElem?_getD, List.getElem?_eq_none (by omega)]; simp
    · show 0 < (q0L c (2 ^ r) c.sum).getD s 0 ↔ _
      by_cases hs : s < 256
      · unfold q0L; rw [mapR_get _ hs]; exact (h.q0 s).2.2.1
      · rw [List.getD_eq_getElem?_getD, List.getElem?_eq_none (by omega), List.getD_eq_getElem?_getD, List.getElem?_eq_none (by have := h.len; omega)]
    · have hf2 : (hadL c (2 ^ r) c.sum).getD s false = false := hf
      unfold hadL at hf2
      rw [List.getD_eq_getElem?_getD, List.getElem?_map, List.getElem?_range hs] at hf2
      simp only [Option.map_some, Option.getD_some, decide_eq_false_iff_not] at hf2
      have := (h.get s).1
      by_cases e2 : c.getD s 0 = 0
      · rw [e2] at hf2; simp at hf2
      · omega
  | m + 1, hm => by
    obtain ⟨h1, h2, h3, h4, h5, h6, h7⟩ := give_way h m (by omega)
    have hen := h.enough
    obtain ⟨st, hst⟩ : ∃ st, st = giveIt (restL c (2 ^ r) c.sum) m (q0L c (2 ^ r) c.sum, hadL c (2 ^ r) c.sum) := ⟨_, rfl⟩
    simp only [giveIt]
    rw [← hst] at h1 h2 h3 h4 h5 h6 h7 ⊢
    have hM : (m : Int) + 1 ≤ 2 ^ r - (q0L c (2 ^ r) c.sum).sum := by unfold giveM at hm; omega
    obtain ⟨s0, hs0, hf0⟩ := free_exists h2 (by omega)
    have hn0 := needN_some (restL c (2 ^ r) c.sum) st.2 hf0 256 hs0
    have hnl := needN_lt (restL c (2 ^ r) c.sum) st.2 256
    obtain ⟨t, ht⟩ : ∃ t : Nat, needN (restL c (2 ^ r) c.sum) st.2 256 = t := ⟨_, (Int.toNat_of_nonneg hn0).symm⟩
    rw [ht] at hnl ⊢
    have htf := hnl.2.2 (by omega)
    rw [Int.toNat_natCast] at htf ⊢
    have ht256 : t < 256 := by omega
    have hct := h7 t ht256 htf
    have hg := h3 t
    refine ⟨by rw [List.length_set]; exact h1, by rw [List.length_set]; exact h2, fun s => ?_, fun s => ?_, ?_, ?_, fun s hs hf => ?_⟩
    · rw [getD_set _ _ _ _ (by omega)]
      have := h3 s
      split <;> omega
    · rw [getD_set _ _ _ _ (by omega)]
      by_cases e : s = t
      · subst e; rw [if_pos rfl]; exact ⟨fun _ => hct, fun _ => by omega⟩
      · rw [if_neg e]; exact h4 s
    · rw [sum_set _ _ _ (by omega), h5]; omega
    · have := free_set (had := st.2) (s := t) (by omega) htf; omega
    · refine h7 s hs ?_
      by_cases e : s = t
      · subst e; exact htf
      · rw [List.getD_eq_getElem?_getD, List.getElem?_set_ne (fun x => e x.symm), ← List.getD_eq_getElem?_getD] at hf; exact hf
theorem sum_le_pos {q : List Int} (h : ∀ x ∈ q, 0 ≤ x ∧ x ≤ 1) : q.sum ≤ (q.countP (fun x => decide (0 < x)) : Nat) := by
  induction q with
  | nil => simp
  | cons a l ih =>
    have := ih (fun x hx => h x (by simp [hx]))
    have ha := h a (by simp)
    rw [List.sum_cons, List.countP_cons]
    by_cases e : 0 < a
    · simp [e]; omega
    · simp [e]; omega
theorem pos_same {c q : List Int} (hc : c.length = 256) (hq : q.length = 256) (h : ∀ s, 0 < q.getD s 0 ↔ 0 < c.getD s 0) : q.countP (fun x => decide (0 < x)) = c.countP (fun x => decide (0 < x)) := by
  have e : ∀ l : List Int, l.length = 256 → l.countP (fun x => decide (0 < x)) = (List.range 256).countP (fun s => decide (0 < l.getD s 0)) := by
    intro l hl
    have := mapR_self hl
    conv => lhs; rw [← this]
    unfold mapR
    rw [List.countP_map]; rfl
  rw [e q hq, e c hc]
  exact List.countP_congr (fun s _ => by simp only [decide_eq_true_eq]; exact h s)
theorem take_way {c : List Int} {r : Nat} (h : Can c r) {q : List Int} (hq : Way c q) : ∀ m, m ≤ (q.sum - 2 ^ r).toNat →
    Way c (takeIt c m q) ∧ (takeIt c m q).sum = q.sum - m
  | 0, _ => ⟨hq, by simp [takeIt]⟩
  | m + 1, hm => by
    obtain ⟨h1, h2⟩ := take_way h hq m (by omega)
    simp only [takeIt]
    obtain ⟨t, ht⟩ : ∃ t, t = takeIt c m q := ⟨_, rfl⟩
    rw [← ht] at h1 h2 ⊢
    obtain ⟨b, hb⟩ : ∃ b, b = richN t c 256 := ⟨_, rfl⟩
    have hbl := richN_lt t c 256
    have hmax := richN_max t c 256
    rw [← hb] at hbl hmax ⊢
    have hlen := h1.len
    have hbig : 2 ≤ t.getD b 0 := by
      by_cases e : 2 ≤ t.getD b 0
      · exact e
      · exfalso
        have hle : t.sum ≤ (t.countP (fun x => decide (0 < x)) : Nat) := sum_le_pos (fun x hx => by
          obtain ⟨s, hs, rfl⟩ := List.getElem_of_mem hx
          have a := hmax s (by omega); have a2 := h1.rng s
          rw [List.getD_eq_getElem?_getD, List.getElem?_eq_getElem hs, Option.getD_some] at a a2
          omega)
        rw [pos_same h.len hlen h1.iff] at hle
        have hmny := h.many
        have e2 : (2 : Int) ^ r = ((2 ^ r : Nat) : Int) := by simp
        have hmI : (m : Int) + 1 ≤ q.sum - 2 ^ r := by omega
        rw [e2] at hmI; omega
    have hrb := h1.rng b
    have hib := h1.iff b
    refine ⟨⟨by rw [List.length_set]; exact hlen, fun s => ?_, fun s => ?_⟩, ?_⟩
    · rw [getD_set _ _ _ _ (by omega)]
      have := h1.rng s
      split <;> omega
    · rw [getD_set _ _ _ _ (by omega)]
      by_cases e : s = b
      · subst e; rw [if_pos rfl]; exact ⟨fun _ => hib.1 (by omega), fun _ => by omega⟩
      · rw [if_neg e]; exact h1.iff s
    · rw [sum_set _ _ _ (by omega), h2]; omega
theorem give_end {c : List Int} {r : Nat} (h : Can c r) : Way c (giveIt (restL c (2 ^ r) c.sum) (giveM c (2 ^ r) c.sum) (q0L c (2 ^ r) c.sum, hadL c (2 ^ r) c.sum)).1 ∧ 2 ^ r ≤ (giveIt (restL c (2 ^ r) c.sum) (giveM c (2 ^ r) c.sum) (q0L c (2 ^ r) c.sum, hadL c (2 ^ r) c.sum)).1.sum := by
  obtain ⟨h1, h2, h3, h4, h5, h6, h7⟩ := give_way h _ (Nat.le_refl _)
  have h0 : 0 ≤ (q0L c (2 ^ r) c.sum).sum := sum_nonneg (fun x hx => by
    obtain ⟨v, hv, rfl⟩ := mapR_mem hx; exact (h.q0 v).1)
  have hp := pow_le12 h.r12
  have hM : giveM c (2 ^ r) c.sum ≤ 4096 := by unfold giveM; omega
  refine ⟨⟨h1, fun s => ⟨(h3 s).1, by have := (h3 s).2; omega⟩, h4⟩, ?_⟩
  rw [h5]; unfold giveM; omega
/-- the normalized counts -/
theorem norm_ok {c : List Int} {r : Nat} (h : Can c r) : Good (normL c r) ∧ (normL c r).sum = 2 ^ r ∧ ∀ s, 0 < (normL c r).getD s 0 ↔ 0 < c.getD s 0 := by
  obtain ⟨hw, hs⟩ := give_end h
  obtain ⟨h1, h2⟩ := take_way h hw _ (Nat.le_refl _)
  have hp := pow_le12 h.r12
  have e : normL c r = takeIt c ((giveIt (restL c (2 ^ r) c.sum) (giveM c (2 ^ r) c.sum) (q0L c (2 ^ r) c.sum, hadL c (2 ^ r) c.sum)).1.sum - 2 ^ r).toNat (giveIt (restL c (2 ^ r) c.sum) (giveM c (2 ^ r) c.sum) (q0L c (2 ^ r) c.sum, hadL c (2 ^ r) c.sum)).1 := rfl
  rw [← e] at h1 h2
  have hsum : (normL c r).sum = 2 ^ r := by rw [h2]; omega
  refine ⟨⟨h1.len, fun x hx => ?_, by omega⟩, hsum, h1.iff⟩
  obtain ⟨s, hs, rfl⟩ := List.getElem_of_mem hx
  have := h1.rng s
  rw [List.getD_eq_getElem?_getD, List.getElem?_eq_getElem hs] at this; exact this.1
theorem norm_log {c : List Int} {r : Nat} (h : Can c r) : logC (normL c r) = r := by
  obtain ⟨h1, h2, _⟩ := norm_ok h
  have hp := pow_le12 h.r12
  have hr : rightC (normL c r) = true := rightC_iff.2 ⟨h1.len, h1.nonneg, by omega⟩
  unfold logC totalC
  rw [if_pos hr, h2]
  exact logT_found h.r1 h.r12 rfl
end Go.Proofs.YtdkemdcflbadhaaGreat
namespace Go.Proofs.YtdkemdcflbadhaaGreat
open Go.RowKit Go.Proofs.YtdkemdcflbadhaaGreatW.PrintWords Go.Proofs.YtdkemdcflbadhaaGreatW.PrintLast Go.Proofs.YtdkemdcflbadhaaGreatW.PrintMore
theorem hist_sum (b : List Int) (hb : Bytes b) : (histL b).sum = b.length := by
  induction b with
  | nil =>
    unfold histL mapR
    have : ∀ l : List Nat, (l.map (fun (v : Nat) => (((([] : List Int).count (v : Int)) : Nat) : Int))).sum = 0 := by
      intro l; induction l with
      | nil => rfl
      | cons a l ih => rw [List.map_cons, List.sum_cons, ih]; simp
    exact this _
  | cons x l ih =>
    have hx := hb x (by simp)
    have ih2 := ih (fun y hy => hb y (by simp [hy]))
    obtain ⟨v, rfl⟩ : ∃ v : Nat, x = v := ⟨x.toNat, by omega⟩
    have e : histL ((v : Int) :: l) = (histL l).set v ((l.count (v : Int) : Int) + 1) := by
      unfold histL
      rw [mapR_set _ (by omega)]
      refine mapR_congr (fun u _ => ?_)
      rw [List.count_cons]
      by_cases e : u = v
      · subst e; rw [if_pos rfl]; simp
      · rw [if_neg e]
        have : ¬ (v : Int) = (u : Int) := by omega
        simp [this]
    rw [e, sum_set _ _ _ (by unfold histL; rw [mapR_len]; omega), histL_get _ (by omega), ih2, List.length_cons]
    omega
theorem hist_pos (b : List Int) {s : Nat} (hs : s < 256) : 0 < (histL b).getD s 0 ↔ (s : Int) ∈ b := by
  rw [histL_get _ hs, ← List.count_pos_iff]; omega
theorem ceil_ok (m : Nat) (h : m ≤ 256) : ceilI m ≤ 8 ∧ m ≤ 2 ^ ceilI m := by
  unfold ceilI widthI
  rcases Nat.lt_or_ge m 2 with h2 | h2
  · rw [show ((m : Int) - 1).toNat = 0 by omega]
    exact ⟨by decide, by have : Lib.bitLen 0 = 0 := by decide
                         rw [this]; omega⟩
  · obtain ⟨y, hy⟩ : ∃ y, y = m - 1 := ⟨_, rfl⟩
    rw [show ((m : Int) - 1).toNat = y by omega]
    obtain ⟨a, b, c⟩ := bitLen_pow y (by omega) (by omega)
    have := Lib.bitLen_le8' (y : Int) (by omega) (by omega)
    rw [Int.toNat_natCast] at this
    exact ⟨this, by omega⟩
theorem pick_ok (n m : Nat) (most : Nat) (h : m ≤ 256) (h8 : 8 ≤ most) (h12 : most ≤ 12) : ∃ r : Nat, pickI n m most = r ∧ 5 ≤ r ∧ r ≤ most ∧ m ≤ 2 ^ r := by
  obtain ⟨c1, c2⟩ := ceil_ok m h
  have hr : 5 ≤ pickI n m most ∧ pickI n m most ≤ most ∧ (ceilI m : Int) ≤ pickI n m most := by
    unfold pickI mx mn
    split <;> (split <;> (split <;> omega))
  refine ⟨(pickI n m most).toNat, by omega, by omega, by omega, ?_⟩
  have : 2 ^ ceilI m ≤ 2 ^ (pickI n m most).toNat := Nat.pow_le_pow_right (by omega) (by omega)
  omega
theorem manyC_of {c : List Int} (h : rightC c = true) : manyC c = c.countP (fun x => decide (0 < x)) := by unfold manyC; rw [if_pos h]
theorem hist_right (b : List Int) (hb : Bytes b) (hl : b.length ≤ 1000000) : rightC (histL b) = true :=
  rightC_iff.2 ⟨mapR_len _, fun x hx => by obtain ⟨v, _, rfl⟩ := mapR_mem hx; omega, by rw [hist_sum b hb]; omega⟩
theorem hist_can {b : List Int} {r : Nat} (hb : Bytes b) (hl : b.length ≤ 1000000) (h0 : 0 < b.length) (h1 : 1 ≤ r) (h12 : r ≤ 12) (hm : manyC (histL b) ≤ 2 ^ r) : Can (histL b) r :=
  ⟨mapR_len _, fun x hx => by obtain ⟨v, _, rfl⟩ := mapR_mem hx; omega, by rw [hist_sum b hb]; omega, by rw [hist_sum b hb]; omega, h1, h12, by rw [← manyC_of (hist_right b hb hl)]; exact hm⟩
/-- the log and the list of all bytes -/
def zeroR (b : List Int) : Nat := (pickI b.length (manyC (histL b)) 11).toNat
def zeroQ (b : List Int) : List Int := normL (histL b) (zeroR b)
theorem zeroR_ok (b : List Int) : pickI b.length (manyC (histL b)) 11 = (zeroR b : Int) ∧ 5 ≤ zeroR b ∧ zeroR b ≤ 11 ∧ manyC (histL b) ≤ 2 ^ zeroR b := by
  obtain ⟨r, h1, h2, h3, h4⟩ := pick_ok b.length (manyC (histL b)) 11 (manyC_le _) (by omega) (by omega)
  have e : zeroR b = r := by unfold zeroR; rw [show ((11 : Nat) : Int) = 11 from rfl] at h1; rw [h1]; simp
  rw [e]; exact ⟨h1, h2, h3, h4⟩
theorem bad_not {lg : Int} {q : List Int} (h : logC q ≠ 0) (h2 : (logC q : Int) = lg) : badQ lg q = false := by
  unfold badQ; exact decide_eq_false (fun x => x.2 ⟨h, h2⟩)
theorem bad_nil (lg : Int) : badQ lg [] = false := by unfold badQ; exact decide_eq_false (fun x => by simp at x)
theorem zero_can {b : List Int} (hb : Bytes b) (hl : b.length ≤ 1000000) (h0 : 0 < b.length) : Can (histL b) (zeroR b) := by
  have := zeroR_ok b
  exact hist_can hb hl h0 (by omega) (by omega) this.2.2.2
theorem zero_right {b : List Int} (hb : Bytes b) (hl : b.length ≤ 1000000) (h0 : 0 < b.length) : rightM (zeroR b) true [zeroQ b] = true := by
  have hc := zero_can hb hl h0
  have hz := zeroR_ok b
  have hlog := norm_log hc
  have hlen := (norm_ok hc).1.len
  unfold rightM
  rw [if_neg (by omega), if_neg (by
    simp only [List.any_cons, List.any_nil, Bool.or_false]
    rw [bad_not (q := zeroQ b) (by unfold zeroQ; omega) (by unfold zeroQ; rw [hlog])]; decide)]
  rw [if_pos rfl, decide_eq_true_eq]
  have h0 : 0 < (normL (histL b) (zeroR b)).length := by omega
  refine ⟨List.length_singleton, ?_⟩
  rw [List.getD_cons_zero]; unfold zeroQ; exact h0
theorem zero_fits {b : List Int} (hb : Bytes b) (hl : b.length ≤ 1000000) (h0 : 0 < b.length) : fitsM (zeroR b) true [zeroQ b] b = true := by
  have hc := zero_can hb hl h0
  have hn := norm_ok hc
  unfold fitsM
  rw [zero_right hb hl h0, Bool.true_and, List.all_eq_true]
  intro i hi
  have hi' := List.mem_range.1 hi
  have hg := hb.get i
  obtain ⟨x, hx⟩ : ∃ x : Nat, b.getD i 0 = x := ⟨(b.getD i 0).toNat, by omega⟩
  unfold fitAt
  rw [decide_eq_true_eq]
  have e0 : ([zeroQ b].getD (listI true (ctxI b i)) []) = normL (histL b) (zeroR b) := by unfold listI; rw [if_pos rfl, List.getD_cons_zero]; rfl
  rw [e0]
  refine ⟨by have := hn.1.len; omega, ?_⟩
  rw [hx, Int.toNat_natCast]
  have h1 := (hn.2.2 x).2 ((hist_pos b (by omega)).2 (by rw [← hx]; exact getD_mem hi'))
  omega
/-- the log and the lists by contexts -/
def firstR (b : List Int) : Nat := (pickI b.length (widN b 256) 9).toNat
def firstQ (b : List Int) (c : Nat) : List Int := if 0 < (pickedL b (c : Int)).length then normL (histL (pickedL b (c : Int))) (firstR b) else []
def firstL (b : List Int) : List (List Int) := (List.range 256).map (firstQ b)
theorem firstR_ok (b : List Int) : pickI b.length (widN b 256) 9 = (firstR b : Int) ∧ 5 ≤ firstR b ∧ firstR b ≤ 9 ∧ widN b 256 ≤ 2 ^ firstR b := by
  obtain ⟨r, h1, h2, h3, h4⟩ := pick_ok b.length (widN b 256) 9 (widN_le b _) (by omega) (by omega)
  have e : firstR b = r := by unfold firstR; rw [show ((9 : Nat) : Int) = 9 from rfl] at h1; rw [h1]; simp
  rw [e]; exact ⟨h1, h2, h3, h4⟩
theorem widN_ge (b : List Int) : ∀ k c, c < k → manyC (histL (pickedL b (c : Nat))) ≤ widN b k
  | 0, c, h => by omega
  | k + 1, c, h => by
    simp only [widN]
    by_cases e : c = k
    · subst e; omega
    · have := widN_ge b k c (by omega); omega
theorem picked_len (b : List Int) (c : Int) : (pickedL b c).length ≤ b.length := pkL_len b c b.length
theorem first_can {b : List Int} (hb : Bytes b) (hl : b.length ≤ 1000000) {c : Nat} (hc : c < 256) (h0 : 0 < (pickedL b (c : Int)).length) : Can (histL (pickedL b (c : Int))) (firstR b) := by
  have h1 := firstR_ok b
  have h2 := widN_ge b 256 c hc
  have h3 := picked_len b (c : Int)
  exact hist_can (pkL_bytes hb _ _) (by omega) h0 (by omega) (by omega) (by omega)
theorem firstL_len (b : List Int) : (firstL b).length = 256 := by simp [firstL]
theorem firstL_get (b : List Int) {c : Nat} (h : c < 256) : (firstL b).getD c [] = firstQ b c := by
  unfold firstL; rw [List.getD_eq_getElem?_getD, List.getElem?_map, List.getElem?_range h]; rfl
theorem first_right {b : List Int} (hb : Bytes b) (hl : b.length ≤ 1000000) : rightM (firstR b) false (firstL b) = true := by
  have hz := firstR_ok b
  unfold rightM
  rw [if_neg (by omega), if_neg]
  · rw [if_neg (by decide), decide_eq_true_eq]; exact firstL_len b
  · rw [Bool.not_eq_true, List.any_eq_false]
    intro q hq
    unfold firstL at hq
    obtain ⟨c, hc, rfl⟩ := List.mem_map.1 hq
    unfold firstQ
    split
    · rename_i h0
      have hlog := norm_log (first_can hb hl (List.mem_range.1 hc) h0)
      rw [bad_not (by omega) (by rw [hlog])]; decide
    · rw [bad_nil]; decide
theorem first_fits {b : List Int} (hb : Bytes b) (hl : b.length ≤ 1000000) : fitsM (firstR b) false (firstL b) b = true := by
  unfold fitsM
  rw [first_right hb hl, Bool.true_and, List.all_eq_true]
  intro i hi
  have hi' := List.mem_range.1 hi
  have hg := hb.get i
  have hcr := ctx_range hb i hi'
  obtain ⟨x, hx⟩ : ∃ x : Nat, b.getD i 0 = x := ⟨(b.getD i 0).toNat, by omega⟩
  obtain ⟨c, hc⟩ : ∃ c : Nat, ctxI b i = c := ⟨(ctxI b i).toNat, by omega⟩
  have hmem : b.getD i 0 ∈ pickedL b (c : Int) := by
    unfold pickedL pkL
    exact List.mem_map.2 ⟨i, List.mem_filter.2 ⟨hi, by rw [decide_eq_true_eq]; exact hc⟩, rfl⟩
  have hpos : 0 < (pickedL b (c : Int)).length := List.length_pos_of_mem hmem
  have hcan := first_can hb hl (c := c) (by omega) hpos
  have hn := norm_ok hcan
  have e : (firstL b).getD (listI false (ctxI b i)) [] = normL (histL (pickedL b (c : Int))) (firstR b) := by
    rw [hc]
    show (firstL b).getD ((c : Int)).toNat [] = _
    rw [Int.toNat_natCast, firstL_get b (by omega)]
    unfold firstQ; rw [if_pos hpos]
  unfold fitAt
  rw [decide_eq_true_eq, e]
  refine ⟨by have := hn.1.len; omega, ?_⟩
  rw [hx, Int.toNat_natCast]
  have h1 := (hn.2.2 x).2 ((hist_pos _ (by omega)).2 (by rw [← hx]; exact hmem))
  omega
end Go.Proofs.YtdkemdcflbadhaaGreat
namespace Go.Proofs.YtdkemdcflbadhaaGreat
open Go.RowKit Go.IntWalk Go.Proofs.YtdkemdcflbadhaaGreat.PRef Go.Proofs.YtdkemdcflbadhaaGreatW.PrintWords Go.Proofs.YtdkemdcflbadhaaGreatW.PrintLast Go.Proofs.YtdkemdcflbadhaaGreatW.PrintMore
section
variable (A : Option Addr) (cp : Nat) (c : List Int) (w : World)
theorem rLog_any (hr : (Kd.int .i64).C w A c.length c) (hc : c.length ≤ cp) : Calls Tryz.prog 118 #[.slice A c.length cp] w (Ret (.int .i64 (logC c)) w) := by
  obtain ⟨k, hk⟩ := (refLog_eq c).rounds
  exact (puncheonref08_Log.calls k A cp c _ w hr hc hk).mono fun e w' h => ⟨h.1, h.2.below⟩
end
/-- a row that is made -/
def MadeI (xs : List Int) (w : World) (e : Ending) (w' : World) : Prop := ∃ v, e = .returned v ∧ (Kd.int .i64).R 3 w' w.heap.size (fun _ => True) v xs ∧ Below w.heap.size w w'
section
variable (A : Option Addr) (cp : Nat) (b : List Int) (w : World) (hr : (Kd.int .u8).C w A b.length b) (hc : b.length ≤ cp) (hb : Bytes b) (hl : b.length ≤ 1000000)
include hr hc hb hl
theorem rAt_any (i : Int) : Calls Tryz.prog 86 #[.slice A b.length cp, .int .i64 i] w (Ret (.int .i64 (ctxI b i)) w) :=
  puncheonref06_At.calls A cp b i _ w hr hc (refAt_eq b hb hl i)
end
theorem made_i64 (n : Nat) (hn : n ≤ 1000000) (w : World) : (Instr.makeSlice 39 (.int .i64 n) (.int .i64 n)).run Tryz.prog w = .ok (.slice (some ⟨w.heap.size, 0, none⟩) n n) (w.alloc (.cells (madeCells #[.int .i64 0] n) 3)) := by
  obtain ⟨i0, hi, hzz⟩ := Option.map_eq_some_iff.1 infoInt
  simp only [Prod.mk.injEq] at hzz
  obtain ⟨hz0, hz1, hz2⟩ := hzz
  have hr := run_make (P := Tryz.prog) w 39 3 i0 (.int .i64 0) Tryz.underlying39 hi hz0 .i64 .i64 (n : Int) (n : Int) (by omega) (by omega) (by rw [hz2]; omega) (by omega)
  rw [hz1] at hr
  simpa [Value.cells] using hr
end Go.Proofs.YtdkemdcflbadhaaGreat
namespace Go.Proofs.YtdkemdcflbadhaaGreat
open Go.RowKit Go.IntWalk Go.Proofs.YtdkemdcflbadhaaGreatW.PrintWords
/-- a bool's cell -/
theorem bools_cells {e : TypeId} {W : World} {base : Nat} {ok : Nat → Prop} {g n cap : Nat} {xs : List Bool} (h : Kd.bool.R e W base ok (.slice (some ⟨g, 0, none⟩) n cap) xs) (i : Nat) (hi : i < n) :
    W.cell? ⟨g, i, none⟩ = some (.bool (xs.getD i false)) ∧ W.frozen? ⟨g, i, none⟩ = false := by
  obtain ⟨c, hl, hm, hc, hf⟩ := Kd.R_elem h false (i : Int) (by omega) (by omega)
  have hm' : c = [.bool (xs.getD (i : Int).toNat false)] := hm
  subst hm'
  simp only [Int.toNat_natCast] at hc hf
  have e1 : i * Kd.bool.sz + 0 = i := by show i * 1 + 0 = i; omega
  have h1 := hc 0 _ rfl
  have h2 := hf 0
  rw [e1] at h1 h2
  exact ⟨h1, h2⟩
/-- three rows of the call's own, side by side -/
structure Three (N : Nat) (w0 : World) (q r : List Int) (h : List Bool) (w : World) : Prop where
  q : (Kd.int .i64).R 3 w N (fun b => b = N) (.slice (some ⟨N, 0, none⟩) 256 256) q
  r : (Kd.int .i64).R 3 w N (fun b => b = N + 1) (.slice (some ⟨N + 1, 0, none⟩) 256 256) r
  h : Kd.bool.R 4 w N (fun b => b = N + 2) (.slice (some ⟨N + 2, 0, none⟩) 256 256) h
  below : Below N w0 w
theorem Three.later {N : Nat} {w0 w w' : World} {q r : List Int} {h : List Bool} (H : Three N w0 q r h w) (hb : Below w.heap.size w w') : Three N w0 q r h w' :=
  ⟨Kd.R_below H.q hb, Kd.R_below H.r hb, Kd.R_below H.h hb, H.below.trans (hb.mono (by have := (Kd.R_bound H.q).1 N rfl; omega))⟩
theorem Three.cells {N : Nat} {w0 w : World} {q r : List Int} {h : List Bool} (H : Three N w0 q r h w) (k : Nat) (hk : k < 256) :
    (w.cell? ⟨N, k, none⟩ = some (.int .i64 (q.getD k 0)) ∧ w.frozen? ⟨N, k, none⟩ = false) ∧ (w.cell? ⟨N + 1, k, none⟩ = some (.int .i64 (r.getD k 0)) ∧ w.frozen? ⟨N + 1, k, none⟩ = false) ∧ (w.cell? ⟨N + 1 + 1, k, none⟩ = some (.bool (h.getD k false)) ∧ w.frozen? ⟨N + 1 + 1, k, none⟩ = false) :=
  ⟨ints_cells H.q k hk, ints_cells H.r k hk, bools_cells H.h k hk⟩
theorem Three.at_ {N : Nat} {w0 w ww : World} {q r : List Int} {h : List Bool} {A : Option Addr} {c : List Int} (H : Three N w0 q r h ww) (hr : (Kd.int .i64).C w A c.length c) (hb : Below w.heap.size w w0) (hN : w0.heap.size = N) : (Kd.int .i64).C ww A c.length c :=
  Kd.C_below hr (hb.trans (H.below.mono (by have := hb.size; omega)))
/-- the rows behind the first k symbols -/
def qTo (c : List Int) (P n : Int) (k : Nat) : List Int := mapR (fun s => if s < k then q0F c P n s else 0)
def rTo (c : List Int) (P n : Int) (k : Nat) : List Int := mapR (fun s => if s < k then c.getD s 0 * P % n else 0)
def hTo (c : List Int) (P n : Int) (k : Nat) : List Bool := (List.range 256).map (fun s => if s < k then decide (c.getD s 0 * P / n = 0) else false)
theorem to_zero (c : List Int) (P n : Int) : qTo c P n 0 = List.replicate 256 0 ∧ rTo c P n 0 = List.replicate 256 0 ∧ hTo c P n 0 = List.replicate 256 false := by
  have e : ∀ {α : Type} (z : α) (f : Nat → α), (∀ s, f s = z) → (List.range 256).map f = List.replicate 256 z := fun z f h => by
    rw [show f = fun _ => z from funext h, List.map_const', List.length_range]
  exact ⟨e 0 (fun s => if s < 0 then q0F c P n s else 0) (fun s => by rw [if_neg (by omega)]), e 0 (fun s => if s < 0 then c.getD s 0 * P % n else 0) (fun s => by rw [if_neg (by omega)]), e false (fun s => if s < 0 then decide (c.getD s 0 * P / n = 0) else false) (fun s => by rw [if_neg (by omega)])⟩
theorem to_all (c : List Int) (P n : Int) : qTo c P n 256 = q0L c P n ∧ rTo c P n 256 = restL c P n ∧ hTo c P n 256 = hadL c P n :=
  ⟨mapR_congr (fun s h => by rw [if_pos h]), mapR_congr (fun s h => by rw [if_pos h]), List.map_congr_left (fun s h => by rw [if_pos (List.mem_range.1 h)])⟩
theorem mapR_to (f : Nat → Int) {k : Nat} (hk : k < 256) : (mapR (fun s => if s < k then f s else 0)).set k (f k) = mapR (fun s => if s < k + 1 then f s else 0) := by
  rw [mapR_set _ hk]
  refine mapR_congr (fun s _ => ?_)
  by_cases e : s = k
  · subst e; rw [if_pos rfl, if_pos (by omega)]
  · rw [if_neg e]
    by_cases e2 : s < k
    · rw [if_pos e2, if_pos (by omega)]
    · rw [if_neg e2, if_neg (by omega)]
theorem set_set_same (q : List Int) (k : Nat) (x y : Int) : (q.set k x).set k y = q.set k y := by simp
def CountsPost (c : List Int) (r : Nat) (w : World) (e : Ending) (w' : World) : Prop := ∃ v, e = .returned (.tuple #[v, .int .i64 0]) ∧ (Kd.int .i64).R 3 w' w.heap.size (fun _ => True) v (normL c r) ∧ Below w.heap.size w w'
end Go.Proofs.YtdkemdcflbadhaaGreat
namespace Go.Proofs.YtdkemdcflbadhaaGreat
open Go.RowKit Go.IntWalk Go.Proofs.YtdkemdcflbadhaaGreatW.PrintWords
/-- a model that is made -/
def MadeM (lg : Int) (one : Bool) (qs : List (List Int)) (w : World) (e : Ending) (w' : World) : Prop := ∃ v, e = .returned (.agg #[.int .i64 lg, .bool one, v]) ∧ kq.R 39 w' w.heap.size (fun _ => True) v qs ∧ Below w.heap.size w w'
theorem cell3 {w : World} {mb : Nat} {a b c : Value} {t : Nat} (h : w.heap[mb]? = some (.cells #[a, b, c] t (0, 0))) : (w.cell? ⟨mb, 0, none⟩ = some a ∧ w.cell? ⟨mb, 1, none⟩ = some b ∧ w.cell? ⟨mb, 2, none⟩ = some c) ∧ (w.frozen? ⟨mb, 0, none⟩ = false ∧ w.frozen? ⟨mb, 1, none⟩ = false ∧ w.frozen? ⟨mb, 2, none⟩ = false) :=
  ⟨⟨(blk_cell h 0).trans rfl, (blk_cell h 1).trans rfl, (blk_cell h 2).trans rfl⟩, blk_frozen h 0, blk_frozen h 1, blk_frozen h 2⟩
theorem sizeModel : (Tryz.prog.info? 31).map (·.size) = some 3 := by kernel_rfl
end Go.Proofs.YtdkemdcflbadhaaGreat
namespace Go.Proofs.YtdkemdcflbadhaaGreat
open Go.RowKit Go.IntWalk Go.Proofs.YtdkemdcflbadhaaGreatW.PrintWords
theorem infoInts : (Tryz.prog.info? 39).map (fun i => (i.zero, i.size, i.bytes)) = some (some (.slice none 0 0), 1, 24) := by kernel_rfl
theorem made_ints (n : Nat) (hn : n ≤ 1000000) (w : World) : (Instr.makeSlice 29 (.int .i64 n) (.int .i64 n)).run Tryz.prog w = .ok (.slice (some ⟨w.heap.size, 0, none⟩) n n) (w.alloc (.cells (madeCells #[.slice none 0 0] n) 39)) := by
  obtain ⟨i0, hi, hzz⟩ := Option.map_eq_some_iff.1 infoInts
  simp only [Prod.mk.injEq] at hzz
  obtain ⟨hz0, hz1, hz2⟩ := hzz
  have hr := run_make (P := Tryz.prog) w 29 39 i0 (.slice none 0 0) Tryz.underlying29 hi hz0 .i64 .i64 (n : Int) (n : Int) (by omega) (by omega) (by rw [hz2]; omega) (by omega)
  rw [hz1] at hr
  simpa [Value.cells] using hr
theorem below_al {w w' : World} (h : Below w.heap.size w w') (o : Obj) : Below w.heap.size w (w'.alloc o) := h.alloc h.size o
theorem below_tr {w w1 w2 : World} (h : Below w.heap.size w w1) (k : Below w1.heap.size w1 w2) : Below w.heap.size w w2 := h.trans (k.mono h.size)
theorem kq_madeN (n : Nat) (hn : n ≤ 1000000) (W : World) (mb base : Nat) (hne : W.heap.size ≠ mb) (hb : base ≤ W.heap.size) : kq.R 39 (W.alloc (.cells (madeCells #[.slice none 0 0] n) 39)) base (fun k => k ≠ mb) (.slice (some ⟨W.heap.size, 0, none⟩) n n) (List.replicate n []) := by
  have hr := Kd.reps_made (R := kq.M (W.alloc (.cells (madeCells #[.slice none 0 0] n) 39)) base (fun k => k ≠ mb ∧ some k ≠ (Value.slice (some ⟨W.heap.size, 0, none⟩) n n).ownBlock)) (z := .slice none 0 0) (size := 1) (z0 := ([] : List Int)) rfl Nat.one_pos ⟨.slice none 0 0, rfl, Kd.R_nil _ _ _ _ _⟩ n
  have e : (Value.slice none 0 0).cells = #[.slice none 0 0] := rfl
  rw [e, Nat.mul_one] at hr
  refine ⟨fun k hk => by cases hk; exact hne, _, ⟨?_, .inr ⟨W.heap.size, n, madeCells #[.slice none 0 0] n, by simp, hb, blk_new W _, by simp, by unfold maxLen; omega, ?_, ?_⟩⟩, hr⟩
  · simp [size_madeCells]; exact (Nat.mul_one n).symm
  · rw [size_madeCells]; exact (Nat.mul_one n).symm
  · rw [List.length_replicate]; exact List.take_of_length_le (by simp [size_madeCells]; exact Nat.le_of_eq (Nat.mul_one n).symm)
theorem kq_made (W : World) (mb base : Nat) (hne : W.heap.size ≠ mb) (hb : base ≤ W.heap.size) : kq.R 39 (W.alloc (.cells (madeCells #[.slice none 0 0] 256) 39)) base (fun k => k ≠ mb) (.slice (some ⟨W.heap.size, 0, none⟩) 256 256) (List.replicate 256 []) := kq_madeN 256 (by omega) W mb base hne hb
theorem kq_made1 (W : World) (o : Obj) (mb base : Nat) (hne : W.heap.size + 1 ≠ mb) (hb : base ≤ W.heap.size + 1) : kq.R 39 ((W.alloc o).alloc (.cells (madeCells #[.slice none 0 0] 256) 39)) base (fun k => k ≠ mb) (.slice (some ⟨W.heap.size + 1, 0, none⟩) 256 256) (List.replicate 256 []) := by
  have e : (W.alloc o).heap.size = W.heap.size + 1 := by simp
  have := kq_made (W.alloc o) mb base (by rw [e]; exact hne) (by rw [e]; exact hb)
  rw [e] at this; exact this
theorem blk_new1 (W : World) (a o : Obj) : ((W.alloc a).alloc o).heap[W.heap.size + 1]? = some o := by
  have := blk_new (W.alloc a) o
  rw [show (W.alloc a).heap.size = W.heap.size + 1 by simp] at this; exact this
theorem blk_set3 {w : World} {mb : Nat} {t : Nat} {a b c : Value} (h : w.heap[mb]? = some (.cells #[a, b, c] t (0, 0))) (x y z : Value) : (((w.setCell ⟨mb, 0, none⟩ x).setCell ⟨mb, 1, none⟩ y).setCell ⟨mb, 2, none⟩ z).heap[mb]? = some (.cells #[x, y, z] t (0, 0)) := by
  rw [blk_set (blk_set (blk_set h 0 _) 1 _) 2]; rfl
theorem R_far3 {α : Type} {d : Kd α} {e : Nat} {w : World} {base mb : Nat} {v : Value} {xs : List α} (h : d.R e w base (fun k => k ≠ mb) v xs) (x y z : Value) : d.R e (((w.setCell ⟨mb, 0, none⟩ x).setCell ⟨mb, 1, none⟩ y).setCell ⟨mb, 2, none⟩ z) base (fun k => k ≠ mb) v xs :=
  Kd.R_far (p := ⟨mb, 2, none⟩) (Kd.R_far (p := ⟨mb, 1, none⟩) (Kd.R_far (p := ⟨mb, 0, none⟩) h (fun _ hk => hk) x) (fun _ hk => hk) y) (fun _ hk => hk) z
theorem blk_dr {w : World} {g : Nat} {o : Obj} (h : w.heap[g]? = some o) : w.drew.heap[g]? = some o := h
/-- a list is put into a row of lists -/
theorem kq_put {e : TypeId} {W : World} {base g n cap : Nat} {ok okp : Nat → Prop} {xs : List (List Int)} {v : Value} {x : List Int} (h : kq.R e W base ok (.slice (some ⟨g, 0, none⟩) n cap) xs) (i : Nat) (hi : i < n) (hq : (Kd.int .i64).R 3 W base okp v x) (hokp : ∀ k, okp k → ok k ∧ k ≠ g) :
    kq.R e (W.setCell ⟨g, i, none⟩ v) base ok (.slice (some ⟨g, 0, none⟩) n cap) (xs.set i x) := by
  obtain ⟨c, hcl, _, hcc, _⟩ := Kd.R_elem h [] (i : Int) (by omega) (by omega)
  have hs : kq.sz = 1 := rfl
  have := (Kd.R_seg h (i : Int) (by omega) (by omega) (seg := [v]) (j := 0) (x' := x) (okp := okp) hcl hcc (by rw [hs]; simp) ⟨v, by rw [List.drop_of_length_le (by rw [hcl, hs]; simp)]; simp, hq⟩ hokp).1
  simp only [Int.toNat_natCast, hs, Nat.mul_one, Nat.add_zero] at this
  exact this
def firstTo (b : List Int) (i : Nat) : List (List Int) := (List.range 256).map (fun (c : Nat) => if (c : Int) ∈ (presN b 256).take i then firstQ b c else [])
theorem presN_get (b : List Int) {i : Nat} (h : i < (presN b 256).length) : ∃ c : Nat, (presN b 256).getD i 0 = c ∧ c < 256 ∧ 0 < (pickedL b (c : Int)).length := by
  have hm := getD_mem h
  obtain ⟨z, hz⟩ : ∃ z, z = (presN b 256).getD i 0 := ⟨_, rfl⟩
  rw [← hz] at hm ⊢
  unfold presN at hm
  obtain ⟨c, hc, rfl⟩ := List.mem_map.1 hm
  obtain ⟨h1, h2⟩ := List.mem_filter.1 hc
  exact ⟨c, rfl, List.mem_range.1 h1, by simpa using h2⟩
theorem firstTo_zero (b : List Int) : firstTo b 0 = List.replicate 256 [] := by
  unfold firstTo
  rw [← List.length_range (n := 256), ← List.map_const', List.length_range]
  exact List.map_congr_left (fun c _ => by rw [if_neg (by simp)])
theorem firstTo_succ (b : List Int) {i c : Nat} (h : i < (presN b 256).length) (hc : (presN b 256).getD i 0 = (c : Int)) : (firstTo b i).set c (firstQ b c) = firstTo b (i + 1) := by
  have e : (presN b 256).take (i + 1) = (presN b 256).take i ++ [(c : Int)] := by
    rw [List.take_succ_eq_append_getElem h, ← hc, List.getD_eq_getElem?_getD, List.getElem?_eq_getElem h]; rfl
  unfold firstTo
  apply List.ext_getElem
  · simp
  · intro k h1 h2
    rw [List.getElem_set]
    simp only [List.getElem_map, List.getElem_range, e, List.mem_append, List.mem_singleton]
    by_cases hk : c = k
    · subst hk; rw [if_pos rfl, if_pos (.inr rfl)]
    · rw [if_neg hk]
      by_cases h3 : (k : Int) ∈ (presN b 256).take i
      · rw [if_pos h3, if_pos (.inl h3)]
      · rw [if_neg h3, if_neg (fun x => x.elim h3 (fun y => by omega))]
theorem firstTo_all (b : List Int) : firstTo b (presN b 256).length = firstL b := by
  unfold firstTo firstL
  refine List.map_congr_left (fun c hc => ?_)
  rw [List.take_length]
  by_cases h : (c : Int) ∈ presN b 256
  · rw [if_pos h]
  · rw [if_neg h]
    unfold firstQ
    rw [if_neg (fun h2 => h ?_)]
    unfold presN
    exact List.mem_map.2 ⟨c, List.mem_filter.2 ⟨hc, by simpa using h2⟩, rfl⟩
def StartM (lg : Int) (w : World) (s3 : Value) (wx : World) : Prop := ∃ mb g : Nat, s3 = .pointer (some ⟨mb, 0, none⟩) ∧ w.heap.size ≤ mb ∧ w.heap.size ≤ g ∧ mb ≠ g ∧ wx.heap[mb]? = some (.cells #[.int .i64 lg, .bool false, .slice (some ⟨g, 0, none⟩) 256 256] 31 (0, 0)) ∧
  kq.R 39 wx w.heap.size (fun k => k ≠ mb) (.slice (some ⟨g, 0, none⟩) 256 256) (List.replicate 256 []) ∧ Below w.heap.size w wx
theorem kq_cell {e : TypeId} {W : World} {base g n cap : Nat} {ok : Nat → Prop} {xs : List (List Int)} (h : kq.R e W base ok (.slice (some ⟨g, 0, none⟩) n cap) xs) (i : Nat) (hi : i < n) : (∃ u, W.cell? ⟨g, i, none⟩ = some u) ∧ W.frozen? ⟨g, i, none⟩ = false := by
  obtain ⟨c, hcl, hm, hcc, hf⟩ := Kd.R_elem h [] (i : Int) (by omega) (by omega)
  obtain ⟨v, rfl, _⟩ := hm
  have h1 := hcc 0 v rfl
  have h2 := hf 0
  have hs : kq.sz = 1 := rfl
  simp only [Int.toNat_natCast, hs, Nat.mul_one, Nat.add_zero] at h1 h2
  exact ⟨⟨v, h1⟩, h2⟩
theorem start_mk {lg : Int} {W1 wx : World} {mb : Nat} (g : Nat) (hd : wx.heap[mb]? = some (.cells #[.int .i64 lg, .bool false, .slice (some ⟨g, 0, none⟩) 256 256] 31 (0, 0))) (he : kq.R 39 wx W1.heap.size (fun k => k ≠ mb) (.slice (some ⟨g, 0, none⟩) 256 256) (List.replicate 256 [])) (hf : Below W1.heap.size W1 wx) (h1 : W1.heap.size ≤ mb) (h2 : W1.heap.size ≤ g) (h3 : mb ≠ g) : StartM lg W1 (.pointer (some ⟨mb, 0, none⟩)) wx := ⟨mb, g, rfl, h1, h2, h3, hd, he, hf⟩
end Go.Proofs.YtdkemdcflbadhaaGreat
namespace Go.Proofs.YtdkemdcflbadhaaGreat
open Go.RowKit
/-- a directory's bits -/
def dirB (l : List Int) : List Bool := (List.range 256).map (fun (c : Nat) => decide ((c : Int) ∈ l))
def dirL (l : List Int) : List Int := packB (dirB l)
theorem dirB_len (l : List Int) : (dirB l).length = 256 := by simp [dirB]
theorem dirL_len (l : List Int) : (dirL l).length = 32 := by unfold dirL; rw [packB_len, dirB_len]
/-- the bits that are 1, among the first k -/
def onesN (ps : List Int) (k : Nat) : List Int := ((List.range k).filter (fun (c : Nat) => decide (bitI ps c = 1))).map (fun (c : Nat) => (c : Int))
theorem onesN_succ (ps : List Int) (k : Nat) : onesN ps (k + 1) = if bitI ps k = 1 then onesN ps k ++ [(k : Int)] else onesN ps k := by
  unfold onesN; rw [List.range_succ, List.filter_append, List.map_append]
  by_cases h : bitI ps k = 1
  · rw [if_pos h]; congr 1; simp only [List.filter_cons, List.filter_nil, h, decide_true]; rfl
  · rw [if_neg h]; simp only [List.filter_cons, List.filter_nil, h, decide_false]; simp
theorem onesN_len (ps : List Int) (k : Nat) : (onesN ps k).length ≤ k := by
  unfold onesN; rw [List.length_map]; exact Nat.le_trans (List.length_filter_le _ _) (by simp)
theorem onesN_mem {ps : List Int} {k : Nat} {x : Int} (h : x ∈ onesN ps k) : ∃ c : Nat, x = c ∧ c < k ∧ bitI ps c = 1 := by
  unfold onesN at h
  obtain ⟨c, hc, rfl⟩ := List.mem_map.1 h
  obtain ⟨h1, h2⟩ := List.mem_filter.1 hc
  exact ⟨c, rfl, List.mem_range.1 h1, of_decide_eq_true h2⟩
/-- a directory's contexts: an error's number, and what they are -/
def dirT (ps : List Int) : Int × List Int := if ps.length < 32 then (3, []) else if (onesN ps 256).getD 0 1 ≠ 0 then (13, []) else (0, onesN ps 256)
/-- the headers of contexts -/
def hdrsB (r : Nat) (qs : List (List Int)) : List Int → List Bool
  | [] => []
  | c :: l => hdrB (qs.getD c.toNat []) 257 0 (2 ^ r) ++ hdrsB r qs l
/-- headers are read: an error's number, the lists, and where the next bit is -/
def hdrsT (ps : List Int) (r : Nat) : List Int → List (List Int) → Nat → Int × List (List Int) × Nat
  | [], qs, at_ => (0, qs, at_)
  | c :: l, qs, at_ => if (hdrT ps (8 * ps.length) 257 zeros256 0 (2 ^ r) false at_).1 ≠ 0 then ((hdrT ps (8 * ps.length) 257 zeros256 0 (2 ^ r) false at_).1, qs, at_) else
    hdrsT ps r l (qs.set c.toNat (hdrT ps (8 * ps.length) 257 zeros256 0 (2 ^ r) false at_).2.1) (hdrT ps (8 * ps.length) 257 zeros256 0 (2 ^ r) false at_).2.2
def none256 : List (List Int) := List.replicate 256 []
/-- a body by contexts, parted: an error's number, the log, the lists, the payload -/
def split1M (ps : List Int) : Int × Nat × List (List Int) × List Int :=
  if ps.length = 0 then (3, 0, [], []) else if (ps.getD 0 0).toNat < 5 ∨ 9 < (ps.getD 0 0).toNat then (13, 0, [], []) else
  if (dirT (ps.drop 1)).1 ≠ 0 then ((dirT (ps.drop 1)).1, 0, [], []) else
  if (hdrsT (ps.drop 33) (ps.getD 0 0).toNat (dirT (ps.drop 1)).2 none256 0).1 ≠ 0 then ((hdrsT (ps.drop 33) (ps.getD 0 0).toNat (dirT (ps.drop 1)).2 none256 0).1, 0, [], []) else
  if (hdrsT (ps.drop 33) (ps.getD 0 0).toNat (dirT (ps.drop 1)).2 none256 0).2.2 % 8 ≠ 0 ∧ ((ps.drop 33).getD ((hdrsT (ps.drop 33) (ps.getD 0 0).toNat (dirT (ps.drop 1)).2 none256 0).2.2 / 8) 0).toNat / 2 ^ ((hdrsT (ps.drop 33) (ps.getD 0 0).toNat (dirT (ps.drop 1)).2 none256 0).2.2 % 8) ≠ 0 then (4, 0, [], []) else
  (0, (ps.getD 0 0).toNat, (hdrsT (ps.drop 33) (ps.getD 0 0).toNat (dirT (ps.drop 1)).2 none256 0).2.1, (ps.drop 33).drop (((hdrsT (ps.drop 33) (ps.getD 0 0).toNat (dirT (ps.drop 1)).2 none256 0).2.2 + 7) / 8))
/-- a body by contexts -/
def body1L (b : List Int) : List Int := [(firstR b : Int)] ++ dirL (presN b 256) ++ packB (hdrsB (firstR b) (firstL b) (presN b 256)) ++ packB (encBits (firstR b : Nat) false (firstL b) b ++ [true])
theorem pres_mem (b : List Int) (c : Nat) (hc : c < 256) : (c : Int) ∈ presN b 256 ↔ 0 < (pickedL b (c : Int)).length := by
  unfold presN
  constructor
  · intro h
    obtain ⟨d, hd, e⟩ := List.mem_map.1 h
    obtain ⟨_, h2⟩ := List.mem_filter.1 hd
    have : d = c := by omega
    subst this; exact of_decide_eq_true h2
  · intro h
    exact List.mem_map.2 ⟨c, List.mem_filter.2 ⟨List.mem_range.2 hc, by simpa using h⟩, rfl⟩
theorem ones_dir (l p : List Int) : ∀ k, k ≤ 256 → onesN (dirL l ++ p) k = ((List.range k).filter (fun (c : Nat) => decide ((c : Int) ∈ l))).map (fun (c : Nat) => (c : Int)) := by
  intro k hk
  unfold onesN
  congr 1
  refine List.filter_congr (fun c hc => ?_)
  have hc' := List.mem_range.1 hc
  have h1 := bitsAt_pack (dirB l) p c (by rw [dirB_len]; omega)
  rw [Nat.zero_add] at h1
  have h1' : bitI (dirL l ++ p) c = ((dirB l).getD c false).toNat := h1
  rw [h1']
  have h2 : (dirB l).getD c false = decide ((c : Int) ∈ l) := by
    rw [List.getD_eq_getElem?_getD, List.getElem?_eq_getElem (by rw [dirB_len]; omega), Option.getD_some]
    simp [dirB]
  rw [h2]
  by_cases h : (c : Int) ∈ l
  · rw [decide_eq_true h]; rfl
  · rw [decide_eq_false h]; rfl
theorem pres_first {b : List Int} (h0 : 0 < b.length) : (presN b 256).getD 0 1 = 0 := by
  have h1 : (0 : Int) ∈ presN b 256 := (pres_mem b 0 (by omega)).2 (by
    refine List.length_pos_iff_exists_mem.2 ⟨b.getD 0 0, ?_⟩
    unfold pickedL pkL
    exact List.mem_map.2 ⟨0, List.mem_filter.2 ⟨List.mem_range.2 h0, decide_eq_true (ctx_zero b h0)⟩, rfl⟩)
  have h2 : presN b 256 = ((List.range 256).filter (fun (c : Nat) => decide (0 < (pickedL b (c : Int)).length))).map (fun (c : Nat) => (c : Int)) := rfl
  have h3 : 0 < (pickedL b ((0 : Nat) : Int)).length := (pres_mem b 0 (by omega)).1 h1
  have h4 : List.range 256 = 0 :: (List.range 255).map Nat.succ := List.range_succ_eq_map
  rw [h2, h4, List.filter_cons, if_pos (by simpa using h3)]
  rfl
theorem dir_back {b p : List Int} (h0 : 0 < b.length) : dirT (dirL (presN b 256) ++ p) = (0, presN b 256) := by
  have h1 : onesN (dirL (presN b 256) ++ p) 256 = presN b 256 := by
    rw [ones_dir _ _ _ (Nat.le_refl _)]
    have h2 : presN b 256 = ((List.range 256).filter (fun (c : Nat) => decide (0 < (pickedL b (c : Int)).length))).map (fun (c : Nat) => (c : Int)) := rfl
    conv => rhs; rw [h2]
    congr 1
    refine List.filter_congr (fun c hc => ?_)
    have := pres_mem b c (List.mem_range.1 hc)
    by_cases h : 0 < (pickedL b (c : Int)).length
    · rw [decide_eq_true h, decide_eq_true (this.2 h)]
    · rw [decide_eq_false h, decide_eq_false (fun x => h (this.1 x))]
  unfold dirT
  rw [if_neg (by rw [List.length_append, dirL_len]; omega), h1, if_neg (fun h => h (pres_first h0))]
theorem firstQ_nrm {b : List Int} (hb : Bytes b) (hl : b.length ≤ 1000000) {c : Nat} (hc : c < 256) (h0 : 0 < (pickedL b (c : Int)).length) : (firstQ b c).length = 256 ∧ (∀ x ∈ firstQ b c, 0 ≤ x) ∧ (firstQ b c).sum = 2 ^ firstR b := by
  have h := norm_ok (first_can hb hl hc h0)
  unfold firstQ; rw [if_pos h0]
  exact ⟨h.1.len, h.1.nonneg, h.2.1⟩
/-- one header in the midst of bits -/
theorem hdr_at {ps q : List Int} {r at_ : Nat} (hr : r ≤ 12) (hq : q.length = 256) (hn : ∀ x ∈ q, 0 ≤ x) (hs : q.sum = 2 ^ r) (hb : BitsAt ps at_ (hdrB q 257 0 (2 ^ r))) (hl : at_ + (hdrB q 257 0 (2 ^ r)).length ≤ 8 * ps.length) : hdrT ps (8 * ps.length) 257 zeros256 0 (2 ^ r) false at_ = (0, q, at_ + (hdrB q 257 0 (2 ^ r)).length) := by
  have hp12 : 2 ^ r ≤ 2 ^ 12 := Nat.pow_le_pow_right (by omega) hr
  have e2 : (2 : Int) ^ r = ((2 ^ r : Nat) : Int) := by simp
  refine hdr_back hq hn 257 0 (2 ^ r) at_ zeros256 false (by omega) (by omega) (by rw [List.drop_zero, hs, e2]) (by omega) (fun h => by cases h) (by unfold zeros256; exact List.length_replicate) (fun k hk => by omega) (fun k _ => ?_) hb hl
  unfold zeros256; rw [List.getD_eq_getElem?_getD, List.getElem?_replicate]; split <;> rfl
theorem hdrs_back {b ps : List Int} (hb : Bytes b) (hl : b.length ≤ 1000000) : ∀ (d i at_ : Nat), i + d = (presN b 256).length → BitsAt ps at_ (hdrsB (firstR b) (firstL b) ((presN b 256).drop i)) → at_ + (hdrsB (firstR b) (firstL b) ((presN b 256).drop i)).length ≤ 8 * ps.length →
    hdrsT ps (firstR b) ((presN b 256).drop i) (firstTo b i) at_ = (0, firstL b, at_ + (hdrsB (firstR b) (firstL b) ((presN b 256).drop i)).length) := by
  intro d
  induction d with
  | zero =>
    intro i at_ hi _ _
    rw [List.drop_of_length_le (by omega), show i = (presN b 256).length by omega]
    simp only [hdrsT, hdrsB, List.length_nil, Nat.add_zero]
    rw [firstTo_all]
  | succ d ih =>
    intro i at_ hi hB hL
    have hlt : i < (presN b 256).length := by omega
    obtain ⟨c, hc, hc256, hpk⟩ := presN_get b hlt
    have hr := firstR_ok b
    have hd : (presN b 256).drop i = (c : Int) :: (presN b 256).drop (i + 1) := by rw [drop_cons _ _ hlt, hc]
    have hq : (firstL b).getD c [] = firstQ b c := firstL_get b hc256
    obtain ⟨n1, n2, n3⟩ := firstQ_nrm hb hl hc256 hpk
    rw [hd] at hB hL ⊢
    simp only [hdrsB, Int.toNat_natCast, hq] at hB hL ⊢
    rw [List.length_append] at hL ⊢
    have hh := hdr_at (by omega) n1 n2 n3 hB.left (by omega)
    simp only [hdrsT, hh]
    rw [if_neg (fun h => h rfl), Int.toNat_natCast, firstTo_succ b hlt hc]
    have := ih (i + 1) (at_ + (hdrB (firstQ b c) 257 0 (2 ^ firstR b)).length) (by omega) hB.right (by omega)
    rw [this, Nat.add_assoc]
theorem split1_enc {b : List Int} (hb : Bytes b) (hl : b.length ≤ 1000000) (h0 : 0 < b.length) : split1M (body1L b) = (0, firstR b, firstL b, packB (encBits (firstR b : Nat) false (firstL b) b ++ [true])) := by
  obtain ⟨p, hp⟩ : ∃ p, p = packB (encBits (firstR b : Nat) false (firstL b) b ++ [true]) := ⟨_, rfl⟩
  obtain ⟨X, hX⟩ : ∃ X, X = hdrsB (firstR b) (firstL b) (presN b 256) := ⟨_, rfl⟩
  have e1 : body1L b = (firstR b : Int) :: (dirL (presN b 256) ++ (packB X ++ p)) := by
    unfold body1L; rw [← hp, ← hX]; simp
  have hr := firstR_ok b
  have e2 : (body1L b).getD 0 0 = firstR b := by rw [e1]; rfl
  have e3 : (body1L b).drop 1 = dirL (presN b 256) ++ (packB X ++ p) := by rw [e1]; rfl
  have e4 : (body1L b).drop 33 = packB X ++ p := by
    rw [show 33 = 1 + 32 from rfl, ← List.drop_drop, e3, List.drop_append_of_le_length (by rw [dirL_len]; exact Nat.le_refl _), List.drop_of_length_le (by rw [dirL_len]; exact Nat.le_refl _), List.nil_append]
  have hh := hdrs_back (ps := packB X ++ p) hb hl (presN b 256).length 0 0 (by omega) (by rw [List.drop_zero, ← hX]; exact bitsAt_pack X p) (by rw [List.drop_zero, ← hX, List.length_append, packB_len]; omega)
  rw [List.drop_zero, firstTo_zero, ← hX, Nat.zero_add] at hh
  unfold split1M
  rw [if_neg (by rw [e1]; simp), e2, Int.toNat_natCast, if_neg (by omega), e3, dir_back h0, e4]
  dsimp only
  rw [if_neg (fun h => h rfl)]
  unfold none256
  rw [hh]
  dsimp only
  rw [if_neg (fun h => h rfl), if_neg (fun h => h.2 (pad_zero _ p h.1))]
  rw [List.drop_append_of_le_length (by rw [packB_len]; exact Nat.le_refl _), List.drop_of_length_le (by rw [packB_len]; exact Nat.le_refl _), List.nil_append, ← hp]
/-- what a body by contexts tells -/
def dec1M (ps : List Int) (n : Int) : Int × List Int := if (split1M ps).1 ≠ 0 then ((split1M ps).1, []) else decM ((split1M ps).2.1 : Nat) false (split1M ps).2.2.1 (split1M ps).2.2.2 n
end Go.Proofs.YtdkemdcflbadhaaGreat
namespace Go.Proofs.YtdkemdcflbadhaaGreat
open Go.RowKit Go.IntWalk Go.Proofs.YtdkemdcflbadhaaGreatW.PrintWords
attribute [local go_sem] Oper.semAt_some
/-- range: (Go.Operand.tmp 11) #[12] -/
def tkAssign : Code := (Code.region 5 #[{ dst := some 5, op := Op.assign (Operand.tmp 12), type := 3, pos := "dir.go:52", after := #[], guard := none }] false)
def tkBody : Code := (Code.block 1 (((Code.region 6 #[{ dst := some 13, op := Op.load 39 (Operand.tmp 4), type := 39, pos := "dir.go:53", after := #[], guard := none }, { dst := some 14, op := Op.call { callee := Callee.builtin Builtin.len, args := #[Operand.tmp 13], argTypes := #[39] }, type := 3, pos := "dir.go:53", after := #[{ on := 0, ground := Ground.data }], guard := none }, { dst := some 15, op := Op.binOp BinOp.eql 3 (Operand.tmp 14) (Operand.const (Value.int IntKind.i64 0)) 3, type := 4, pos := "dir.go:53", after := #[{ on := 1, ground := Ground.data }], guard := none }, { dst := some 16, op := Op.move (Operand.tmp 15), type := 4, pos := "dir.go:53", after := #[{ on := 2, ground := Ground.data }], guard := none }, { dst := some 17, op := Op.move (Operand.tmp 5), type := 3, pos := "dir.go:53", after := #[{ on := 3, ground := Ground.guard }], guard := some (3, true) }, { dst := some 18, op := Op.binOp BinOp.neq 3 (Operand.tmp 17) (Operand.const (Value.int IntKind.i64 0)) 3, type := 4, pos := "dir.go:53", after := #[{ on := 4, ground := Ground.data }, { on := 3, ground := Ground.guard }], guard := some (3, true) }, { dst := some 19, op := Op.pick (Operand.tmp 16) (Operand.tmp 18) (Operand.const (Value.bool false)), type := 4, pos := "dir.go:53", after := #[{ on := 3, ground := Ground.data }, { on := 5, ground := Ground.data }], guard := none }] false).seq (Code.cond (Operand.tmp 19) ((Code.region 7 #[{ dst := none, op := Op.store 39 (Operand.tmp 2) (Operand.const (Value.slice none 0 0)), type := 0, pos := "dir.go:54", after := #[], guard := none }, { dst := none, op := Op.store 24 (Operand.tmp 3) (Operand.const (Value.int IntKind.i64 13)), type := 0, pos := "dir.go:54", after := #[{ on := 0, ground := Ground.chain }, { on := 0, ground := Ground.phase }], guard := none }] false).seq Code.ret) Code.skip)).seq (Code.region 8 #[{ dst := some 20, op := Op.load 39 (Operand.tmp 4), type := 39, pos := "dir.go:56", after := #[], guard := none }, { dst := some 21, op := Op.move (Operand.tmp 5), type := 3, pos := "dir.go:56", after := #[], guard := none }, { dst := some 22, op := Op.buildSlice 39 1 #[(0, Operand.tmp 21)], type := 39, pos := "dir.go:56", after := #[{ on := 1, ground := Ground.data }], guard := none }, { dst := some 23, op := Op.call { callee := Callee.builtin Builtin.append, args := #[Operand.tmp 20, Operand.tmp 22], argTypes := #[39, 39] }, type := 39, pos := "dir.go:56", after := #[{ on := 0, ground := Ground.data }, { on := 2, ground := Ground.data }], guard := none }, { dst := none, op := Op.store 39 (Operand.tmp 4) (Operand.tmp 23), type := 0, pos := "dir.go:56", after := #[{ on := 3, ground := Ground.data }, { on := 3, ground := Ground.chain }, { on := 0, ground := Ground.phase }, { on := 1, ground := Ground.phase }, { on := 2, ground := Ground.phase }, { on := 3, ground := Ground.phase }], guard := none }] false)))
/-- the loop's record -/
def tkRec (fn : FuncId) (tm : Array Value) (D : Nat) (st : LoopState) (pend : Option Code) : Loop := { state := st, pending := pend, fn, tmps := tm, params := #[12], assign := tkAssign, body := tkBody, defers := D }
/-- between two rounds -/
structure Tk (fn : FuncId) (tm : Array Value) (ob D l B0 p : Nat) (W1 : World) (ps out : List Int) (at_ : Nat) (W : World) : Prop where
  rd : RfAt W B0 p ps at_
  v : ∃ v, W.heap[ob]? = some (.cells #[v] 39 (0, 0)) ∧ W.ownsRow B0 3 1 v out.length (out.map (Value.int .i64)) ∧ (∀ k, v.ownBlock = some k → p < k)
  lp : W.heap[l]? = some (.loop (tkRec fn tm D .ready none))
  on : Only (fun k => k = ob ∨ k = l ∨ B0 ≤ k) W1 W
theorem own_slice {W : World} {B : Nat} {e : TypeId} {v : Value} {n : Nat} {xs : List Value} (h : W.ownsRow B e 1 v n xs) : ∃ A c, v = .slice A n c := by
  rcases h.2 with ⟨rfl, rfl⟩ | ⟨g, cap, cur, rfl, _⟩
  · exact ⟨_, _, rfl⟩
  · exact ⟨_, _, rfl⟩
theorem own_same {W W' : World} {B : Nat} {e : TypeId} {v : Value} {n : Nat} {xs : List Value} (h : W.ownsRow B e 1 v n xs) (hs : ∀ k, v.ownBlock = some k → W'.heap[k]? = W.heap[k]?) : W'.ownsRow B e 1 v n xs := by
  refine ⟨h.1, ?_⟩
  rcases h.2 with h | ⟨g, cap, cur, rfl, hb, hg, rest⟩
  · exact .inl h
  · exact .inr ⟨g, cap, cur, rfl, hb, (hs g rfl).trans hg, rest⟩
theorem RfAt.only {w w' : World} {base p : Nat} {ps : List Int} {at_ : Nat} {S : Nat → Prop} (h : RfAt w base p ps at_) (ho : Only S w w') (hp : ¬ S p) (hs : ∀ k, base ≤ k → k < p → ¬ S k) : RfAt w' base p ps at_ := by
  obtain ⟨A, c, h1, h2⟩ := h.ex
  have hb := fun k hk => (Kd.R_bound h2).1 k hk
  refine ⟨A, c, (ho.block p (blk_lt h1) hp).trans h1, Kd.R_mono (Kd.R_step (Kd.R_tight (d := Kd.int .u8) rfl h2) (fun k hk hlt => ho.block k hlt ?_)) (fun k hk => (hb k hk.symm).1)⟩
  have := hb k hk.symm
  exact hs k this.2.1 this.1
/-- the temporaries when the loop begins -/
def tkTm (A : Option Addr) (n c rb eb ob : Nat) (f v6 v7 v8 v9 v10 : Value) : Array Value := #[.slice A n c, undef, .pointer (some ⟨rb, 0, none⟩), .pointer (some ⟨eb, 0, none⟩), .pointer (some ⟨ob, 0, none⟩), undef, v6, v7, v8, v9, v10, f, undef, undef, undef, undef, undef, undef, undef, undef, undef, undef, undef, undef, undef, undef, undef, undef]
theorem Only.putObj {S : Nat → Prop} {a b : World} {l : Nat} (h : Only S a b) (hl : S l) (o : Obj) : Only S a (b.putObj l o) :=
  h.trans ⟨rfl, rfl, rfl, by simp, fun k _ hn => World.putObj_heap_other (fun e => hn (e ▸ hl))⟩
theorem Only.grown {S : Nat → Prop} {a b c : World} {row : Option Nat} (h : Only S a b) (hg : b.grownBy c row) (hs : ∀ k, row = some k → S k) : Only S a c := h.trans (Only.of_grown hg hs)
theorem tkEnd {fn : FuncId} {A : Option Addr} {n c rb eb ob D l B0 p : Nat} {f v6 v7 v8 v9 v10 : Value} {W1 W W2 w1 : World} {ps out : List Int} {at_ k : Nat} {lit : Obj} {Av : Option Addr} {cv g' cap' : Nat}
    (hp : B0 ≤ p) (hob : (Value.slice Av out.length cv).ownBlock = some ob → False) (ho : ob < l) (hl : l < B0) (hs2 : p < W2.heap.size) (h : Tk fn (tkTm A n c rb eb ob f v6 v7 v8 v9 v10) ob D l B0 p W1 ps out at_ W)
    (hlp2 : W2.heap[l]? = some (.loop { tkRec fn (tkTm A n c rb eb ob f v6 v7 v8 v9 v10) D .ready none with state := .busy })) (hon2 : Only (fun k => k = ob ∨ k = l ∨ p < k) W W2)
    (hok : ∀ k, (Value.slice Av out.length cv).ownBlock = some k → p < k) (hv2 : W2.heap[ob]? = some (.cells #[.slice Av out.length cv] 39 (0, 0)))
    (hown' : w1.ownsRow B0 3 1 (.slice (some ⟨g', 0, none⟩) (out.length + 1) cap') (out.length + 1) (out.map (Value.int .i64) ++ [.int .i64 k])) (hgrow : (W2.alloc lit).grownBy w1 (Value.slice Av out.length cv).ownBlock)
    (hat : (Value.slice (some ⟨g', 0, none⟩) (out.length + 1) cap').ownBlock = (Value.slice Av out.length cv).ownBlock ∨ (Value.slice (some ⟨g', 0, none⟩) (out.length + 1) cap').ownBlock = some (W2.alloc lit).heap.size) :
    ∃ v w', (Instr.endRound l none).run Tryz.prog (w1.setCell ⟨ob, 0, none⟩ (.slice (some ⟨g', 0, none⟩) (out.length + 1) cap')) = .ok v w' ∧ (Ending.returned v = .returned (.bool true) ∧ Tk fn (tkTm A n c rb eb ob f v6 v7 v8 v9 v10) ob D l B0 p W1 ps (out ++ [(k : Int)]) at_ w' ∧ p < w'.heap.size) := by
  have hg : p < g' := by
    rcases hat with e | e
    · exact hok g' (by rw [← e]; rfl)
    · have : g' = (W2.alloc lit).heap.size := by injection e
      rw [this]; simp; omega
  obtain ⟨W3, hW3⟩ : ∃ W3, W3 = w1.setCell ⟨ob, 0, none⟩ (.slice (some ⟨g', 0, none⟩) (out.length + 1) cap') := ⟨_, rfl⟩
  have hon1 : Only (fun k => k = ob ∨ k = l ∨ p < k) W w1 := (hon2.alloc lit).grown hgrow (fun k hk => .inr (.inr (hok k hk)))
  have hon3 : Only (fun k => k = ob ∨ k = l ∨ p < k) W W3 := by rw [hW3]; exact hon1.setCell (p := ⟨ob, 0, none⟩) (.inl rfl) _
  have hv1 : w1.heap[ob]? = some (.cells #[.slice Av out.length cv] 39 (0, 0)) := blk_grown (blk_alloc hv2 _) hgrow (fun e => hob e.symm)
  have hv3 : W3.heap[ob]? = some (.cells #[.slice (some ⟨g', 0, none⟩) (out.length + 1) cap'] 39 (0, 0)) := by rw [hW3]; exact (blk_set hv1 0 _).trans rfl
  have hl1 : w1.heap[l]? = some (.loop { tkRec fn (tkTm A n c rb eb ob f v6 v7 v8 v9 v10) D .ready none with state := .busy }) := blk_grown (blk_alloc hlp2 _) hgrow (fun e => by have := hok l e.symm; omega)
  have hl3 : W3.heap[l]? = some (.loop { tkRec fn (tkTm A n c rb eb ob f v6 v7 v8 v9 v10) D .ready none with state := .busy }) := by rw [hW3]; exact (Below.heap_setCell _ ⟨ob, 0, none⟩ _ l (by show l ≠ ob; omega)).trans hl1
  have hown3 : W3.ownsRow B0 3 1 (.slice (some ⟨g', 0, none⟩) (out.length + 1) cap') (out.length + 1) (out.map (Value.int .i64) ++ [.int .i64 k]) := own_same hown' (fun j hj => by
    have : j = g' := by injection hj with e; exact e.symm
    rw [hW3]; exact Below.heap_setCell _ ⟨ob, 0, none⟩ _ j (by show j ≠ ob; omega))
  have hs3 : p < W3.heap.size := by
    have h1 := hgrow.size
    have h2 : W3.heap.size = w1.heap.size := by rw [hW3]; simp [World.setCell]
    simp at h1; omega
  have hsl := blk_lt hl3
  rw [← hW3]
  clear hW3
  refine ⟨_, _, run_endRound none hl3, rfl, ?_, by simpa using hs3⟩
  have hon4 : Only (fun k => k = ob ∨ k = l ∨ p < k) W (W3.putObj l (.loop { tkRec fn (tkTm A n c rb eb ob f v6 v7 v8 v9 v10) D .ready none with state := if (none : Option Code).isNone then .ready else .done, pending := none })) := hon3.putObj (.inr (.inl rfl)) _
  refine ⟨h.rd.only hon4 (fun h => by omega) (fun k hB hk h => by omega), ⟨_, (World.putObj_heap_other (by omega)).trans hv3, ?_, fun j hj => ?_⟩, World.putObj_heap_same hsl, h.on.trans2 hon4 (fun k _ h => by omega)⟩
  · rw [List.length_append, List.map_append]
    exact own_same hown3 (fun j hj => by
      have : j = g' := by injection hj with e; exact e.symm
      exact World.putObj_heap_other (by omega))
  · have : j = g' := by injection hj with e; exact e.symm
    omega
set_option maxRecDepth 100000 in
set_option maxHeartbeats 2000000 in
theorem tkRound (m : Nat) (fn : FuncId) (A : Option Addr) (n c rb eb ob D l B0 p : Nat) (f v6 v7 v8 v9 v10 : Value) (W1 : World) (ps out : List Int) (at_ : Nat) (W : World) (h : Tk fn (tkTm A n c rb eb ob f v6 v7 v8 v9 v10) ob D l B0 p W1 ps out at_ W) (k : Nat) (hol : out.length ≤ 256) (hgo : ((out.length : Int) == 0) = false ∨ (k = 0 ∧ out = []))
    (ho : ob < l) (hl : l < B0) (hp : B0 ≤ p) (hW : p < W.heap.size) :
    RoundIn Fence.wide m Tryz.prog l fn #[.slice A n c, undef, .pointer (some ⟨rb, 0, none⟩), .pointer (some ⟨eb, 0, none⟩), .pointer (some ⟨ob, 0, none⟩), undef, v6, v7, v8, v9, v10, f, .int .i64 k, undef, undef, undef, undef, undef, undef, undef, undef, undef, undef, undef, undef, undef, undef, undef] tkAssign tkBody W
      fun e W' => e = .returned (.bool true) ∧ Tk fn (tkTm A n c rb eb ob f v6 v7 v8 v9 v10) ob D l B0 p W1 ps (out ++ [(k : Int)]) at_ W' ∧ p < W'.heap.size := by
  refine roundIn_of_wpIn trivial ?_
  have hll : l < W.heap.size := blk_lt h.lp
  have hbr := run_beginRound (P := Tryz.prog) h.lp rfl
  have hlp2 : (W.putObj l (.loop { tkRec fn (tkTm A n c rb eb ob f v6 v7 v8 v9 v10) D .ready none with state := .busy })).heap[l]? = some (.loop { tkRec fn (tkTm A n c rb eb ob f v6 v7 v8 v9 v10) D .ready none with state := .busy }) := World.putObj_heap_same hll
  have hon2 : Only (fun k => k = ob ∨ k = l ∨ p < k) W (W.putObj l (.loop { tkRec fn (tkTm A n c rb eb ob f v6 v7 v8 v9 v10) D .ready none with state := .busy })) := (Only.refl _ W).putObj (.inr (.inl rfl)) _
  obtain ⟨W2, hW2⟩ : ∃ W2, W.putObj l (.loop { tkRec fn (tkTm A n c rb eb ob f v6 v7 v8 v9 v10) D .ready none with state := .busy }) = W2 := ⟨_, rfl⟩
  rw [hW2] at hbr hlp2 hon2
  obtain ⟨v, hv, hown, hok⟩ := h.v
  obtain ⟨Av, cv, rfl⟩ := own_slice hown
  have hv2 : W2.heap[ob]? = some (.cells #[.slice Av out.length cv] 39 (0, 0)) := by rw [← hW2]; exact (World.putObj_heap_other (by omega)).trans hv
  have hown2 : W2.ownsRow B0 3 1 (.slice Av out.length cv) out.length (out.map (Value.int .i64)) := own_same hown (fun k hk => by rw [← hW2]; exact World.putObj_heap_other (by have := hok k hk; omega))
  have hs2 : p < W2.heap.size := by rw [← hW2]; simpa using hW
  have hc2 : W2.cell? ⟨ob, 0, none⟩ = some (.slice Av out.length cv) := (blk_cell hv2 0).trans rfl
  have hf2 : W2.frozen? ⟨ob, 0, none⟩ = false := blk_frozen hv2 0
  have HT := Lib.hid h
  have HF := Lib.hid (And.intro hv2 (And.intro hok (And.intro hlp2 hon2)))
  obtain ⟨i0, hi, hz0, hz1, hz2⟩ := info_parts infoInt
  clear hW2 h hv hown hlp2 hon2 hv2 hok
  unfold tkAssign
  gi_wp2
  clear hbr
  unfold tkBody
  rcases hgo with hgo | ⟨hgo, hgo2⟩
  · gi_wp2_with (gi_at_builtin; refine wpListIn_append_own_at _ rfl (.tmp 20) (.tmp 22) 39 rfl B0 3 i0 (.int .i64 0) 1 8 Tryz.underlying39 hi hz0 hz1 hz2 rfl (by decide) (.slice Av out.length cv) out.length (out.map (Value.int .i64)) rfl (hown2.alloc _) ⟨W2.heap.size, 0, none⟩ 1 1 [.int .i64 k] rfl rfl (cell_one_new _ _ _) (by simp [Value.oneCell']) (by unfold maxLen; omega) (by omega) (by simp; omega) ?_; intro v' w1 hown' hgrow _ hat; obtain ⟨g', cap', rfl⟩ := ownsRow_succ hown'; have HA := Lib.hid (And.intro hown' (And.intro hgrow hat)); have hv3 := blk_grown (blk_alloc HF.out.1 _) hgrow (fun e => by have := HF.out.2.1 _ e.symm; omega); have hc3 := (blk_cell hv3 0).trans rfl; have hf3 := blk_frozen hv3 0; clear hown' hgrow hat hv3)
    exact tkEnd hp (fun e => by have := HF.out.2.1 _ e; omega) ho hl hs2 HT.out HF.out.2.2.1 HF.out.2.2.2 (fun k hk => HF.out.2.1 k hk) HF.out.1 HA.out.1 HA.out.2.1 HA.out.2.2
  · subst hgo hgo2
    have hown2 : W2.ownsRow B0 3 1 (.slice Av 0 cv) 0 [] := hown2
    gi_wp2_with (gi_at_builtin; refine wpListIn_append_own_at _ rfl (.tmp 20) (.tmp 22) 39 rfl B0 3 i0 (.int .i64 0) 1 8 Tryz.underlying39 hi hz0 hz1 hz2 rfl (by decide) (.slice Av 0 cv) 0 [] rfl (hown2.alloc _) ⟨W2.heap.size, 0, none⟩ 1 1 [.int .i64 0] rfl rfl (cell_one_new _ _ _) (by simp [Value.oneCell']) (by unfold maxLen; omega) (by omega) (by simp; omega) ?_; intro v' w1 hown' hgrow _ hat; obtain ⟨g', cap', rfl⟩ := ownsRow_succ hown'; have HA := Lib.hid (And.intro hown' (And.intro hgrow hat)); have hv3 := blk_grown (blk_alloc HF.out.1 _) hgrow (fun e => by have := HF.out.2.1 _ e.symm; omega); have hc3 := (blk_cell hv3 0).trans rfl; have hf3 := blk_frozen hv3 0; clear hown' hgrow hat hv3)
    exact tkEnd hp (fun e => by have := HF.out.2.1 _ e; omega) ho hl hs2 HT.out HF.out.2.2.1 HF.out.2.2.2 (fun k hk => HF.out.2.1 k hk) HF.out.1 HA.out.1 HA.out.2.1 HA.out.2.2
/-- a round has ended the loop -/
structure TkX (fn : FuncId) (tm : Array Value) (rb eb ob D l B0 : Nat) (W1 : World) (W : World) : Prop where
  lp : W.heap[l]? = some (.loop (tkRec fn tm D .done (some .ret)))
  r0 : W.heap[rb]? = some (.cells #[.slice none 0 0] 39 (0, 0))
  r1 : W.heap[eb]? = some (.cells #[.int .i64 13] 24 (0, 0))
  on : Only (fun k => k = ob ∨ k = l ∨ k = rb ∨ k = eb ∨ B0 ≤ k) W1 W
set_option maxRecDepth 100000 in
set_option maxHeartbeats 2000000 in
theorem tkStop (m : Nat) (fn : FuncId) (A : Option Addr) (n c rb eb ob D l B0 p : Nat) (f v6 v7 v8 v9 v10 : Value) (W1 : World) (ps : List Int) (at_ : Nat) (W : World) (h : Tk fn (tkTm A n c rb eb ob f v6 v7 v8 v9 v10) ob D l B0 p W1 ps [] at_ W) (k : Nat) (hk : k ≠ 0)
    (hr : W1.heap[rb]? = some (.cells #[.slice none 0 0] 39 (0, 0))) (he : W1.heap[eb]? = some (.cells #[.int .i64 0] 24 (0, 0)))
    (h1 : rb < eb) (h2 : eb < ob) (ho : ob < l) (hl : l < B0) :
    RoundIn Fence.wide m Tryz.prog l fn #[.slice A n c, undef, .pointer (some ⟨rb, 0, none⟩), .pointer (some ⟨eb, 0, none⟩), .pointer (some ⟨ob, 0, none⟩), undef, v6, v7, v8, v9, v10, f, .int .i64 k, undef, undef, undef, undef, undef, undef, undef, undef, undef, undef, undef, undef, undef, undef, undef] tkAssign tkBody W
      fun e W' => e = .returned (.bool false) ∧ TkX fn (tkTm A n c rb eb ob f v6 v7 v8 v9 v10) rb eb ob D l B0 W1 W' := by
  refine roundIn_of_wpIn trivial ?_
  have hll : l < W.heap.size := blk_lt h.lp
  have hbr := run_beginRound (P := Tryz.prog) h.lp rfl
  have hlp2 : (W.putObj l (.loop { tkRec fn (tkTm A n c rb eb ob f v6 v7 v8 v9 v10) D .ready none with state := .busy })).heap[l]? = some (.loop { tkRec fn (tkTm A n c rb eb ob f v6 v7 v8 v9 v10) D .ready none with state := .busy }) := World.putObj_heap_same hll
  have hon2 : Only (fun k => k = ob ∨ k = l ∨ k = rb ∨ k = eb ∨ B0 ≤ k) W1 (W.putObj l (.loop { tkRec fn (tkTm A n c rb eb ob f v6 v7 v8 v9 v10) D .ready none with state := .busy })) := (h.on.mono (fun k _ hk => by omega)).putObj (.inr (.inl rfl)) _
  have hr0 : W.heap[rb]? = some (.cells #[.slice none 0 0] 39 (0, 0)) := (h.on.block rb (blk_lt hr) (by omega)).trans hr
  have he0 : W.heap[eb]? = some (.cells #[.int .i64 0] 24 (0, 0)) := (h.on.block eb (blk_lt he) (by omega)).trans he
  obtain ⟨W2, hW2⟩ : ∃ W2, W.putObj l (.loop { tkRec fn (tkTm A n c rb eb ob f v6 v7 v8 v9 v10) D .ready none with state := .busy }) = W2 := ⟨_, rfl⟩
  rw [hW2] at hbr hlp2 hon2
  obtain ⟨v, hv, hown, hok⟩ := h.v
  obtain ⟨Av, cv, rfl⟩ := own_slice hown
  have hv2 : W2.heap[ob]? = some (.cells #[.slice Av 0 cv] 39 (0, 0)) := by rw [← hW2]; exact (World.putObj_heap_other (by omega)).trans hv
  have hr2 : W2.heap[rb]? = some (.cells #[.slice none 0 0] 39 (0, 0)) := by rw [← hW2]; exact (World.putObj_heap_other (by omega)).trans hr0
  have he2 : W2.heap[eb]? = some (.cells #[.int .i64 0] 24 (0, 0)) := by rw [← hW2]; exact (World.putObj_heap_other (by omega)).trans he0
  have hc2 : W2.cell? ⟨ob, 0, none⟩ = some (.slice Av 0 cv) := (blk_cell hv2 0).trans rfl
  have hcr : W2.cell? ⟨rb, 0, none⟩ = some (.slice none 0 0) := (blk_cell hr2 0).trans rfl
  have hce : W2.cell? ⟨eb, 0, none⟩ = some (.int .i64 0) := (blk_cell he2 0).trans rfl
  have hfr : W2.frozen? ⟨rb, 0, none⟩ = false := blk_frozen hr2 0
  have hfe : W2.frozen? ⟨eb, 0, none⟩ = false := blk_frozen he2 0
  have HF := Lib.hid (And.intro hr2 (And.intro he2 (And.intro hlp2 hon2)))
  have hkz : ((k : Int) != 0) = true := by simpa using hk
  have hre : rb ≠ eb := by omega
  clear hW2 h hv hown hlp2 hon2 hv2 hok hr2 he2 hr0 he0 hr he
  unfold tkAssign
  gi_wp2
  clear hbr
  unfold tkBody
  gi_wp2
  have H3 : ((W2.setCell ⟨rb, 0, none⟩ (.slice none 0 0)).setCell ⟨eb, 0, none⟩ (.int .i64 13)).heap[l]? = some (.loop { tkRec fn (tkTm A n c rb eb ob f v6 v7 v8 v9 v10) D .ready none with state := .busy }) :=
    (Below.heap_setCell _ ⟨eb, 0, none⟩ _ l (by show l ≠ eb; omega)).trans ((Below.heap_setCell _ ⟨rb, 0, none⟩ _ l (by show l ≠ rb; omega)).trans HF.out.2.2.1)
  have H4 : ((W2.setCell ⟨rb, 0, none⟩ (.slice none 0 0)).setCell ⟨eb, 0, none⟩ (.int .i64 13)).heap[rb]? = some (.cells #[.slice none 0 0] 39 (0, 0)) :=
    (Below.heap_setCell _ ⟨eb, 0, none⟩ _ rb (by show rb ≠ eb; omega)).trans ((blk_set HF.out.1 0 _).trans rfl)
  have H5 : ((W2.setCell ⟨rb, 0, none⟩ (.slice none 0 0)).setCell ⟨eb, 0, none⟩ (.int .i64 13)).heap[eb]? = some (.cells #[.int .i64 13] 24 (0, 0)) :=
    (blk_set ((Below.heap_setCell _ ⟨rb, 0, none⟩ _ eb (by show eb ≠ rb; omega)).trans HF.out.2.1) 0 _).trans rfl
  exact ⟨_, _, run_endRound (some .ret) H3, rfl, World.putObj_heap_same (blk_lt H3), (World.putObj_heap_other (by omega)).trans H4, (World.putObj_heap_other (by omega)).trans H5,
    ((HF.out.2.2.2.setCell (p := ⟨rb, 0, none⟩) (.inr (.inr (.inl rfl))) _).setCell (p := ⟨eb, 0, none⟩) (.inr (.inr (.inr (.inl rfl)))) _).putObj (.inr (.inl rfl)) _⟩
end Go.Proofs.YtdkemdcflbadhaaGreat
namespace Go.Proofs.YtdkemdcflbadhaaGreat
open Go.RowKit Go.IntWalk Go.Proofs.YtdkemdcflbadhaaGreatW.PrintWords
attribute [local go_sem] Oper.semAt_some
theorem take_one (ps : List Int) (c : Nat) : takeF ps c 1 = bitI ps c := by
  rw [takeF_succ]
  have : takeF ps c 0 = 0 := rfl
  rw [this]; simp
theorem bitI_lt (ps : List Int) (c : Nat) : bitI ps c < 2 := by unfold bitI; omega
theorem ones_pre (ps : List Int) (k : Nat) : ∀ m, k ≤ m → onesN ps k ≠ [] → (onesN ps m).getD 0 1 = (onesN ps k).getD 0 1
  | 0, h, _ => by have : k = 0 := by omega
                  rw [this]
  | m + 1, h, hne => by
    by_cases e : k = m + 1
    · rw [e]
    · have ih := ones_pre ps k m (by omega) hne
      rw [onesN_succ]
      split
      · rw [← ih]
        cases hm : onesN ps m with
        | nil => 
          rw [hm] at ih
          cases hk : onesN ps k with
          | nil => exact absurd hk hne
          | cons x l =>
            exfalso
            have hx : x ∈ onesN ps k := by rw [hk]; exact List.mem_cons_self
            obtain ⟨c, rfl, h1, h2⟩ := onesN_mem hx
            have : (c : Int) ∈ onesN ps m := by
              unfold onesN
              exact List.mem_map.2 ⟨c, List.mem_filter.2 ⟨List.mem_range.2 (by omega), decide_eq_true h2⟩, rfl⟩
            rw [hm] at this; cases this
        | cons x l => rfl
      · exact ih
theorem Tk.taken {fn : FuncId} {tm : Array Value} {ob D l B0 p : Nat} {W1 W W' : World} {ps out : List Int} {at_ at' : Nat} (h : Tk fn tm ob D l B0 p W1 ps out at_ W) (hr : RfAt W' B0 p ps at') (ho : Only (fun k => k = p) W W') (h1 : ob < B0) (h2 : l < B0) (hp : B0 ≤ p) : Tk fn tm ob D l B0 p W1 ps out at' W' := by
  obtain ⟨v, hv, hown, hok⟩ := h.v
  refine ⟨hr, ⟨v, (ho.block ob (blk_lt hv) (by omega)).trans hv, own_same hown (fun k hk => ?_), hok⟩, (ho.block l (blk_lt h.lp) (by omega)).trans h.lp, h.on.trans2 ho (fun k _ hk => by omega)⟩
  have := hok k hk
  by_cases hlt : k < W.heap.size
  · exact ho.block k hlt (by omega)
  · rcases hown.2 with ⟨rfl, _⟩ | ⟨g, cap, cur, rfl, _, hg, _⟩
    · cases hk
    · have : g = k := by injection hk
      subst this
      exact absurd (blk_lt hg) hlt
/-- how dir.ones' function leaves -/
def OnesPost (fn : FuncId) (tm : Array Value) (rb eb ob D l B0 : Nat) (W1 : World) (ps : List Int) (e : Ending) (W' : World) : Prop :=
  (∃ v, e = .returned v) ∧ ((∃ p at_, B0 ≤ p ∧ Tk fn tm ob D l B0 p W1 ps (onesN ps 256) at_ W' ∧ (onesN ps 256 = [] ∨ (onesN ps 256).getD 0 1 = 0)) ∨ (TkX fn tm rb eb ob D l B0 W1 W' ∧ onesN ps 256 ≠ [] ∧ (onesN ps 256).getD 0 1 ≠ 0))
set_option maxRecDepth 100000 in
set_option maxHeartbeats 2000000 in
theorem ones1_in (m : Nat) (fn : FuncId) (A : Option Addr) (n c rb eb ob D l pb : Nat) (f v6 v7 v8 v9 v10 : Value) (W1 : World) (ad : Addr) (cs : Nat) (ps : List Int) (hlen : ps.length = 32) (hps : Bytes ps) (hcs : 32 ≤ cs)
    (hpb : W1.heap[pb]? = some (.cells #[.slice (some ad) 32 cs] 22 (0, 0))) (hC : (Kd.int .u8).C W1 (some ad) ps.length ps)
    (hlp : W1.heap[l]? = some (.loop (tkRec fn (tkTm A n c rb eb ob f v6 v7 v8 v9 v10) D .ready none))) (hv : W1.heap[ob]? = some (.cells #[.slice none 0 0] 39 (0, 0)))
    (hr : W1.heap[rb]? = some (.cells #[.slice none 0 0] 39 (0, 0))) (he : W1.heap[eb]? = some (.cells #[.int .i64 0] 24 (0, 0)))
    (h1 : rb < eb) (h2 : eb < ob) (ho : ob < l) :
    CallsIn Fence.wide m Tryz.prog 182 #[.func (.yield l) #[] #[], .pointer (some ⟨pb, 0, none⟩)] W1 (OnesPost fn (tkTm A n c rb eb ob f v6 v7 v8 v9 v10) rb eb ob D l W1.heap.size W1 ps) := by
  have hl := blk_lt hlp
  have hcell : W1.cell? ⟨pb, 0, none⟩ = some (.slice (some ad) 32 cs) := (blk_cell hpb 0).trans rfl
  have HNew := Lib.hid (fnew_any (some ad) cs ps W1 hC (by omega) (by omega) (fun h => by cases h))
  rw [hlen] at HNew
  have H0 := Lib.hid (And.intro hlp (And.intro hv (And.intro hr (And.intro he (And.intro hlen hps)))))
  clear hC hlp hv hr he hpb hlen hps
  refine callsIn_of_wp Tryz.func182 rfl trivial ?_ rfl
  simp only [Tryz.ntmps182, List.size_toArray, List.length_cons, List.length_nil, Nat.reduceAdd, Nat.reduceSub, Array.replicate_succ, Array.replicate_zero, List.push_toArray, List.append_toArray, List.nil_append, List.cons_append]
  gi_wp2
  refine ⟨trivial, fun h => (by cases h), (callsIn_wide.2 HNew.out).mono ?_⟩
  rintro e w2 ⟨p, rfl, hp, hrd, hb⟩
  have HT : Hid (Tk fn (tkTm A n c rb eb ob f v6 v7 v8 v9 v10) ob D l W1.heap.size p W1 ps (onesN ps 0) 0 w2) := Lib.hid
    ⟨hrd, ⟨_, blk_below H0.out.2.1 hb, ⟨rfl, .inl ⟨rfl, rfl⟩⟩, fun k hk => by cases hk⟩, blk_below H0.out.1 hb, Only.of_below hb⟩
  have HP : Hid (W1.heap.size ≤ p ∧ p < w2.heap.size) := by
    obtain ⟨_, _, hx, _⟩ := hrd.ex
    exact Lib.hid ⟨hp, blk_lt hx⟩
  clear hb hrd hp hcell
  gi_wp2
  gi_loopw [4, 5, 6, 9] (fun _ _ _ kv wr => ∃ k : Nat, k ≤ 256 ∧ kv = .int .i64 k ∧ Hid (Tk fn (tkTm A n c rb eb ob f v6 v7 v8 v9 v10) ob D l W1.heap.size p W1 ps (onesN ps k) k wr ∧ p < wr.heap.size ∧ (onesN ps k = [] ∨ (onesN ps k).getD 0 1 = 0))) (fun _ _ _ kv _ => 256 - (intOf kv).toNat)
  case atStart => exact ⟨0, by omega, rfl, Lib.hid ⟨HT.out, HP.out.2, .inl rfl⟩⟩
  case round =>
    obtain ⟨k, hk, rfl, H⟩ := hrel
    by_cases hlt : k < 256
    · have hI : (k : Int) < 256 := by omega
      have HTk := ftake_any W1.heap.size p ps k 1 wr H.out.1.rd H0.out.2.2.2.2.2 (by have := H0.out.2.2.2.2.1; omega) (by have := H0.out.2.2.2.2.1; omega) (by decide)
      rw [show ((1 : Nat) : Int) = 1 from rfl] at HTk
      have HTk := Lib.hid HTk
      gi_wp2
      refine ⟨trivial, fun h => (by cases h), (callsIn_wide.2 HTk.out).mono ?_⟩
      rintro e w3 ⟨ht, _, hon⟩
      obtain ⟨rfl, hrd⟩ := ht (by have := H0.out.2.2.2.2.1; omega)
      have HT3 := Lib.hid (H.out.1.taken hrd hon (by have := blk_lt H0.out.2.1; omega) hl HP.out.1)
      have HS3 := Lib.hid (Nat.lt_of_lt_of_le H.out.2.1 hon.size)
      rw [take_one]
      clear hon hrd ht HTk
      have hb2 := bitI_lt ps k
      by_cases hbit : bitI ps k = 1
      · rw [hbit]
        have hy : (Instr.yield l #[.int .i64 k]).run Tryz.prog w3 = .ok (.round l fn #[.slice A n c, undef, .pointer (some ⟨rb, 0, none⟩), .pointer (some ⟨eb, 0, none⟩), .pointer (some ⟨ob, 0, none⟩), undef, v6, v7, v8, v9, v10, f, .int .i64 k, undef, undef, undef, undef, undef, undef, undef, undef, undef, undef, undef, undef, undef, undef, undef] tkAssign tkBody) w3 := by
          simpa [tkRec, tkTm] using run_yield (P := Tryz.prog) (args := #[.int .i64 k]) HT3.out.lp rfl
        gi_wp2
        have hol := onesN_len ps k
        have hob := blk_lt H0.out.2.1
        by_cases hst : onesN ps k = [] ∧ k ≠ 0
        · have hT3 := HT3.out
          rw [hst.1] at hT3
          refine ⟨fun h => (by cases h), (tkStop (m - 1) fn A n c rb eb ob D l W1.heap.size p f v6 v7 v8 v9 v10 W1 ps (k + 1) w3 hT3 k hst.2 H0.out.2.2.1 H0.out.2.2.2.1 h1 h2 ho hl).mono ?_⟩
          rintro e w4 ⟨rfl, hx⟩
          have HX := Lib.hid hx
          have HE : Hid (onesN ps 256 ≠ [] ∧ (onesN ps 256).getD 0 1 ≠ 0) := by
            have e1 : onesN ps (k + 1) = [(k : Int)] := by rw [onesN_succ, if_pos hbit, hst.1]; rfl
            have e2 := ones_pre ps (k + 1) 256 (by omega) (by rw [e1]; simp)
            rw [e1] at e2
            refine Lib.hid ⟨fun e => ?_, ?_⟩
            · rw [e] at e2
              have e3 : (1 : Int) = (k : Int) := e2
              have : (k : Int) ∈ onesN ps 256 := by
                unfold onesN
                exact List.mem_map.2 ⟨k, List.mem_filter.2 ⟨List.mem_range.2 hlt, decide_eq_true hbit⟩, rfl⟩
              rw [e] at this; cases this
            · rw [e2]; show ((k : Int)) ≠ 0; have := hst.2; omega
          clear hx hst hy hT3
          gi_wp2
          go_end0
          exact ⟨⟨_, rfl⟩, .inr ⟨HX.out, HE.out⟩⟩
        · have hgo : (((onesN ps k).length : Int) == 0) = false ∨ (k = 0 ∧ onesN ps k = []) := by
            by_cases e : onesN ps k = []
            · exact .inr ⟨by
                by_cases e0 : k = 0
                · exact e0
                · exact absurd ⟨e, e0⟩ hst, e⟩
            · refine .inl ?_
              simp; exact e
          have HE : Hid ((onesN ps (k + 1)).getD 0 1 = 0) := by
            rcases H.out.2.2 with e | e
            · have k0 : k = 0 := by
                by_cases e0 : k = 0
                · exact e0
                · exact absurd ⟨e, e0⟩ hst
              rw [onesN_succ, if_pos hbit, e, k0]; exact Lib.hid rfl
            · have hne : onesN ps k ≠ [] := fun h => by rw [h] at e; exact absurd e (by decide)
              rw [ones_pre ps k (k + 1) (by omega) hne]; exact Lib.hid e
          refine ⟨fun h => (by cases h), (tkRound (m - 1) fn A n c rb eb ob D l W1.heap.size p f v6 v7 v8 v9 v10 W1 ps (onesN ps k) (k + 1) w3 HT3.out k (by omega) hgo ho hl HP.out.1 HS3.out).mono ?_⟩
          rintro e w4 ⟨rfl, hx, hs4⟩
          have HX : Hid (Tk fn (tkTm A n c rb eb ob f v6 v7 v8 v9 v10) ob D l W1.heap.size p W1 ps (onesN ps (k + 1)) (k + 1) w4 ∧ p < w4.heap.size) := by
            rw [onesN_succ, if_pos hbit]; exact Lib.hid ⟨hx, hs4⟩
          clear hx hs4 hst hgo hy
          gi_wp2
          go_roundw
          case rel => exact ⟨k + 1, by omega, by go_num, Lib.hid ⟨HX.out.1, HX.out.2, .inr HE.out⟩⟩
          case measure => simp [intOf]; omega
      · have h0 : bitI ps k = 0 := by omega
        rw [h0]
        have HN := Lib.hid (show onesN ps (k + 1) = onesN ps k from by rw [onesN_succ, if_neg hbit])
        clear hbit h0 hb2
        gi_wp2
        refine ⟨fun _ h => (by cases h), ?_⟩
        gi_wp2
        go_roundw
        case rel => exact ⟨k + 1, by omega, by go_num, Lib.hid (by rw [HN.out]; exact ⟨by have := HT3.out; exact this, HS3.out, H.out.2.2⟩)⟩
        case measure => simp [intOf]; omega
    · obtain rfl : k = 256 := by omega
      gi_wp2
      go_end0
      exact ⟨⟨_, rfl⟩, .inl ⟨p, 256, HP.out.1, H.out.1, H.out.2.2⟩⟩
end Go.Proofs.YtdkemdcflbadhaaGreat
namespace Go.Proofs.YtdkemdcflbadhaaGreat
open Go.RowKit Go.IntWalk Go.Proofs.YtdkemdcflbadhaaGreatW.PrintWords
def ofR (b : List Int) (one : Bool) : Nat := if one then zeroR b else firstR b
def ofQ (b : List Int) (one : Bool) : List (List Int) := if one then [zeroQ b] else firstL b
theorem of_can {b : List Int} {one : Bool} (hb : Bytes b) (hl : b.length ≤ 131072) (h0 : 0 < b.length) : canM (ofR b one) one (ofQ b one) b = true := by
  unfold canM
  rw [decide_eq_true hl, Bool.true_and]
  cases one with
  | true => exact zero_fits hb (by omega) h0
  | false => exact first_fits hb (by omega)
end Go.Proofs.YtdkemdcflbadhaaGreat
namespace Go.Proofs.YtdkemdcflbadhaaGreat
open Go.RowKit Go.IntWalk Go.Proofs.YtdkemdcflbadhaaGreatW.PrintWords
/-- a row that is written out -/
theorem row_lit (κ : IntKind) (e : TypeId) (W : World) (base : Nat) (ok : Nat → Prop) (hok : ok W.heap.size) (hb : base ≤ W.heap.size) (xs : List Int) (hl : xs.length ≤ 1000000) : (Kd.int κ).R e (W.alloc (.cells (xs.map (Value.int κ)).toArray e)) base ok (.slice (some ⟨W.heap.size, 0, none⟩) xs.length xs.length) xs := by
  refine Kd.R_of_own (h1 := fun _ => rfl) ⟨by simp [encs], .inr ⟨W.heap.size, xs.length, _, rfl, hb, blk_new W _, Nat.le_refl _, by unfold maxLen; omega, by simp, ?_⟩⟩ (fun k hk => by cases hk; exact hok)
  rw [Nat.mul_one, show (xs.map (Value.int κ)).toArray.toList = encs (Value.int κ) xs from rfl, List.take_of_length_le (by rw [encs_length]; exact Nat.le_refl _)]
/-- two lists of bytes, as strings -/
theorem strs_inj {a b : List Int} (ha : Bytes a) (hb : Bytes b) : ((strOfNums a).toList == (strOfNums b).toList) = decide (a = b) := by
  have e : ∀ l : List Int, (strOfNums l).toList = l.map (fun x => UInt8.ofNat x.toNat) := by
    intro l; unfold strOfNums; simp
  rw [e a, e b]
  by_cases h : a = b
  · subst h; simp
  · rw [decide_eq_false h]
    simp only [beq_eq_false_iff_ne, ne_eq]
    intro he
    apply h
    have inj : ∀ (a b : List Int), Bytes a → Bytes b → a.map (fun x => UInt8.ofNat x.toNat) = b.map (fun x => UInt8.ofNat x.toNat) → a = b := by
      intro a
      induction a with
      | nil => intro b _ _ h; cases b with
        | nil => rfl
        | cons y b => simp at h
      | cons x a ih =>
        intro b hxa hyb h
        cases b with
        | nil => simp at h
        | cons y b =>
          rw [List.map_cons, List.map_cons, List.cons.injEq] at h
          have hx := hxa x (by simp)
          have hy := hyb y (by simp)
          have h1 := congrArg UInt8.toNat h.1
          simp only [UInt8.toNat_ofNat'] at h1
          have : x = y := by omega
          rw [this, ih b (fun z hz => hxa z (by simp [hz])) (fun z hz => hyb z (by simp [hz])) h.2]
    exact inj a b ha hb he
end Go.Proofs.YtdkemdcflbadhaaGreat
namespace Go.Proofs.YtdkemdcflbadhaaGreat
open Go.RowKit Go.IntWalk Go.Proofs.YtdkemdcflbadhaaGreatW.PrintWords
set_option maxRecDepth 100000 in
theorem same_any (A B : Option Addr) (ca cb : Nat) (a b : List Int) (w : World) (ha : (Kd.int .u8).C w A a.length a) (hb : (Kd.int .u8).C w B b.length b) (hya : Bytes a) (hyb : Bytes b) :
    Calls Tryz.prog 23 #[.slice A a.length ca, .slice B b.length cb] w fun e w' => e = .returned (.bool (decide (a = b))) ∧ w = w' := by
  have h1 := Kd.C_string (P := Tryz.prog) (c := ca) Tryz.underlying22 Tryz.underlying5 Tryz.underlying9 ha
  have h2 := Kd.C_string (P := Tryz.prog) (c := cb) Tryz.underlying22 Tryz.underlying5 Tryz.underlying9 hb
  rw [← strs_inj hya hyb]
  obtain ⟨x, hx⟩ : ∃ x, x = strOfNums a := ⟨_, rfl⟩
  obtain ⟨y, hy⟩ : ∃ y, y = strOfNums b := ⟨_, rfl⟩
  rw [← hx] at h1 ⊢
  rw [← hy] at h2 ⊢
  clear hx hy ha hb hya hyb
  go_enter Tryz.func23, Tryz.ntmps23
  go_wp2_with fail
  go_ret
  exact ⟨rfl, rfl⟩
theorem same_same (A B : Option Addr) (ca cb : Nat) (p : List Int) (w : World) (ha : (Kd.int .u8).C w A p.length p) (hb : (Kd.int .u8).C w B p.length p) (hp : Bytes p) : Calls Tryz.prog 23 #[.slice A p.length ca, .slice B p.length cb] w (fun e w' => e = .returned (.bool true) ∧ w = w') := by
  have := same_any A B ca cb p p w ha hb hp hp
  rw [decide_eq_true rfl] at this; exact this
/-- a model in a variable of the call's own -/
structure MAt (mb : Nat) (lg : Int) (one : Bool) (A : Option Addr) (c : Nat) (qs : List (List Int)) (w : World) : Prop where
  blk : w.heap[mb]? = some (.cells #[.int .i64 lg, .bool one, .slice A qs.length c] 31 (0, 0))
  row : kq.C w A qs.length qs
theorem MAt.later {mb : Nat} {lg : Int} {one : Bool} {A : Option Addr} {c : Nat} {qs : List (List Int)} {w w' : World} (h : MAt mb lg one A c qs w) (hb : Below w.heap.size w w') : MAt mb lg one A c qs w' := ⟨blk_below h.blk hb, Kd.C_below h.row hb⟩
theorem MAt.new {lg : Int} {one : Bool} {A : Option Addr} {c : Nat} {qs : List (List Int)} {w w0 : World} (h : kq.R 39 w w0.heap.size (fun _ => True) (.slice A qs.length c) qs) : MAt w.heap.size lg one A c qs (w.alloc (.cells #[.int .i64 lg, .bool one, .slice A qs.length c] 31)) :=
  ⟨blk_new _ _, Kd.C_alloc (Kd.R_reads' h).2.2 _⟩
end Go.Proofs.YtdkemdcflbadhaaGreat
namespace Go.Proofs.YtdkemdcflbadhaaGreat
open Go.RowKit Go.IntWalk Go.Proofs.YtdkemdcflbadhaaGreatW.PrintWords
theorem ints_take {κ : IntKind} {w : World} {A : Option Addr} {xs : List Int} (h : (Kd.int κ).C w A xs.length xs) (k : Nat) (hk : k ≤ xs.length) : (Kd.int κ).C w A k (xs.take k) := by
  obtain ⟨h1, h2, h3⟩ := h
  refine ⟨by rw [List.length_take]; omega, by omega, fun h0 => ?_⟩
  obtain ⟨ad, e, hc⟩ := h3 (by omega)
  refine ⟨ad, e, fun j p hj => hc j p ?_⟩
  rw [List.getElem?_take] at hj
  split at hj
  · exact hj
  · cases hj
end Go.Proofs.YtdkemdcflbadhaaGreat
namespace Go.Proofs.YtdkemdcflbadhaaGreat
open Go.RowKit Go.IntWalk Go.Proofs.YtdkemdcflbadhaaGreatW.PrintWords
attribute [local go_sem] Oper.semAt_some
theorem results_two {fn : Func} {p q : Tmp} {t u : TypeId} (h : fn.results = #[.cell p t, .cell q u]) (tmps : Array Value) (w : World) (g k : Nat) (v x : Value)
    (hp : tmps.getD p undef = .pointer (some ⟨g, 0, none⟩)) (hq : tmps.getD q undef = .pointer (some ⟨k, 0, none⟩)) (hl : (loadVar t ⟨g, 0, none⟩).run Tryz.prog w = .ok v w) (hm : (loadVar u ⟨k, 0, none⟩).run Tryz.prog w = .ok x w) :
    (results fn tmps).run Tryz.prog w = .ok (.tuple #[v, x]) w := by
  have hp' : tmps[p]?.getD undef = .pointer (some ⟨g, 0, none⟩) := by simpa using hp
  have hq' : tmps[q]?.getD undef = .pointer (some ⟨k, 0, none⟩) := by simpa using hq
  simp [results, h, hp', hq', asAddr, hl, hm]
theorem load_ints {w : World} {g : Nat} {v : Value} (h : w.heap[g]? = some (.cells #[v] 39 (0, 0))) : (loadVar 39 ⟨g, 0, none⟩).run Tryz.prog w = .ok v w := by
  have hc : w.cell? ⟨g, 0, none⟩ = some v := (blk_cell h 0).trans rfl
  simp [go_sem, hc]
theorem load_errno {w : World} {g : Nat} {v : Value} (h : w.heap[g]? = some (.cells #[v] 24 (0, 0))) : (loadVar 24 ⟨g, 0, none⟩).run Tryz.prog w = .ok v w := by
  have hc : w.cell? ⟨g, 0, none⟩ = some v := (blk_cell h 0).trans rfl
  simp [go_sem, hc]
def DTakePost (b : List Int) (w : World) (e : Ending) (w' : World) : Prop :=
  ∃ v, e = .returned (.tuple #[v, .int .i64 (dirT b).1]) ∧ (Kd.int .i64).R 3 w' w.heap.size (fun _ => True) v (dirT b).2 ∧ Below w.heap.size w w'
set_option maxRecDepth 100000 in
theorem dirTake_short (A : Option Addr) (c : Nat) (b : List Int) (w : World) (hl : b.length < 32) :
    Calls Tryz.prog 60 #[.slice A b.length c] w (DTakePost b w) := by
  have hI : (b.length : Int) < 32 := by omega
  have HL := Lib.hid hl
  clear hl
  go_enter Tryz.func60, Tryz.ntmps60
  go_wp2_with fail
  refine bodyPost_ret (results_two (fn := Tryz.f60) (p := 2) (q := 3) (t := 39) (u := 24) rfl _ _ _ _ _ _ rfl rfl (load_ints (blk_alloc (blk_new _ _) _)) (load_errno (blk_new1 _ _ _))) rfl ?_
  have e : dirT b = (3, []) := by unfold dirT; rw [if_pos HL.out]
  unfold DTakePost
  rw [e]
  exact ⟨_, rfl, Kd.R_nil _ _ _ _ _, ((Below.refl w.heap.size w).alloc (Nat.le_refl _) _).alloc (by simp) _⟩
set_option maxRecDepth 100000 in
theorem ones_any (A : Option Addr) (n c : Nat) (w : World) :
    Calls Tryz.prog 124 #[.slice A n c] w fun e w' => e = .returned (.func (.func 182) #[] #[.pointer (some ⟨w.heap.size, 0, none⟩)]) ∧ w' = w.alloc (.cells #[.slice A n c] 22) := by
  have hmf : ∀ (fn : Fn) (first cap : Array Value) (w : World), (Instr.makeFunc fn first cap).run Tryz.prog w = .ok (.func fn first cap) w := fun _ _ _ _ => rfl
  go_enter Tryz.func124, Tryz.ntmps124
  go_wp2_with fail
  go_ret
  exact ⟨rfl, rfl⟩
theorem bit_take {b : List Int} {i : Nat} (hi : i < 256) : bitI (b.take 32) i = bitI b i := by
  have h : (b.take 32).getD (i / 8) 0 = b.getD (i / 8) 0 := by
    rw [List.getD_eq_getElem?_getD, List.getElem?_take, if_pos (by omega), List.getD_eq_getElem?_getD]
  unfold bitI
  rw [h]
theorem ones_take (b : List Int) : onesN (b.take 32) 256 = onesN b 256 := by
  unfold onesN
  congr 1
  refine List.filter_congr (fun c hc => ?_)
  rw [bit_take (List.mem_range.1 hc)]
theorem dirT_yes {b : List Int} (h : 32 ≤ b.length) (h0 : (onesN b 256).getD 0 1 = 0) : dirT b = (0, onesN b 256) := by
  unfold dirT; rw [if_neg (by omega), if_neg (fun e => e h0)]
theorem dirT_no {b : List Int} (h : 32 ≤ b.length) (h0 : (onesN b 256).getD 0 1 ≠ 0) : dirT b = (13, []) := by
  unfold dirT; rw [if_neg (by omega), if_pos h0]
theorem own_lower {W : World} {B B' : Nat} {e : TypeId} {v : Value} {n : Nat} {xs : List Value} (h : W.ownsRow B e 1 v n xs) (hB : B' ≤ B) : W.ownsRow B' e 1 v n xs := by
  refine ⟨h.1, ?_⟩
  rcases h.2 with h | ⟨g, cap, cur, rfl, hb, rest⟩
  · exact .inl h
  · exact .inr ⟨g, cap, cur, rfl, by omega, rest⟩
theorem dtEnd {w W : World} {b L : List Int} {v : Value} {x : Int} {D : Nat} {tmps : Array Value} (hD : w.heap.size + 1 < D) (hO : Only (fun k => w.heap.size ≤ k) w W) (kr : W.heap[w.heap.size]? = some (.cells #[v] 39 (0, 0))) (ke : W.heap[w.heap.size + 1]? = some (.cells #[.int .i64 x] 24 (0, 0)))
    (kd : W.heap[D]? = some (.deferred (some []))) (hR : ∀ W' : World, (∀ k, k ≠ D → W'.heap[k]? = W.heap[k]?) → (Kd.int .i64).R 3 W' w.heap.size (fun _ => True) v L) (hd : dirT b = (x, L))
    (h2 : tmps.getD 2 undef = .pointer (some ⟨w.heap.size, 0, none⟩)) (h3 : tmps.getD 3 undef = .pointer (some ⟨w.heap.size + 1, 0, none⟩)) :
    LeavesInM Fence.wide 3 Tryz.prog Tryz.f60 tmps (DTakePost b w) [{ target := .collected D, args := #[] }] .returning W := by
  refine ⟨by simp, .inl ⟨_, _, rfl, run_takeDeferred kd, ?_⟩⟩
  refine ⟨_, results_two (fn := Tryz.f60) (p := 2) (q := 3) (t := 39) (u := 24) rfl _ _ _ _ _ _ h2 h3 (load_ints ((World.putObj_heap_other (by omega)).trans kr)) (load_errno ((World.putObj_heap_other (by omega)).trans ke)), ?_⟩
  unfold DTakePost
  rw [hd]
  exact ⟨v, rfl, hR _ (fun k hk => World.putObj_heap_other hk), (hO.putObj (by show w.heap.size ≤ D; omega) _).below (Nat.le_refl _) (fun _ h => h)⟩
theorem R_same {W W' : World} {B B' : Nat} {v : Value} {L : List Int} (h : W.ownsRow B 3 1 v L.length (L.map (Value.int .i64))) (hB : B' ≤ B) (hs : ∀ k, B ≤ k → W'.heap[k]? = W.heap[k]?) : (Kd.int .i64).R 3 W' B' (fun _ => True) v L := by
  refine Kd.R_of_own (h1 := fun _ => rfl) (own_same (own_lower h hB) (fun k hk => hs k ?_)) (fun _ _ => trivial)
  rcases h.2 with ⟨rfl, _⟩ | ⟨g, cap, cur, rfl, hb, _⟩
  · cases hk
  · have : g = k := by injection hk
    omega
set_option maxRecDepth 100000 in
set_option maxHeartbeats 2000000 in
theorem dirTake_long (A : Option Addr) (c : Nat) (b : List Int) (w : World) (hr : (Kd.int .u8).C w A b.length b) (hb : Bytes b) (hl : b.length ≤ 1000000) (hc : b.length ≤ c) (h32 : 32 ≤ b.length) :
    Calls Tryz.prog 60 #[.slice A b.length c] w (DTakePost b w) := by
  obtain ⟨ad, hA, -⟩ := ints_get hr 0 (by omega)
  subst hA
  refine (callsIn_wide (n := 3)).1 ?_
  refine callsIn_of_wp_marks Tryz.func60 rfl trivial ?_ rfl
  simp only [Tryz.ntmps60, List.size_toArray, List.length_cons, List.length_nil, Nat.reduceAdd, Nat.reduceSub, Array.replicate_succ, Array.replicate_zero, List.push_toArray, List.append_toArray, List.nil_append, List.cons_append]
  have hI : decide ((b.length : Int) < 32) = false := decide_eq_false (by omega)
  have hI2 : (32 : Int) ≤ (c : Int) := by omega
  obtain ⟨W0, hW0⟩ : ∃ W0, W0 = ((w.alloc (.cells #[.slice none 0 0] 39)).alloc (.cells #[.int .i64 0] 24)).alloc (.cells #[.slice none 0 0] 39) := ⟨_, rfl⟩
  have HX := Lib.hid (And.intro hr (And.intro hb (And.intro hl (And.intro hc h32))))
  clear hr hb hl hc h32
  gi_wp2
  rw [← hW0]
  have hs0 : W0.heap.size = w.heap.size + 1 + 1 + 1 := by rw [hW0]; simp
  have hB0 : Below w.heap.size w W0 := by rw [hW0]; exact (((Below.refl w.heap.size w).alloc (Nat.le_refl _) _).alloc (by simp) _).alloc (by simp; omega) _
  have kr0 : W0.heap[w.heap.size]? = some (.cells #[.slice none 0 0] 39 (0, 0)) := by rw [hW0]; exact blk_alloc (blk_alloc (blk_new _ _) _) _
  have ke0 : W0.heap[w.heap.size + 1]? = some (.cells #[.int .i64 0] 24 (0, 0)) := by rw [hW0]; exact blk_alloc (blk_new1 _ _ _) _
  have ko0 : W0.heap[w.heap.size + 1 + 1]? = some (.cells #[.slice none 0 0] 39 (0, 0)) := by
    have := blk_new ((w.alloc (.cells #[.slice none 0 0] 39)).alloc (.cells #[.int .i64 0] 24)) (.cells #[.slice none 0 0] 39)
    simp only [World.size_alloc] at this
    rw [hW0]; exact this
  have H0 := Lib.hid (And.intro hs0 (And.intro hB0 (And.intro kr0 (And.intro ke0 ko0))))
  clear hW0 hs0 hB0 kr0 ke0 ko0
  refine ⟨trivial, (callsIn_wide.2 (ones_any (some ad) 32 c W0)).mono ?_⟩
  rintro e w1 ⟨rfl, rfl⟩
  obtain ⟨Wb, hWb⟩ : ∃ Wb, Wb = W0.alloc (.cells #[.slice (some ad) 32 c] 22) := ⟨_, rfl⟩
  obtain ⟨pb, hpb⟩ : ∃ pb, pb = W0.heap.size := ⟨_, rfl⟩
  rw [← hWb, ← hpb]
  have hsb : Wb.heap.size = w.heap.size + 1 + 1 + 1 + 1 := by rw [hWb]; simp [H0.out.1]
  have hBb : Below w.heap.size w Wb := by rw [hWb]; exact H0.out.2.1.alloc (by have := H0.out.1; omega) _
  have kr : Wb.heap[w.heap.size]? = some (.cells #[.slice none 0 0] 39 (0, 0)) := by rw [hWb]; exact blk_alloc H0.out.2.2.1 _
  have ke : Wb.heap[w.heap.size + 1]? = some (.cells #[.int .i64 0] 24 (0, 0)) := by rw [hWb]; exact blk_alloc H0.out.2.2.2.1 _
  have ko : Wb.heap[w.heap.size + 1 + 1]? = some (.cells #[.slice none 0 0] 39 (0, 0)) := by rw [hWb]; exact blk_alloc H0.out.2.2.2.2 _
  have kb : Wb.heap[pb]? = some (.cells #[.slice (some ad) 32 c] 22 (0, 0)) := by rw [hWb, hpb]; exact blk_new W0 _
  have hlb : pb < Wb.heap.size := blk_lt kb
  have HWb := Lib.hid (And.intro hsb (And.intro hBb (And.intro kr (And.intro ke (And.intro ko (And.intro kb hlb))))))
  clear hWb hpb hsb hBb kr ke ko kb hlb
  gi_wp2
  refine wpIn_rangeFunc ?_
  intro fn hfn
  obtain ⟨hsb, hBb, kr, ke, ko, kb, hlb⟩ := HWb.out
  obtain ⟨tm, htm⟩ : ∃ tm, tm = tkTm (some ad) b.length c w.heap.size (w.heap.size + 1) (w.heap.size + 1 + 1) (.func (.func 182) #[] #[.pointer (some ⟨pb, 0, none⟩)]) (.slice (some ad) b.length c) (.int .i64 b.length) (.bool false) (.slice (some ad) b.length c) (.slice (some ad) 32 c) := ⟨_, rfl⟩
  obtain ⟨W1, hW1⟩ : ∃ W1, (Wb.alloc (.deferred (some []))).alloc (.loop (tkRec fn tm Wb.heap.size .ready none)) = W1 := ⟨_, rfl⟩
  have hs1 : W1.heap.size = Wb.heap.size + 1 + 1 := by rw [← hW1]; simp
  have hold : ∀ k, k < Wb.heap.size → W1.heap[k]? = Wb.heap[k]? := fun k hk => by
    rw [← hW1]; exact (Below.heap_alloc _ _ k (by simp; omega)).trans (Below.heap_alloc _ _ k hk)
  have kl : W1.heap[Wb.heap.size + 1]? = some (.loop (tkRec fn tm Wb.heap.size .ready none)) := by
    rw [← hW1]; have := World.alloc_heap_new (Wb.alloc (.deferred (some []))) (.loop (tkRec fn tm Wb.heap.size .ready none)); rwa [World.size_alloc] at this
  have kd : W1.heap[Wb.heap.size]? = some (.deferred (some [])) := by
    rw [← hW1]; exact (Below.heap_alloc _ _ _ (by simp)).trans (World.alloc_heap_new Wb _)
  have hB1 : Below w.heap.size w W1 := by rw [← hW1]; exact (hBb.alloc (by omega) _).alloc (by simp; omega) _
  have hp32 : (b.take 32).length = 32 := by rw [List.length_take]; have := HX.out.2.2.2.2; omega
  have hC1 : (Kd.int .u8).C W1 (some ad) (b.take 32).length (b.take 32) := by
    have := ints_take (Kd.C_below HX.out.1 hB1) 32 HX.out.2.2.2.2
    rw [hp32]; exact this
  have hIt := ones1_in 2 fn (some ad) b.length c w.heap.size (w.heap.size + 1) (w.heap.size + 1 + 1) Wb.heap.size (Wb.heap.size + 1) pb (.func (.func 182) #[] #[.pointer (some ⟨pb, 0, none⟩)]) (.slice (some ad) b.length c) (.int .i64 b.length) (.bool false) (.slice (some ad) b.length c) (.slice (some ad) 32 c) W1 ad c (b.take 32) hp32 (fun x hx => HX.out.2.1 x (List.mem_of_mem_take hx)) (by have := HX.out.2.2.2.1; have := HX.out.2.2.2.2; omega)
    ((hold _ (by omega)).trans kb) hC1 (by rw [← htm]; exact kl) ((hold _ (by omega)).trans ko) ((hold _ (by omega)).trans kr) ((hold _ (by omega)).trans ke) (by omega) (by omega) (by omega)
  rw [← htm] at hIt
  unfold OnesPost at hIt
  rw [ones_take] at hIt
  have HIt := Lib.hid hIt
  have HT := Lib.hid htm
  have HK := Lib.hid (And.intro kd (And.intro hs1 (And.intro hsb (And.intro hB1 (And.intro ((hold _ (by omega)).trans kr) ((hold _ (by omega)).trans ke))))))
  clear hIt hC1 hp32 kr ke ko kb kl kd hBb hold hlb
  refine ⟨Wb.heap.size + 1, [{ target := .collected Wb.heap.size, args := #[] }], W1, { target := .fn (.func 182) #[.pointer (some ⟨pb, 0, none⟩)], args := #[.func (.yield (Wb.heap.size + 1)) #[] #[]] }, W1, 182,
    #[.func (.yield (Wb.heap.size + 1)) #[] #[], .pointer (some ⟨pb, 0, none⟩)], W1, ?_, ?_, ?_, ?_, fun h => (by cases h), ?_⟩
  · rw [← hW1, htm]; exact run_enterLoop_outer _ _ _ _ _
  · simp [resolve, go_sem]
  · intro f' hf'; exact trivial
  · simp [invoke, go_sem]
  · clear hW1 htm
    refine HIt.out.mono ?_
    rintro e W2 ⟨⟨v, rfl⟩, h⟩
    obtain ⟨kd, hs1, hsb, hB1, kr, ke⟩ := HK.out
    rcases h with ⟨p, at_, hp, hT, h0⟩ | ⟨hX, hne, h0⟩
    · obtain ⟨vo, ko, hown, hok⟩ := hT.v
      obtain ⟨Av, cv, rfl⟩ := own_slice hown
      have hend := run_endLoop (P := Tryz.prog) hT.lp (by simp [tkRec])
      have hend2 : (Instr.endLoop (Wb.heap.size + 1)).run Tryz.prog W2 = .ok none (W2.putObj (Wb.heap.size + 1) (.loop { tkRec fn tm Wb.heap.size .ready none with state := .exhausted })) := hend
      have hO : Only (fun k => w.heap.size ≤ k) w W2 := (Only.of_below (S := fun k => w.heap.size ≤ k) hB1).trans2 hT.on (fun k hk h => by omega)
      obtain ⟨W3, hW3⟩ : ∃ W3, W2.putObj (Wb.heap.size + 1) (.loop { tkRec fn tm Wb.heap.size .ready none with state := .exhausted }) = W3 := ⟨_, rfl⟩
      rw [hW3] at hend2
      have hO3 : Only (fun k => w.heap.size ≤ k) w W3 := by rw [← hW3]; exact hO.putObj (by show w.heap.size ≤ _; omega) _
      have ko3 : W3.heap[w.heap.size + 1 + 1]? = some (.cells #[.slice Av (onesN b 256).length cv] 39 (0, 0)) := by rw [← hW3]; exact (World.putObj_heap_other (by omega)).trans ko
      have kd3 : W3.heap[Wb.heap.size]? = some (.deferred (some [])) := by rw [← hW3]; exact (World.putObj_heap_other (by omega)).trans ((hT.on.block _ (blk_lt kd) (by omega)).trans kd)
      have kr3 : W3.heap[w.heap.size]? = some (.cells #[.slice none 0 0] 39 (0, 0)) := by rw [← hW3]; exact (World.putObj_heap_other (by omega)).trans ((hT.on.block _ (blk_lt kr) (by omega)).trans kr)
      have ke3 : W3.heap[w.heap.size + 1]? = some (.cells #[.int .i64 0] 24 (0, 0)) := by rw [← hW3]; exact (World.putObj_heap_other (by omega)).trans ((hT.on.block _ (blk_lt ke) (by omega)).trans ke)
      have hw3 : W3.ownsRow W1.heap.size 3 1 (.slice Av (onesN b 256).length cv) (onesN b 256).length ((onesN b 256).map (Value.int .i64)) := own_same hown (fun k hk => by have := hok k hk; rw [← hW3]; exact World.putObj_heap_other (by omega))
      have HW3 := Lib.hid (And.intro hO3 (And.intro ko3 (And.intro kd3 (And.intro kr3 (And.intro ke3 (And.intro hw3 (And.intro hok hp)))))))
      have co : W3.cell? ⟨w.heap.size + 1 + 1, 0, none⟩ = some (.slice Av (onesN b 256).length cv) := (blk_cell ko3 0).trans rfl
      have cr : W3.cell? ⟨w.heap.size, 0, none⟩ = some (.slice none 0 0) := (blk_cell kr3 0).trans rfl
      have ce : W3.cell? ⟨w.heap.size + 1, 0, none⟩ = some (.int .i64 0) := (blk_cell ke3 0).trans rfl
      have fr : W3.frozen? ⟨w.heap.size, 0, none⟩ = false := blk_frozen kr3 0
      have fe : W3.frozen? ⟨w.heap.size + 1, 0, none⟩ = false := blk_frozen ke3 0
      refine ⟨none, W3, hend2, ?_⟩
      have HH := Lib.hid (And.intro hsb hs1)
      clear hW3 hend hend2 hO hown hok ko kd hs1 hsb hB1 kr ke hT ko3 kd3 kr3 ke3 hw3 hO3 hp HIt HT HK
      rcases h0 with h0 | h0
      · have HE : Hid (dirT b = (13, [])) := Lib.hid (dirT_no HX.out.2.2.2.2 (by rw [h0]; decide))
        rw [h0] at co
        gi_wp2
        have hO4 := (HW3.out.1.setCell (p := ⟨w.heap.size, 0, none⟩) (Nat.le_refl _) (.slice none 0 0)).setCell (p := ⟨w.heap.size + 1, 0, none⟩) (by show w.heap.size ≤ w.heap.size + 1; omega) (.int .i64 13)
        exact dtEnd (by omega) hO4
          ((Below.heap_setCell _ ⟨w.heap.size + 1, 0, none⟩ _ w.heap.size (by show w.heap.size ≠ w.heap.size + 1; omega)).trans ((blk_set HW3.out.2.2.2.1 0 _).trans rfl))
          ((blk_set ((Below.heap_setCell _ ⟨w.heap.size, 0, none⟩ _ (w.heap.size + 1) (by show w.heap.size + 1 ≠ w.heap.size; omega)).trans HW3.out.2.2.2.2.1) 0 _).trans rfl)
          ((Below.heap_setCell _ ⟨w.heap.size + 1, 0, none⟩ _ _ (by show w.heap.size + 1 + 1 + 1 + 1 ≠ w.heap.size + 1; omega)).trans ((Below.heap_setCell _ ⟨w.heap.size, 0, none⟩ _ _ (by show w.heap.size + 1 + 1 + 1 + 1 ≠ w.heap.size; omega)).trans (by rw [← HH.out.1]; exact HW3.out.2.2.1)))
          (fun W' _ => Kd.R_nil _ _ _ _ _) HE.out rfl rfl
      · have HE : Hid (dirT b = (0, onesN b 256)) := Lib.hid (dirT_yes HX.out.2.2.2.2 h0)
        have hn0 : (((onesN b 256).length : Int) == 0) = false := by
          simp; intro e; rw [e] at h0; exact absurd h0 (by decide)
        obtain ⟨L, hL⟩ : ∃ L, L = onesN b 256 := ⟨_, rfl⟩
        rw [← hL] at co hn0 HE HW3
        clear hL h0
        gi_wp2
        have hO4 := (HW3.out.1.setCell (p := ⟨w.heap.size, 0, none⟩) (Nat.le_refl _) (.slice Av L.length cv)).setCell (p := ⟨w.heap.size + 1, 0, none⟩) (by show w.heap.size ≤ w.heap.size + 1; omega) (.int .i64 0)
        exact dtEnd (by omega) hO4
          ((Below.heap_setCell _ ⟨w.heap.size + 1, 0, none⟩ _ w.heap.size (by show w.heap.size ≠ w.heap.size + 1; omega)).trans ((blk_set HW3.out.2.2.2.1 0 _).trans rfl))
          ((blk_set ((Below.heap_setCell _ ⟨w.heap.size, 0, none⟩ _ (w.heap.size + 1) (by show w.heap.size + 1 ≠ w.heap.size; omega)).trans HW3.out.2.2.2.2.1) 0 _).trans rfl)
          ((Below.heap_setCell _ ⟨w.heap.size + 1, 0, none⟩ _ _ (by show w.heap.size + 1 + 1 + 1 + 1 ≠ w.heap.size + 1; omega)).trans ((Below.heap_setCell _ ⟨w.heap.size, 0, none⟩ _ _ (by show w.heap.size + 1 + 1 + 1 + 1 ≠ w.heap.size; omega)).trans (by rw [← HH.out.1]; exact HW3.out.2.2.1)))
          (fun W' hW' => R_same HW3.out.2.2.2.2.2.1 (by have := HH.out.1; have := HH.out.2; omega) (fun k hk => by
            have h1 := HH.out.1
            have h2 := HH.out.2
            exact (hW' k (by omega)).trans ((Below.heap_setCell _ ⟨w.heap.size + 1, 0, none⟩ _ k (by show k ≠ w.heap.size + 1; omega)).trans (Below.heap_setCell _ ⟨w.heap.size, 0, none⟩ _ k (by show k ≠ w.heap.size; omega))))) HE.out rfl rfl
    · have hend := run_endLoop (P := Tryz.prog) hX.lp (by simp [tkRec])
      have hend2 : (Instr.endLoop (Wb.heap.size + 1)).run Tryz.prog W2 = .ok (some .ret) (W2.putObj (Wb.heap.size + 1) (.loop { tkRec fn tm Wb.heap.size .done (some .ret) with state := .exhausted })) := hend
      have hO : Only (fun k => w.heap.size ≤ k) w W2 := (Only.of_below (S := fun k => w.heap.size ≤ k) hB1).trans2 hX.on (fun k hk h => by omega)
      obtain ⟨W3, hW3⟩ : ∃ W3, W2.putObj (Wb.heap.size + 1) (.loop { tkRec fn tm Wb.heap.size .done (some .ret) with state := .exhausted }) = W3 := ⟨_, rfl⟩
      rw [hW3] at hend2
      have hO3 : Only (fun k => w.heap.size ≤ k) w W3 := by rw [← hW3]; exact hO.putObj (by show w.heap.size ≤ _; omega) _
      have kd3 : W3.heap[w.heap.size + 1 + 1 + 1 + 1]? = some (.deferred (some [])) := by rw [← hW3, ← hsb]; exact (World.putObj_heap_other (by omega)).trans ((hX.on.block _ (blk_lt kd) (by omega)).trans kd)
      have kr3 : W3.heap[w.heap.size]? = some (.cells #[.slice none 0 0] 39 (0, 0)) := by rw [← hW3]; exact (World.putObj_heap_other (by omega)).trans hX.r0
      have ke3 : W3.heap[w.heap.size + 1]? = some (.cells #[.int .i64 13] 24 (0, 0)) := by rw [← hW3]; exact (World.putObj_heap_other (by omega)).trans hX.r1
      have HE : Hid (dirT b = (13, [])) := Lib.hid (dirT_no HX.out.2.2.2.2 h0)
      refine ⟨some .ret, W3, hend2, ?_⟩
      have HZ := Lib.hid (And.intro hO3 (And.intro kd3 (And.intro kr3 ke3)))
      clear hW3 hend hend2 hO kd hs1 hB1 kr ke hX kd3 kr3 ke3 hO3 HIt HT HK h0 hne
      gi_wp2
      exact dtEnd (by omega) HZ.out.1 HZ.out.2.2.1 HZ.out.2.2.2 HZ.out.2.1 (fun W' _ => Kd.R_nil _ _ _ _ _) HE.out rfl rfl
theorem dirTake_any (A : Option Addr) (c : Nat) (b : List Int) (w : World) (hr : (Kd.int .u8).C w A b.length b) (hb : Bytes b) (hl : b.length ≤ 1000000) (hc : b.length ≤ c) :
    Calls Tryz.prog 60 #[.slice A b.length c] w (DTakePost b w) := by
  by_cases h : b.length < 32
  · exact dirTake_short A c b w h
  · exact dirTake_long A c b w hr hb hl hc (by omega)
end Go.Proofs.YtdkemdcflbadhaaGreat
namespace Go.Proofs.YtdkemdcflbadhaaGreat
open Go.RowKit Go.IntWalk Go.Proofs.YtdkemdcflbadhaaGreatW.PrintWords
theorem zeroHist : Tryz.zeroCells217 = madeCells #[.int .i64 0] 256 := by kernel_rfl
theorem arr_row (n : Nat) (e : TypeId) (W : World) (ok : Nat → Prop) (hok : ok W.heap.size) (base : Nat) (hb : base ≤ W.heap.size) (hn : n ≤ 1000000) : (Kd.int .i64).R e (W.alloc (.cells (madeCells #[.int .i64 0] n) e)) base ok (.slice (some ⟨W.heap.size, 0, none⟩) n n) (List.replicate n 0) := by
  have hr := Kd.reps_made (R := (Kd.int .i64).M (W.alloc (.cells (madeCells #[.int .i64 0] n) e)) base (fun k => ok k ∧ some k ≠ (Value.slice (some ⟨W.heap.size, 0, none⟩) n n).ownBlock)) (z := .int .i64 0) (size := 1) (z0 := (0 : Int)) rfl Nat.one_pos rfl n
  have e' : (Value.int .i64 0).cells = #[.int .i64 0] := rfl
  rw [e', Nat.mul_one] at hr
  refine ⟨fun k hk => by cases hk; exact hok, _, ⟨?_, .inr ⟨W.heap.size, n, madeCells #[.int .i64 0] n, by simp, hb, blk_new W _, by simp, by unfold maxLen; omega, ?_, ?_⟩⟩, hr⟩
  · simp [size_madeCells]; exact (Nat.mul_one n).symm
  · rw [size_madeCells]; exact (Nat.mul_one n).symm
  · rw [List.length_replicate]; exact List.take_of_length_le (by simp [size_madeCells]; exact Nat.le_of_eq (Nat.mul_one n).symm)
theorem histL_nil : histL [] = List.replicate 256 0 := by
  unfold histL mapR
  rw [List.map_congr_left (g := fun _ => (0 : Int)) (fun _ _ => by simp), List.map_const', List.length_range]
theorem hist_step (b : List Int) (k : Nat) (hk : k < b.length) {y : Nat} (hy : b.getD k 0 = y) (h : y < 256) : histL (b.take (k + 1)) = (histL (b.take k)).set y ((histL (b.take k)).getD y 0 + 1) := by
  rw [List.take_succ_eq_append_getElem hk]
  have e : b[k] = (y : Int) := by rw [← hy, List.getD_eq_getElem?_getD, List.getElem?_eq_getElem hk]; rfl
  rw [e, histL_snoc _ h, histL_get _ h]
def HOfPost (b : List Int) (w : World) (e : Ending) (w' : World) : Prop := ∃ v, e = .returned v ∧ (Kd.int .i64).R 3 w' w.heap.size (fun _ => True) v (histL b) ∧ Below w.heap.size w w'
set_option maxRecDepth 100000 in
set_option maxHeartbeats 1000000 in
theorem histOf_any (A : Option Addr) (cp : Nat) (b : List Int) (w : World) (hr : (Kd.int .u8).C w A b.length b) (hl : b.length ≤ 1000000) (hb : ∀ x ∈ b, 0 ≤ x ∧ x < 256) :
    Calls Tryz.prog 147 #[.slice A b.length cp] w (HOfPost b w) := by
  have HR := Lib.hid (And.intro hr (And.intro hl hb))
  have HI : Hid ((Kd.int .i64).R 217 (w.alloc (.cells Tryz.zeroCells217 217)) w.heap.size (fun _ => True) (.slice (some ⟨w.heap.size, 0, none⟩) 256 256) (histL (b.take 0)) ∧ Below w.heap.size w (w.alloc (.cells Tryz.zeroCells217 217))) := by
    rw [zeroHist, List.take_zero, histL_nil]
    exact ⟨arr_row 256 _ w _ trivial _ (Nat.le_refl _) (by omega), (Below.refl _ _).alloc (Nat.le_refl _) _⟩
  clear hr hb
  go_enter Tryz.func147, Tryz.ntmps147
  go_wp2_with fail
  go_loopw [8] (fun kv wr => ∃ (k : Nat), kv = .int .i64 k ∧ k ≤ b.length ∧ Hid ((Kd.int .i64).R 217 wr w.heap.size (fun _ => True) (.slice (some ⟨w.heap.size, 0, none⟩) 256 256) (histL (b.take k)) ∧ Below w.heap.size w wr)) (fun kv _ => b.length - (intOf kv).toNat)
  case atStart => exact ⟨0, rfl, by omega, HI⟩
  case round =>
    obtain ⟨k, rfl, hk, H⟩ := hrel
    by_cases hlt : k < b.length
    · obtain ⟨ad, rfl, hcell⟩ := ints_get HR.out.1 k hlt
      have hcw := pw_cell_below H.out.2 hcell
      obtain ⟨x, hx⟩ : ∃ x : Nat, b.getD k 0 = x := by
        have : 0 ≤ b.getD k 0 := (HR.out.2.2 _ (getD_mem hlt)).1
        exact ⟨(b.getD k 0).toNat, by omega⟩
      have hx2 : x < 256 := by have := (HR.out.2.2 _ (getD_mem hlt)).2; omega
      rw [hx] at hcw
      obtain ⟨hc3, hf3⟩ := ints_cells H.out.1 x hx2
      obtain ⟨y, hy⟩ : ∃ y, y = (histL (b.take k)).getD x 0 := ⟨_, rfl⟩
      have hyr : 0 ≤ y ∧ y ≤ 1000000 := by
        rw [hy, histL_get _ hx2]
        have := List.count_le_length (a := (x : Int)) (l := b.take k)
        rw [List.length_take] at this
        omega
      obtain ⟨hy0, hy1⟩ := hyr
      rw [← hy] at hc3
      have HY := Lib.hid (And.intro hy hx)
      have hx256 : (x : Int) < 256 := by omega
      clear hy hx hcell
      go_wp2_with fail
      go_roundw
      case rel =>
        refine ⟨k + 1, by go_num, by omega, ?_, H.out.2.setCell (Nat.le_refl _) _⟩
        rw [hist_step b k hlt HY.out.2 hx2, ← HY.out.1]
        have := Kd.R_putn H.out.1 (x : Int) (y + 1)
        rw [Int.toNat_natCast] at this
        exact this
      case measure => simp [intOf]; omega
    · obtain rfl : k = b.length := by omega
      rw [List.take_length] at H
      have hrd := Kd.R_reads' H.out.1
      have hcl : (histL b).length = 256 := mapR_len _
      have HE := Lib.hid (row_empty .i64 3 wr w.heap.size (fun _ => True) H.out.2.size trivial)
      have HC : Hid ((Kd.int .i64).C (wr.alloc (.cells #[] 3)) (some ⟨w.heap.size, 0, none⟩) 256 (histL b)) := by
        have := Kd.C_alloc hrd.2.2 (.cells #[] 3)
        rw [hcl] at this; exact this
      have HL : Hid ((([] : List Int).length + (histL b).length) * 8 ≤ 140737488355328) := by show _ ≤ _; rw [hcl]; decide
      have HB := Lib.hid (H.out.2.alloc H.out.2.size (.cells #[] 3))
      have HS : Hid (w.heap.size ≤ (wr.alloc (.cells #[] 3)).heap.size) := by show _ ≤ _; have := H.out.2.size; simp; omega
      clear hrd hcl hlt
      go_wp2_with (at_builtin; refine Kd.R_append_rows (Kd.int .i64) (Rr := (Kd.int .i64).K (wr.alloc (.cells #[] 3))) (w0 := w) (W := wr.alloc (.cells #[] 3)) w.heap.size rfl (.tmp 18) (.tmp 19) 39 3 (.int .i64 0) 8 rfl Tryz.underlying39 infoInt rfl (by decide) (by decide) (.slice (some ⟨wr.heap.size, 0, none⟩) 0 0) [] (histL b) (some ⟨w.heap.size, 0, none⟩) 256 256 (fun _ => True) (fun _ => False) rfl rfl HE.out HC.out (fun _ _ h => h) (fun _ h => h.elim) (fun _ _ => trivial) HB.out HS.out HL.out ?_; intro vi w2 hr2 hb2 hg2 hat2; have HR2 := Lib.hid hr2; have HB2 := Lib.hid hb2; clear hr2 hb2 hg2 hat2)
      go_ret
      rw [List.nil_append] at HR2
      exact ⟨_, rfl, HR2.out, HB2.out⟩
end Go.Proofs.YtdkemdcflbadhaaGreat
namespace Go.Proofs.YtdkemdcflbadhaaGreat
open Go.RowKit Go.IntWalk Go.Proofs.YtdkemdcflbadhaaGreatW.PrintWords
/-- a panic with an error's number -/
def panE (n : Int) : Ending := .panicked [{ v := .iface 24 (.int .i64 n), recovered := false }]
set_option maxRecDepth 100000 in
theorem wrong_no (w : World) : Calls Tryz.prog 183 #[.bool false] w fun e w' => e = .returned (.tuple #[]) ∧ w = w' := by
  go_enter Tryz.func183, Tryz.ntmps183
  go_wp2_with fail
  go_end0
  exact ⟨rfl, rfl⟩
set_option maxRecDepth 100000 in
theorem wrong_yes (w : World) : Calls Tryz.prog 183 #[.bool true] w fun e w' => e = panE 13 ∧ w = w' := by
  go_enter Tryz.func183, Tryz.ntmps183
  go_wp2_with fail
  first | exact ⟨rfl, rfl⟩ | (simp [bodyPost, panE])
set_option maxRecDepth 100000 in
theorem must_ok (n : Int) (w : World) : Calls Tryz.prog 184 #[.int .i64 n, .int .i64 0] w fun e w' => e = .returned (.int .i64 n) ∧ w = w' := by
  go_enter Tryz.func184, Tryz.ntmps184
  go_wp2_with fail
  go_ret
  exact ⟨rfl, rfl⟩
set_option maxRecDepth 100000 in
theorem must_no (n e : Int) (w : World) (h : ¬ e = 0) : Calls Tryz.prog 184 #[.int .i64 n, .int .i64 e] w fun en w' => en = panE e ∧ w = w' := by
  have hb : (e == 0) = false := beq_eq_false_iff_ne.2 h
  have hn : (e != 0) = true := by simp [h]
  go_enter Tryz.func184, Tryz.ntmps184
  go_wp2_with fail
  first | exact ⟨rfl, rfl⟩ | (simp [bodyPost, panE])
theorem runT_le {ps : List Int} {T : Nat} : ∀ (f at_ n most : Nat), (runT ps T f at_ n most).1 = 0 → (runT ps T f at_ n most).2.1 ≤ most := by
  intro f
  induction f with
  | zero => intro _ _ _ h; simp [runT] at h
  | succ f ih =>
    intro at_ n most
    simp only [runT]
    by_cases h1 : T < at_ + 2
    · rw [if_pos h1]; intro h; cases h
    · rw [if_neg h1]
      by_cases h2 : most < n + takeF ps at_ 2
      · rw [if_pos h2]; intro h; cases h
      · rw [if_neg h2]
        by_cases h3 : takeF ps at_ 2 = 3
        · rw [if_pos h3]; exact ih _ _ _
        · rw [if_neg h3]; intro _; simp only []; omega
/-- what holds in the loop of counts -/
structure HcRel (base p g : Nat) (ps : List Int) (H : Int × List Int × Nat) (w : World) (left s : Nat) (again : Bool) (q : List Int) (at_ d : Nat) (wr : World) : Prop where
  rd : RfAt wr base p ps at_
  row : (Kd.int .i64).R 3 wr w.heap.size (fun _ => True) (.slice (some ⟨g, 0, none⟩) 256 256) q
  ql : q.length = 256
  at_le : at_ ≤ 8 * ps.length
  eq : hdrT ps (8 * ps.length) d q s left again at_ = H
  fuel : 257 ≤ s + d
  only : Only (fun k => k = p) w wr
  gt : p < g ∧ w.heap.size ≤ g
def HCntPost (base p : Nat) (ps : List Int) (H : Int × List Int × Nat) (w : World) (e : Ending) (w' : World) : Prop :=
  (H.1 = 0 → ∃ g, e = .returned (.slice (some ⟨g, 0, none⟩) 256 256) ∧ (Kd.int .i64).R 3 w' w.heap.size (fun _ => True) (.slice (some ⟨g, 0, none⟩) 256 256) H.2.1 ∧ H.2.1.length = 256 ∧ RfAt w' base p ps H.2.2) ∧
  (H.1 ≠ 0 → e = panE H.1) ∧ Only (fun k => k = p) w w'
theorem HcRel.put {base p g : Nat} {ps : List Int} {H : Int × List Int × Nat} {w wr w1 : World} {left s : Nat} {again : Bool} {q : List Int} {at_ d : Nat} (h : HcRel base p g ps H w left s again q at_ d wr) {at2 : Nat} (hr : RfAt w1 base p ps at2) (ho : Only (fun k => k = p) wr w1) (x : Int) :
    RfAt (w1.setCell ⟨g, s, none⟩ (.int .i64 x)) base p ps at2 ∧ (Kd.int .i64).R 3 (w1.setCell ⟨g, s, none⟩ (.int .i64 x)) w.heap.size (fun _ => True) (.slice (some ⟨g, 0, none⟩) 256 256) (q.set s x) ∧ Only (fun k => k = p) w (w1.setCell ⟨g, s, none⟩ (.int .i64 x)) ∧
      (Kd.int .i64).R 3 w1 w.heap.size (fun _ => True) (.slice (some ⟨g, 0, none⟩) 256 256) q := by
  have hgp := h.gt
  have h1 : (Kd.int .i64).R 3 w1 w.heap.size (fun _ => True) (.slice (some ⟨g, 0, none⟩) 256 256) q := flat_only rfl h.row ho (fun k hk e => by
    have : g = k := by simpa [Value.ownBlock] using hk
    omega)
  have h2 := Kd.R_putn h1 (s : Int) x
  rw [Int.toNat_natCast] at h2
  refine ⟨hr.far hgp.1 s _, h2, ?_, h1⟩
  have h3 := h.only.trans ho
  exact ⟨h3.os, h3.tape, h3.output, by simp; exact h3.size, fun k hk hs => by rw [Below.heap_setCell _ _ _ _ (by show k ≠ g; omega)]; exact h3.block k hk hs⟩
end Go.Proofs.YtdkemdcflbadhaaGreat
namespace Go.Proofs.YtdkemdcflbadhaaGreat
open Go.RowKit Go.IntWalk Go.Proofs.YtdkemdcflbadhaaGreatW.PrintWords
set_option maxRecDepth 100000 in
set_option maxHeartbeats 2000000 in
theorem hcounts_any (base p : Nat) (ps : List Int) (at_ left0 : Nat) (w : World) (h : RfAt w base p ps at_) (hps : ∀ x ∈ ps, 0 ≤ x ∧ x < 256) (hl : ps.length ≤ 1000000) (ha : at_ ≤ 8 * ps.length) (hleft : left0 ≤ 4096) (hp : p < w.heap.size) :
    Calls Tryz.prog 127 #[.pointer (some ⟨p, 0, none⟩), .int .i64 left0] w (HCntPost base p ps (hdrT ps (8 * ps.length) 257 zeros256 0 left0 false at_) w) := by
  obtain ⟨H, hH⟩ : ∃ H, H = hdrT ps (8 * ps.length) 257 zeros256 0 left0 false at_ := ⟨_, rfl⟩
  rw [← hH]
  obtain ⟨W, hW⟩ : ∃ W, W = w.alloc (.cells (madeCells #[.int .i64 0] 256) 3) := ⟨_, rfl⟩
  have HI : Hid (HcRel base p w.heap.size ps H w left0 0 false zeros256 at_ 257 W) := by
    refine ⟨?_, ?_, by unfold zeros256; exact List.length_replicate, ha, hH.symm, by omega, ?_, hp, Nat.le_refl _⟩
    · rw [hW]; exact h.below ((Below.refl _ _).alloc (Nat.le_refl _) _)
    · rw [hW]; exact arr_row 256 3 w _ trivial _ (Nat.le_refl _) (by omega)
    · rw [hW]; exact (Only.refl _ _).alloc _
  have hmi : ∀ w : World, (Instr.makeSlice 39 (.int .i64 256) (.int .i64 256)).run Tryz.prog w = .ok (.slice (some ⟨w.heap.size, 0, none⟩) 256 256) (w.alloc (.cells (madeCells #[.int .i64 0] 256) 3)) := fun w => made_i64 256 (by omega) w
  have HP := Lib.hid (And.intro hps (And.intro hl ha))
  clear h hps hl ha hH
  go_enter Tryz.func127, Tryz.ntmps127
  go_wp2_with fail
  rw [← hW]
  obtain ⟨g, hg⟩ : ∃ g, g = w.heap.size := ⟨_, rfl⟩
  rw [← hg] at HI ⊢
  clear hW hg hmi
  go_loopw [1, 6, 7] (fun lv av sv wr => ∃ (left s : Nat) (again : Bool), lv = .int .i64 left ∧ av = .bool again ∧ sv = .int .i64 s ∧ left ≤ 4096 ∧ s ≤ 256 ∧ Hid (∃ q at' d, HcRel base p g ps H w left s again q at' d wr)) (fun _ _ sv _ => 257 - (intOf sv).toNat)
  case atStart => exact ⟨left0, 0, false, rfl, rfl, rfl, hleft, by omega, zeros256, at_, 257, HI⟩
  case round =>
    obtain ⟨left, s, again, rfl, rfl, rfl, hl4, hs, HR⟩ := hrel
    obtain ⟨q, at', d, hr⟩ := HR.out
    obtain ⟨d, rfl⟩ : ∃ d', d = d' + 1 := ⟨d - 1, by have := hr.fuel; omega⟩
    have heq := hr.eq
    simp only [hdrT] at heq
    have HH := Lib.hid hr
    clear hr HR
    by_cases h0 : left = 0
    · rw [if_pos h0] at heq
      have HE := Lib.hid heq
      subst h0
      clear heq
      go_wp2_with fail
      go_ret
      exact ⟨fun _ => ⟨g, rfl, by rw [← HE.out]; exact HH.out.row, by rw [← HE.out]; exact HH.out.ql, by rw [← HE.out]; exact HH.out.rd⟩, fun h => by rw [← HE.out] at h; exact absurd rfl h, HH.out.only⟩
    · rw [if_neg h0] at heq
      by_cases h256 : s = 256
      · rw [if_pos h256] at heq
        have HE := Lib.hid heq
        subst h256
        clear heq
        go_wp2_with fail
        refine (wrong_yes wr).mono ?_
        rintro e w' ⟨rfl, rfl⟩
        unfold panE
        go_wp2_with fail
        refine ⟨rfl, ?_⟩
        exact ⟨(fun h => by rw [← HE.out] at h; cases h), (fun _ => by rw [← HE.out]; rfl), HH.out.only⟩
      · rw [if_neg h256] at heq
        have hsb : ((s : Int) == 256) = false := beq_eq_false_iff_ne.2 (by omega)
        have hs256 : (s : Int) < 256 := by omega
        have HEQ := Lib.hid heq
        clear heq
        go_wp2_with fail
        refine (wrong_no wr).mono ?_
        rintro e w' ⟨rfl, rfl⟩
        go_wp2_with fail
        refine (btake_any base p ps at' left wr HH.out.rd HP.out.1 HP.out.2.1 HH.out.at_le (by omega) hl4).mono ?_
        rintro e w1 ⟨t1, t2, t3, t4⟩
        have HO := Lib.hid t4
        by_cases hT : 8 * ps.length < at' + Lib.bitLen left
        · obtain rfl := t1 hT
          have HE : Hid ((3, q, 0) = H) := by have := HEQ.out; rw [if_pos hT] at this; exact this
          clear t1 t2 t3 t4
          go_wp2_with fail
          refine (must_no 0 3 w1 (by decide)).mono ?_
          rintro e w' ⟨rfl, rfl⟩
          unfold panE
          go_wp2_with fail
          refine ⟨rfl, ?_⟩
          exact ⟨(fun h => by rw [← HE.out] at h; cases h), (fun _ => by rw [← HE.out]; rfl), HH.out.only.trans HO.out⟩
        · have HNT := Lib.hid hT
          have hT' : at' + Lib.bitLen left ≤ 8 * ps.length := by omega
          by_cases hV : left < takeF ps at' (Lib.bitLen left)
          · obtain rfl := t2 hT' hV
            have HE : Hid ((13, q, 0) = H) := by have := HEQ.out; rw [if_neg hT, if_pos hV] at this; exact this
            clear t1 t2 t3 t4 hT hT' hV
            go_wp2_with fail
            refine (must_no 0 13 w1 (by decide)).mono ?_
            rintro e w' ⟨rfl, rfl⟩
            unfold panE
            go_wp2_with fail
            refine ⟨rfl, ?_⟩
            exact ⟨(fun h => by rw [← HE.out] at h; cases h), (fun _ => by rw [← HE.out]; rfl), HH.out.only.trans HO.out⟩
          · obtain ⟨rfl, hrd⟩ := t3 hT' (by omega)
            obtain ⟨V, hVe⟩ : ∃ V, V = takeF ps at' (Lib.bitLen left) := ⟨_, rfl⟩
            have hq3 := HEQ.out
            rw [if_neg hT, if_neg hV] at hq3
            rw [← hVe] at hq3 hV ⊢
            have hVl : V ≤ left := by omega
            have HPut := Lib.hid (HH.out.put hrd HO.out (V : Int))
            obtain ⟨hcl, hfz⟩ := ints_cells HPut.out.2.2.2 s (by omega)
            have hcl2 := (ints_cells HPut.out.2.1 s (by omega)).1
            have hqs : (q.set s (V : Int)).getD s 0 = V := by rw [getD_setE _ _ _ _ (by have := HH.out.ql; omega), if_pos rfl]
            rw [hqs] at hcl2
            have HQ3 := Lib.hid hq3
            have HT2 := Lib.hid hT'
            obtain ⟨at2, hat2⟩ : ∃ a, a = at' + Lib.bitLen left := ⟨_, rfl⟩
            rw [← hat2] at HPut HQ3 HT2
            clear t1 t2 t3 t4 hT hT' hV hVe hq3 hqs hrd hat2
            by_cases hV0 : V = 0
            · subst hV0
              have hvb : (((0 : Nat) : Int) == 0) = true := rfl
              cases again with
              | true =>
                have HE : Hid ((13, q, 0) = H) := by have := HQ3.out; rw [if_pos ⟨rfl, rfl⟩] at this; exact this
                go_wp2_with fail
                refine (must_ok (0 : Int) w1).mono ?_
                rintro e w' ⟨rfl, rfl⟩
                go_wp2_with fail
                refine (wrong_yes _).mono ?_
                rintro e w' ⟨rfl, rfl⟩
                unfold panE
                go_wp2_with fail
                refine ⟨rfl, ?_⟩
                exact ⟨(fun h => by rw [← HE.out] at h; cases h), (fun _ => by rw [← HE.out]; rfl), HPut.out.2.2.1⟩
              | false =>
                by_cases hs1 : s + 1 = 256
                · have HE : Hid ((13, q, 0) = H) := by have := HQ3.out; rw [if_neg (fun h => by cases h.1), if_pos rfl, if_pos hs1] at this; exact this
                  have hsb1 : ((s : Int) + 1 == 256) = true := by simp; omega
                  go_wp2_with fail
                  refine (must_ok (0 : Int) w1).mono ?_
                  rintro e w' ⟨rfl, rfl⟩
                  go_wp2_with fail
                  refine (wrong_no _).mono ?_
                  rintro e w' ⟨rfl, rfl⟩
                  go_wp2_with fail
                  refine (wrong_yes _).mono ?_
                  rintro e w' ⟨rfl, rfl⟩
                  unfold panE
                  go_wp2_with fail
                  refine ⟨rfl, ?_⟩
                  exact ⟨(fun h => by rw [← HE.out] at h; cases h), (fun _ => by rw [← HE.out]; rfl), HPut.out.2.2.1⟩
                · have hsb1 : ((s : Int) + 1 == 256) = false := beq_eq_false_iff_ne.2 (by omega)
                  have hq4 := HQ3.out
                  rw [if_neg (fun h => by cases h.1), if_pos rfl, if_neg hs1] at hq4
                  have HQ4 := Lib.hid hq4
                  have hmost : (254 : Int) - (s : Int) = ((254 - s : Nat) : Int) := by omega
                  clear hq4
                  go_wp2_with fail
                  refine (must_ok (0 : Int) w1).mono ?_
                  rintro e w' ⟨rfl, rfl⟩
                  go_wp2_with fail
                  refine (wrong_no _).mono ?_
                  rintro e w' ⟨rfl, rfl⟩
                  go_wp2_with fail
                  refine (wrong_no _).mono ?_
                  rintro e w' ⟨rfl, rfl⟩
                  go_wp2_with fail
                  obtain ⟨R, hR⟩ : ∃ R, R = runT ps (8 * ps.length) 100 at2 0 (254 - s) := ⟨_, rfl⟩
                  have hRle : R.1 = 0 → R.2.1 ≤ 254 - s := fun h => by rw [hR] at h ⊢; exact runT_le _ _ _ _ h
                  have hRend : R.1 = 0 → R.2.2 ≤ 8 * ps.length := fun h => by rw [hR] at h ⊢; exact runT_end _ _ _ _ h
                  have hrt := rtake_any base p ps at2 (254 - s) _ HPut.out.1 HP.out.1 HP.out.2.1 HT2.out (by omega)
                  unfold RTakePost at hrt
                  rw [← hR] at hrt HQ4
                  have HRE := Lib.hid (And.intro hRle hRend)
                  clear hR hRle hRend
                  refine hrt.mono ?_
                  rintro e w2 ⟨r1, r2, r3⟩
                  have HO2 : Hid (Only (fun k => k = p) w w2) := HPut.out.2.2.1.trans r3
                  by_cases hr1 : R.1 = 0
                  · obtain ⟨rfl, hrd2⟩ := r1 hr1
                    have hle := HRE.out.1 hr1
                    have hq5 := HQ4.out
                    rw [if_neg (fun h => h hr1)] at hq5
                    have HNew : Hid (∃ q at' d, HcRel base p g ps H w left (s + R.2.1 + 1) true q at' d w2) := by
                      refine ⟨q.set s 0, R.2.2, d, hrd2, ?_, by simp [HH.out.ql], HRE.out.2 hr1, ?_, by have := HH.out.fuel; omega, HO2.out, HH.out.gt⟩
                      · exact flat_only rfl HPut.out.2.1 r3 (fun k hk e => by
                          have : g = k := by simpa [Value.ownBlock] using hk
                          have := HH.out.gt
                          omega)
                      · rw [show s + R.2.1 + 1 = s + 1 + R.2.1 by omega]; exact hq5
                    obtain ⟨rn, hrn⟩ : ∃ rn, rn = R.2.1 := ⟨_, rfl⟩
                    rw [← hrn] at hle HNew ⊢
                    clear r1 r2 r3 hrd2 hq5 hrt hrn
                    go_wp2_with fail
                    refine (must_ok (rn : Int) w2).mono ?_
                    rintro e w' ⟨rfl, rfl⟩
                    go_wp2_with fail
                    go_roundw
                    case rel => exact ⟨left, s + rn + 1, true, by first | rfl | (congr 1; omega), rfl, by go_num, hl4, by omega, HNew⟩
                    case measure => simp [intOf]; omega
                  · obtain rfl := r2 hr1
                    have HE : Hid ((R.1, q, 0) = H) := by have := HQ4.out; rw [if_pos hr1] at this; exact this
                    obtain ⟨rc, hrc⟩ : ∃ rc, rc = R.1 := ⟨_, rfl⟩
                    rw [← hrc] at HE hr1 ⊢
                    clear r1 r2 r3 hrt hrc
                    go_wp2_with fail
                    refine (must_no 0 rc w2 hr1).mono ?_
                    rintro e w' ⟨rfl, rfl⟩
                    unfold panE
                    go_wp2_with fail
                    refine ⟨rfl, ?_⟩
                    exact ⟨(fun h => by rw [← HE.out] at h; exact absurd h hr1), (fun _ => by rw [← HE.out]; rfl), HO2.out⟩
            · have hvb : ((V : Int) == 0) = false := beq_eq_false_iff_ne.2 (by omega)
              have hq4 := HQ3.out
              rw [if_neg (fun h => hV0 h.2), if_neg hV0] at hq4
              have HNew : Hid (∃ q at' d, HcRel base p g ps H w (left - V) (s + 1) false q at' d (w1.setCell ⟨g, s, none⟩ (.int .i64 (V : Int)))) :=
                ⟨q.set s (V : Int), at2, d, HPut.out.1, HPut.out.2.1, by simp [HH.out.ql], HT2.out, hq4, by have := HH.out.fuel; omega, HPut.out.2.2.1, HH.out.gt⟩
              have hls : (left : Int) - (V : Int) = ((left - V : Nat) : Int) := by omega
              clear hq4
              cases again with
              | true =>
                go_wp2_with fail
                refine (must_ok (V : Int) w1).mono ?_
                rintro e w' ⟨rfl, rfl⟩
                go_wp2_with fail
                refine (wrong_no _).mono ?_
                rintro e w' ⟨rfl, rfl⟩
                go_wp2_with fail
                go_roundw
                case rel => exact ⟨left - V, s + 1, false, by first | rfl | (congr 1; omega), rfl, by go_num, by omega, by omega, HNew⟩
                case measure => simp [intOf]; omega
              | false =>
                go_wp2_with fail
                refine (must_ok (V : Int) w1).mono ?_
                rintro e w' ⟨rfl, rfl⟩
                go_wp2_with fail
                refine (wrong_no _).mono ?_
                rintro e w' ⟨rfl, rfl⟩
                go_wp2_with fail
                go_roundw
                case rel => exact ⟨left - V, s + 1, false, by first | rfl | (congr 1; omega), rfl, by go_num, by omega, by omega, HNew⟩
                case measure => simp [intOf]; omega
end Go.Proofs.YtdkemdcflbadhaaGreat
namespace Go.Proofs.YtdkemdcflbadhaaGreat
open Go.RowKit Go.IntWalk Go.Proofs.YtdkemdcflbadhaaGreatW.PrintWords
set_option maxRecDepth 100000 in
theorem htake1_pan (a b : Nat) (va : Value) (n x : Int) (older : List PanicEntry) (w : World) (ha : w.cell? ⟨a, 0, none⟩ = some va) (hfa : w.frozen? ⟨a, 0, none⟩ = false) (hb : w.cell? ⟨b, 0, none⟩ = some (.int .i64 x)) (hfb : w.frozen? ⟨b, 0, none⟩ = false) (hne : a ≠ b) :
    CallsD Tryz.prog 126 #[.pointer (some ⟨a, 0, none⟩), .pointer (some ⟨b, 0, none⟩)] (.panicking ({ v := .iface 24 (.int .i64 n), recovered := false } :: older)) w fun e u' w' =>
      e = .returned (.tuple #[]) ∧ u' = .panicking ({ v := .iface 24 (.int .i64 n), recovered := true } :: older) ∧ w' = (w.setCell ⟨a, 0, none⟩ (.slice none 0 0)).setCell ⟨b, 0, none⟩ (.int .i64 n) := by
  have ta : ∀ (v : Value) (w : World), (Instr.typeAssert (.iface 24 v) 20 24 true).run Tryz.prog w = .ok (.tuple #[v, .bool true]) w := fun v w => by kernel_rfl
  have hne2 : ¬ b = a := fun e => hne e.symm
  refine callsD_of_wpS Tryz.func126 rfl fun c₀ cs hu => ?_
  apply wpS_seq
  apply wpS_region
  simp [wpOpsS, go_sem, recoverD, hu, Tryz.ntmps126, Exit.thenS, ta]
  apply wpS_seq
  apply wpS_region
  simp [wpOpsS, go_sem, Exit.thenS]
  refine wpS_cond (t := true) (by simp [Act.eval, Array.replicate]) ?_
  simp only [if_true]
  apply wpS_region
  have hb2 : (w.setCell ⟨a, 0, none⟩ (.slice none 0 0)).cell? ⟨b, 0, none⟩ = some (.int .i64 x) := by
    rw [World.cell?_setCell_other _ _ _ _ (by simp)]; exact hb
  have hfb2 : (w.setCell ⟨a, 0, none⟩ (.slice none 0 0)).frozen? ⟨b, 0, none⟩ = false := by simp [hfb, go_sem]
  simp [wpOpsS, go_sem, ha, hfa, hb2, hfb2, bodyPostS, results, Tryz.results126]
set_option maxRecDepth 100000 in
theorem htake1_idle (a b : Nat) (w : World) :
    CallsD Tryz.prog 126 #[.pointer (some ⟨a, 0, none⟩), .pointer (some ⟨b, 0, none⟩)] .returning w fun e u' w' => e = .returned (.tuple #[]) ∧ u' = .returning ∧ w' = w := by
  have ta : ∀ (w : World), (Instr.typeAssert .nilIface 20 24 true).run Tryz.prog w = .ok (.tuple #[.int .i64 0, .bool false]) w := fun w => by kernel_rfl
  refine callsD_of_wpS Tryz.func126 rfl fun c₀ cs hu => ?_
  apply wpS_seq
  apply wpS_region
  simp [wpOpsS, go_sem, recoverD, hu, Tryz.ntmps126, Exit.thenS, ta]
  apply wpS_seq
  apply wpS_region
  simp [wpOpsS, go_sem, Exit.thenS]
  refine wpS_cond (t := false) (by simp [Act.eval, Array.replicate]) ?_
  simp only [Bool.false_eq_true, if_false]
  refine wpS_of_wp (wp_skip ?_)
  cases c₀
  simp_all [bodyPostS, results, Tryz.results126]
theorem Only.setNew {S : Nat → Prop} {w w1 : World} (h : Only S w w1) {a : Nat} (ha : w.heap.size ≤ a) (j : Nat) (u : Value) : Only S w (w1.setCell ⟨a, j, none⟩ u) :=
  ⟨h.os, h.tape, h.output, by simp; exact h.size, fun k hk hs => by rw [Below.heap_setCell _ _ _ _ (by show k ≠ a; omega)]; exact h.block k hk hs⟩
def HTakePost (base p : Nat) (ps : List Int) (H : Int × List Int × Nat) (w : World) (e : Ending) (w' : World) : Prop :=
  (H.1 = 0 → ∃ g, e = .returned (.tuple #[.slice (some ⟨g, 0, none⟩) 256 256, .int .i64 0]) ∧ (Kd.int .i64).R 3 w' w.heap.size (fun _ => True) (.slice (some ⟨g, 0, none⟩) 256 256) H.2.1 ∧ H.2.1.length = 256 ∧ RfAt w' base p ps H.2.2) ∧
  (H.1 ≠ 0 → e = .returned (.tuple #[.slice none 0 0, .int .i64 H.1])) ∧ Only (fun k => k = p) w w'
set_option maxRecDepth 100000 in
set_option maxHeartbeats 1000000 in
theorem htake_any (base p r : Nat) (ps : List Int) (at_ : Nat) (w : World) (h : RfAt w base p ps at_) (hps : ∀ x ∈ ps, 0 ≤ x ∧ x < 256) (hl : ps.length ≤ 1000000) (ha : at_ ≤ 8 * ps.length) (h1 : 1 ≤ r) (h12 : r ≤ 12) (hp : p < w.heap.size) :
    Calls Tryz.prog 64 #[.pointer (some ⟨p, 0, none⟩), .int .i64 r] w (HTakePost base p ps (hdrT ps (8 * ps.length) 257 zeros256 0 (2 ^ r) false at_) w) := by
  obtain ⟨P, hP⟩ : ∃ P : Nat, P = 2 ^ r := ⟨_, rfl⟩
  rw [← hP]
  obtain ⟨H, hH⟩ : ∃ H, H = hdrT ps (8 * ps.length) 257 zeros256 0 P false at_ := ⟨_, rfl⟩
  rw [← hH]
  have hPI : (2 : Int) ^ r = (P : Int) := by rw [hP]; simp
  have hPb : 1 ≤ P ∧ P ≤ 4096 := by have := pow_le12 h12; rw [hPI] at this; omega
  have hw1 : IntKind.i64.wrap (2 ^ r) = (P : Int) := by rw [hPI]; exact i64_in _ (by omega)
  obtain ⟨W, hW⟩ : ∃ W, W = (w.alloc (.cells #[.slice none 0 0] 39)).alloc (.cells #[.int .i64 0] 24) := ⟨_, rfl⟩
  have hmf : ∀ (fn : Fn) (first cap : Array Value) (w : World), (Instr.makeFunc fn first cap).run Tryz.prog w = .ok (.func fn first cap) w := fun _ _ _ _ => rfl
  have hr1 : ¬ (r : Int) < 1 := by omega
  have hr2 : ¬ 12 < (r : Int) := by omega
  have hr0 : (0 : Int) ≤ r := by omega
  have HW := Lib.hid hPI
  have hsz : W.heap.size = w.heap.size + 2 := by rw [hW]; simp
  have hba : W.heap[w.heap.size]? = some (.cells #[.slice none 0 0] 39 (0, 0)) := by rw [hW]; exact blk_alloc (blk_new _ _) _
  have hbb : W.heap[w.heap.size + 1]? = some (.cells #[.int .i64 0] 24 (0, 0)) := by rw [hW]; exact blk_new1 _ _ _
  have hWb : Below w.heap.size w W := by rw [hW]; exact ((Below.refl _ _).alloc (Nat.le_refl _) _).alloc (by simp) _
  have HCnt := Lib.hid (hcounts_any base p ps at_ P W (h.below hWb) hps hl ha (by omega) (by omega))
  rw [← hH] at HCnt
  obtain ⟨a, hae⟩ : ∃ a, a = w.heap.size := ⟨_, rfl⟩
  obtain ⟨b, hbe⟩ : ∃ b, b = w.heap.size + 1 := ⟨_, rfl⟩
  rw [← hae] at hba
  rw [← hbe] at hbb
  have HA := Lib.hid (And.intro hae (And.intro hbe (And.intro hsz (And.intro hba (And.intro hbb (And.intro hWb hp))))))
  clear hPI hP hH h hps hl ha hsz hba hbb hWb hp
  go_enter_defers Tryz.func64, Tryz.ntmps64
  go_wp2_with fail
  rw [← hW, ← hbe, ← hae]
  clear hW hae hbe
  refine HCnt.out.mono ?_
  rintro e w1 ⟨c1, c2, c3⟩
  have hab : p ≠ a ∧ p ≠ b ∧ a ≠ b ∧ a < W.heap.size ∧ b < W.heap.size := by obtain ⟨q1, q2, q3, q4, q5, q6, q7⟩ := HA.out; omega
  have hba1 : w1.heap[a]? = some (.cells #[.slice none 0 0] 39 (0, 0)) := by rw [c3.block a hab.2.2.2.1 (fun e => hab.1 e.symm)]; exact HA.out.2.2.2.1
  have hbb1 : w1.heap[b]? = some (.cells #[.int .i64 0] 24 (0, 0)) := by rw [c3.block b hab.2.2.2.2 (fun e => hab.2.1 e.symm)]; exact HA.out.2.2.2.2.1
  have ca : w1.cell? ⟨a, 0, none⟩ = some (.slice none 0 0) := (blk_cell hba1 0).trans rfl
  have cb : w1.cell? ⟨b, 0, none⟩ = some (.int .i64 0) := (blk_cell hbb1 0).trans rfl
  have fa : w1.frozen? ⟨a, 0, none⟩ = false := blk_frozen hba1 0
  have fb : w1.frozen? ⟨b, 0, none⟩ = false := blk_frozen hbb1 0
  have HC3 := Lib.hid (And.intro c3 hab)
  have hne : ¬ a = b := hab.2.2.1
  have hne' : ¬ b = a := fun e => hab.2.2.1 e.symm
  by_cases h0 : H.1 = 0
  · obtain ⟨g, rfl, d1, d2, d3⟩ := c1 h0
    have HD := Lib.hid (And.intro d1 (And.intro d2 (And.intro d3 h0)))
    clear c1 c2 c3 d1 d2 d3 hba1 hbb1
    go_wp2_with fail
    refine leaves_cons (f := 126) (args := #[.pointer (some ⟨a, 0, none⟩), .pointer (some ⟨b, 0, none⟩)]) (by simp) (by simp [go_sem]) ?_
    refine (htake1_idle a b _).mono ?_
    rintro e u' w'' ⟨rfl, rfl, rfl⟩
    have ca2 : (w1.setCell ⟨a, 0, none⟩ (.slice (some ⟨g, 0, none⟩) 256 256)).cell? ⟨a, 0, none⟩ = some (.slice (some ⟨g, 0, none⟩) 256 256) := World.cell?_setCell_same _ _ _ ca
    have cb2 : ((w1.setCell ⟨a, 0, none⟩ (.slice (some ⟨g, 0, none⟩) 256 256)).setCell ⟨b, 0, none⟩ (.int .i64 0)).cell? ⟨b, 0, none⟩ = some (.int .i64 0) := World.cell?_setCell_same _ _ _ (by rw [World.cell?_setCell_other _ _ _ _ (by simp)]; exact cb)
    simp [Leaves, settle, results, Tryz.results64, go_sem, ca2, cb2]
    have ho : Only (fun k => k = p) w w1 := (Only.of_below HA.out.2.2.2.2.2.1).trans HC3.out.1
    refine ⟨fun _ => ⟨g, rfl, ?_, HD.out.2.1, ?_⟩, fun h => absurd HD.out.2.2.2 h, (ho.setNew (by have := HA.out.1; omega) 0 _).setNew (by have := HA.out.2.1; omega) 0 _⟩
    · have hlt := HC3.out.2
      have h1 := Kd.R_bound HD.out.1
      have h2 := Kd.R_far (p := ⟨b, 0, none⟩) (Kd.R_far (p := ⟨a, 0, none⟩) h1 (fun k hk => by show k ≠ a; have := hk.2.1; omega) (.slice (some ⟨g, 0, none⟩) 256 256)) (fun k hk => by show k ≠ b; have := hk.2.1; omega) (.int .i64 0)
      exact Kd.R_mono (Kd.R_lower h2 HA.out.2.2.2.2.2.1.size) (fun _ _ => trivial)
    · have h1 := HA.out.1; have h2 := HA.out.2.1; have h3 := HA.out.2.2.2.2.2.2
      exact (HD.out.2.2.1.far (by omega) 0 _).far (by omega) 0 _
  · obtain rfl := c2 h0
    have HD := Lib.hid h0
    clear c1 c2 c3 hba1 hbb1
    unfold panE
    go_wp2_with fail
    refine leaves_cons (f := 126) (args := #[.pointer (some ⟨a, 0, none⟩), .pointer (some ⟨b, 0, none⟩)]) (by simp) (by simp [go_sem]) ?_
    refine (htake1_pan a b (.slice none 0 0) H.1 0 [] w1 ca fa cb fb hne).mono ?_
    rintro e u' w'' ⟨rfl, rfl, rfl⟩
    have ca2 : (w1.setCell ⟨a, 0, none⟩ (.slice none 0 0)).cell? ⟨a, 0, none⟩ = some (.slice none 0 0) := World.cell?_setCell_same _ _ _ ca
    have cb2 : ((w1.setCell ⟨a, 0, none⟩ (.slice none 0 0)).setCell ⟨b, 0, none⟩ (.int .i64 H.1)).cell? ⟨b, 0, none⟩ = some (.int .i64 H.1) := World.cell?_setCell_same _ _ _ (by rw [World.cell?_setCell_other _ _ _ _ (by simp)]; exact cb)
    simp [Leaves, settle, results, Tryz.results64, go_sem, ca2, cb2]
    refine ⟨fun h => absurd h HD.out, fun _ => rfl, ?_⟩
    have ho : Only (fun k => k = p) w w1 := (Only.of_below HA.out.2.2.2.2.2.1).trans HC3.out.1
    exact (ho.setNew (by have := HA.out.1; omega) 0 _).setNew (by have := HA.out.2.1; omega) 0 _
end Go.Proofs.YtdkemdcflbadhaaGreat
namespace Go.Proofs.YtdkemdcflbadhaaGreat
open Go.RowKit
/-- how many bits are put behind the first i contexts -/
def putN (l : List Int) : Nat → Nat
  | 0 => 0
  | i + 1 => (l.getD i 0).toNat + 1
/-- contexts: from 0 on, each above the one ahead, below 256 -/
structure Asc (l : List Int) : Prop where
  first : l.getD 0 1 = 0
  asc : ∀ i, i + 1 < l.length → l.getD i 0 < l.getD (i + 1) 0
  lo : ∀ x ∈ l, 0 ≤ x
  hi : ∀ x ∈ l, x < 256
theorem Asc.pos {l : List Int} (h : Asc l) : 0 < l.length := by
  rcases Nat.eq_zero_or_pos l.length with e | e
  · have := h.first
    rw [List.eq_nil_of_length_eq_zero e] at this; cases this
  · exact e
theorem Asc.zero {l : List Int} (h : Asc l) : l.getD 0 0 = 0 := by
  have h1 := h.first
  have h2 := h.pos
  rw [List.getD_eq_getElem?_getD, List.getElem?_eq_getElem h2, Option.getD_some] at h1 ⊢
  exact h1
theorem Asc.lt {l : List Int} (h : Asc l) : ∀ (d i : Nat), i + d + 1 < l.length → l.getD i 0 < l.getD (i + d + 1) 0 := by
  intro d
  induction d with
  | zero => intro i hi; exact h.asc i hi
  | succ d ih =>
    intro i hi
    have h1 := ih i (by omega)
    have h2 := h.asc (i + d + 1) (by omega)
    rw [show i + (d + 1) + 1 = i + d + 1 + 1 by omega]
    omega
theorem Asc.lt' {l : List Int} (h : Asc l) {i j : Nat} (hij : i < j) (hj : j < l.length) : l.getD i 0 < l.getD j 0 := by
  have := h.lt (j - i - 1) i (by omega)
  rwa [show i + (j - i - 1) + 1 = j by omega] at this
theorem Asc.get {l : List Int} (h : Asc l) {i : Nat} (hi : i < l.length) : ∃ c : Nat, l.getD i 0 = c ∧ c < 256 := by
  have hm := hd_mem hi
  have h1 := h.lo _ hm
  have h2 := h.hi _ hm
  exact ⟨(l.getD i 0).toNat, by omega, by omega⟩
theorem Asc.put_le {l : List Int} (h : Asc l) {i c : Nat} (hi : i < l.length) (hc : l.getD i 0 = c) : putN l i ≤ c := by
  cases i with
  | zero => exact Nat.zero_le _
  | succ i =>
    have h1 := h.asc i hi
    have h2 := h.lo _ (hd_mem (show i < l.length by omega))
    show (l.getD i 0).toNat + 1 ≤ c
    omega
theorem mem_getD {l : List Int} {x : Int} (h : x ∈ l) : ∃ j, j < l.length ∧ l.getD j 0 = x := by
  obtain ⟨j, hj, rfl⟩ := List.getElem_of_mem h
  exact ⟨j, hj, by rw [List.getD_eq_getElem?_getD, List.getElem?_eq_getElem hj, Option.getD_some]⟩
theorem dirB_get (l : List Int) {n : Nat} (hn : n < 256) : (dirB l).getD n false = decide ((n : Int) ∈ l) := by
  rw [List.getD_eq_getElem?_getD, List.getElem?_eq_getElem (by rw [dirB_len]; omega), Option.getD_some]
  simp [dirB]
/-- between two contexts there is none -/
theorem Asc.gap {l : List Int} (h : Asc l) {i n c : Nat} (hi : i < l.length) (hc : l.getD i 0 = c) (h1 : putN l i ≤ n) (h2 : n < c) : (n : Int) ∉ l := by
  intro hm
  obtain ⟨j, hj, e⟩ := mem_getD hm
  rcases Nat.lt_trichotomy j i with hlt | heq | hgt
  · cases i with
    | zero => omega
    | succ i =>
      have h3 : (l.getD i 0).toNat + 1 ≤ n := h1
      by_cases hji : j = i
      · subst hji; omega
      · have := h.lt' (show j < i by omega) (by omega); omega
  · subst heq; omega
  · have := h.lt' hgt hj; omega
theorem Asc.behind {l : List Int} (h : Asc l) {n : Nat} (h1 : putN l l.length ≤ n) : (n : Int) ∉ l := by
  intro hm
  obtain ⟨j, hj, e⟩ := mem_getD hm
  obtain ⟨m, hm2⟩ : ∃ m, l.length = m + 1 := ⟨l.length - 1, by omega⟩
  rw [hm2] at h1
  have h3 : (l.getD m 0).toNat + 1 ≤ n := h1
  by_cases hjm : j = m
  · subst hjm; omega
  · have := h.lt' (show j < m by omega) (by omega); omega
/-- the next bit is 0 -/
theorem dir_zero {l : List Int} (h : Asc l) {i n c : Nat} (hi : i < l.length) (hc : l.getD i 0 = c) (hc2 : c < 256) (h1 : putN l i ≤ n) (h2 : n < c) : (dirB l).take (n + 1) = (dirB l).take n ++ [false] := by
  have hl := dirB_len l
  rw [List.take_succ_eq_append_getElem (by omega)]
  congr 2
  have h3 := dirB_get l (n := n) (by omega)
  rw [decide_eq_false (h.gap hi hc h1 h2), List.getD_eq_getElem?_getD, List.getElem?_eq_getElem (by omega), Option.getD_some] at h3
  exact h3
/-- the next bit is 1 -/
theorem dir_one {l : List Int} {i c : Nat} (hi : i < l.length) (hc : l.getD i 0 = c) (hc2 : c < 256) : (dirB l).take (putN l (i + 1)) = (dirB l).take c ++ [true] := by
  have hl := dirB_len l
  have e : putN l (i + 1) = c + 1 := by show (l.getD i 0).toNat + 1 = _; omega
  rw [e, List.take_succ_eq_append_getElem (by omega)]
  congr 2
  have h3 := dirB_get l (n := c) hc2
  rw [decide_eq_true (by rw [← hc]; exact hd_mem hi), List.getD_eq_getElem?_getD, List.getElem?_eq_getElem (by omega), Option.getD_some] at h3
  exact h3
/-- bits that are 0 at the end are bytes that are 0 -/
theorem packB_zeros (bs : List Bool) (n : Nat) (hn : n ≤ bs.length) (h : ∀ k, n ≤ k → bs.getD k false = false) : packB bs = packB (bs.take n) ++ List.replicate ((bs.length + 7) / 8 - (n + 7) / 8) 0 := by
  apply List.ext_getElem
  · rw [packB_len, List.length_append, packB_len, List.length_replicate, List.length_take]; omega
  · intro j h1 h2
    rw [packB_at]
    rw [packB_len] at h1
    have hb : ∀ (a b : List Bool), (∀ k, a.getD k false = b.getD k false) → a.length ≤ b.length → byteL a = byteL b := by
      intro a b hab hle
      have e : b = a ++ List.replicate (b.length - a.length) false := by
        apply List.ext_getElem
        · rw [List.length_append, List.length_replicate]; omega
        · intro k k1 k2
          have := hab k
          rw [List.getD_eq_getElem?_getD, List.getD_eq_getElem?_getD, List.getElem?_eq_getElem k1, Option.getD_some] at this
          by_cases hk : k < a.length
          · rw [List.getElem?_eq_getElem hk, Option.getD_some] at this
            rw [List.getElem_append_left hk]; exact this.symm
          · rw [List.getElem?_eq_none (by omega)] at this
            rw [List.getElem_append_right (by omega), List.getElem_replicate]; exact this.symm
      have z : ∀ m, byteL (a ++ List.replicate m false) = byteL a := by
        intro m
        induction m with
        | zero => simp
        | succ m ih => rw [List.replicate_succ', ← List.append_assoc, byteL_snoc, ih]; simp
      rw [e, z]
    by_cases hj : j < (packB (bs.take n)).length
    · rw [List.getElem_append_left hj, packB_at]
      congr 1
      symm
      refine hb _ _ (fun k => ?_) ?_
      · simp only [List.getD_eq_getElem?_getD, List.getElem?_take, List.getElem?_drop]
        by_cases hk : k < 8
        · rw [if_pos hk, if_pos hk]
          by_cases hk2 : 8 * j + k < n
          · rw [if_pos hk2]
          · rw [if_neg hk2]
            have := h (8 * j + k) (by omega)
            rw [List.getD_eq_getElem?_getD] at this
            rw [this]; rfl
        · rw [if_neg hk, if_neg hk]
      · simp only [List.length_take, List.length_drop]; omega
    · rw [List.getElem_append_right (by omega), List.getElem_replicate]
      rw [packB_len, List.length_take, Nat.min_eq_left hn] at hj
      have : byteL ((bs.drop (8 * j)).take 8) = byteL [] := by
        symm
        refine hb _ _ (fun k => ?_) (by simp)
        simp only [List.getD_eq_getElem?_getD, List.getElem?_take, List.getElem?_drop, List.getElem?_nil]
        by_cases hk : k < 8
        · rw [if_pos hk]
          have := h (8 * j + k) (by omega)
          rw [List.getD_eq_getElem?_getD] at this
          rw [this]; rfl
        · rw [if_neg hk]
      rw [this]; rfl
theorem dir_end {l : List Int} (h : Asc l) : dirL l = packB ((dirB l).take (putN l l.length)) ++ List.replicate (32 - ((putN l l.length) + 7) / 8) 0 := by
  have hl := dirB_len l
  have hn : putN l l.length ≤ 256 := by
    have hp := h.pos
    obtain ⟨m, hm2⟩ : ∃ m, l.length = m + 1 := ⟨l.length - 1, by omega⟩
    rw [hm2]
    show (l.getD m 0).toNat + 1 ≤ 256
    have := h.hi _ (hd_mem (show m < l.length by omega)); omega
  have := packB_zeros (dirB l) (putN l l.length) (by omega) (fun k hk => by
    by_cases hk2 : k < 256
    · rw [dirB_get l hk2, decide_eq_false (h.behind hk)]
    · rw [List.getD_eq_getElem?_getD, List.getElem?_eq_none (by omega)]; rfl)
  rw [hl] at this
  exact this
theorem pres_asc {b : List Int} (h0 : 0 < b.length) : Asc (presN b 256) := by
  refine ⟨pres_first h0, fun i hi => ?_, fun x hx => ?_, fun x hx => ?_⟩
  · have hp : (presN b 256).Pairwise (· < ·) := by
      unfold presN
      rw [List.pairwise_map]
      refine List.Pairwise.filter _ (List.Pairwise.imp (fun h => ?_) List.pairwise_lt_range)
      omega
    have := List.pairwise_iff_getElem.1 hp i (i + 1) (by omega) hi (by omega)
    rw [List.getD_eq_getElem?_getD, List.getElem?_eq_getElem (by omega), List.getD_eq_getElem?_getD, List.getElem?_eq_getElem hi]
    exact this
  · unfold presN at hx
    obtain ⟨c, _, rfl⟩ := List.mem_map.1 hx; omega
  · unfold presN at hx
    obtain ⟨c, hc, rfl⟩ := List.mem_map.1 hx
    have := List.mem_range.1 (List.mem_filter.1 hc).1; omega
end Go.Proofs.YtdkemdcflbadhaaGreat
namespace Go.Proofs.YtdkemdcflbadhaaGreat
open Go.RowKit Go.Proofs.YtdkemdcflbadhaaGreatW.PrintWords
open HeapL
def claimN (rest : List Int) (s : Nat) : K3 := ((s : Int), rest.getD s 0, 0)
def candN (rest : List Int) (had : List Bool) (k : Nat) : List K3 := ((List.range k).filter (fun s => !had.getD s false)).map (claimN rest)
def claimT (c q : List Int) (s : Nat) : K3 := ((s : Int), q.getD s 0, (1073741824 - c.getD s 0) * 256 + s)
def candT (c q : List Int) (k : Nat) : List K3 := ((List.range k).filter (fun s => decide (0 < c.getD s 0))).map (claimT c q)
theorem candN_succ (rest : List Int) (had : List Bool) (k : Nat) : candN rest had (k + 1) = if had.getD k false = false then candN rest had k ++ [claimN rest k] else candN rest had k := by
  unfold candN
  have e : [k].filter (fun s => !had.getD s false) = if had.getD k false = false then [k] else [] := by
    rw [List.filter_cons, List.filter_nil]; cases had.getD k false <;> rfl
  rw [List.range_succ, List.filter_append, List.map_append, e]
  split
  · rfl
  · rw [List.map_nil, List.append_nil]
theorem candT_succ (c q : List Int) (k : Nat) : candT c q (k + 1) = if 0 < c.getD k 0 then candT c q k ++ [claimT c q k] else candT c q k := by
  unfold candT
  rw [List.range_succ, List.filter_append, List.map_append, List.filter_cons, List.filter_nil]
  by_cases h : 0 < c.getD k 0
  · rw [if_pos h, if_pos (decide_eq_true h)]; rfl
  · rw [if_neg h, if_neg (by rw [decide_eq_false h]; decide), List.map_nil, List.append_nil]
theorem candN_len (rest : List Int) (had : List Bool) (k : Nat) : (candN rest had k).length ≤ k := by
  unfold candN; rw [List.length_map]; exact Nat.le_trans (List.length_filter_le _ _) (by simp)
theorem candT_len (c q : List Int) (k : Nat) : (candT c q k).length ≤ k := by
  unfold candT; rw [List.length_map]; exact Nat.le_trans (List.length_filter_le _ _) (by simp)
theorem part_at {p : Nat → Bool} {t : Nat} (ht : t < 256) (hp : p t = true) : ((List.range 256).filter p).Perm (t :: (List.range 256).filter (fun s => p s && decide (s ≠ t))) := by
  have hm : t ∈ (List.range 256).filter p := List.mem_filter.2 ⟨List.mem_range.2 ht, hp⟩
  have hn : ((List.range 256).filter p).Nodup := List.Pairwise.filter _ List.nodup_range
  have e : ((List.range 256).filter p).erase t = (List.range 256).filter (fun s => p s && decide (s ≠ t)) := by
    rw [hn.erase_eq_filter, List.filter_filter]
    refine List.filter_congr fun s _ => ?_
    rw [Bool.and_comm]
    congr 1
    by_cases h : s = t <;> simp [h]
  rw [← e]
  exact List.perm_cons_erase hm
theorem need_spec (rest : List Int) (had : List Bool) : ∀ k s, s < k → had.getD s false = false → 0 ≤ needN rest had k ∧ (rest.getD s 0 < rest.getD (needN rest had k).toNat 0 ∨ rest.getD s 0 = rest.getD (needN rest had k).toNat 0 ∧ needN rest had k ≤ s)
  | 0, s, h, _ => by omega
  | k + 1, s, h, hs => by
    have hl := needN_lt rest had k
    simp only [needN]
    by_cases e : s = k
    · subst e
      rw [if_neg (by rw [hs]; decide)]
      by_cases h1 : needN rest had s < 0
      · rw [if_pos h1, Int.toNat_natCast]; exact ⟨by omega, .inr ⟨rfl, Int.le_refl _⟩⟩
      · rw [if_neg h1]
        by_cases h2 : rest.getD s 0 > rest.getD (needN rest had s).toNat 0
        · rw [if_pos h2, Int.toNat_natCast]; exact ⟨by omega, .inr ⟨rfl, Int.le_refl _⟩⟩
        · rw [if_neg h2]; exact ⟨by omega, by omega⟩
    · obtain ⟨i1, i2⟩ := need_spec rest had k s (by omega) hs
      by_cases h0 : had.getD k false = true
      · rw [if_pos h0]; exact ⟨i1, i2⟩
      · rw [if_neg h0, if_neg (by omega)]
        by_cases h2 : rest.getD k 0 > rest.getD (needN rest had k).toNat 0
        · rw [if_pos h2, Int.toNat_natCast]; exact ⟨by omega, .inl (by omega)⟩
        · rw [if_neg h2]; exact ⟨i1, i2⟩
theorem rich_spec (q c : List Int) : ∀ k s, s < k → q.getD s 0 < q.getD (richN q c k) 0 ∨ q.getD s 0 = q.getD (richN q c k) 0 ∧ (c.getD (richN q c k) 0 < c.getD s 0 ∨ c.getD (richN q c k) 0 = c.getD s 0 ∧ s ≤ richN q c k)
  | 0, s, h => by omega
  | k + 1, s, h => by
    have hl := richN_lt q c k
    by_cases e : s = k
    · subst e
      simp only [richN]
      split
      · exact .inr ⟨rfl, .inr ⟨rfl, Nat.le_refl _⟩⟩
      · omega
    · have ih := rich_spec q c k s (by omega)
      simp only [richN]
      split
      · omega
      · exact ih
theorem mem_candN {rest : List Int} {had : List Bool} {x : K3} (h : x ∈ candN rest had 256) : ∃ s, s < 256 ∧ had.getD s false = false ∧ x = claimN rest s := by
  obtain ⟨s, hs, rfl⟩ := List.mem_map.1 h
  obtain ⟨h1, h2⟩ := List.mem_filter.1 hs
  exact ⟨s, List.mem_range.1 h1, by simpa using h2, rfl⟩
theorem candN_mem {rest : List Int} {had : List Bool} {s : Nat} (h : s < 256) (h2 : had.getD s false = false) : claimN rest s ∈ candN rest had 256 :=
  List.mem_map.2 ⟨s, List.mem_filter.2 ⟨List.mem_range.2 h, by show (!had.getD s false) = true; rw [h2]; rfl⟩, rfl⟩
theorem get_of_mem {ys : List K3} {x : K3} (h : x ∈ ys) : ∃ k, k < ys.length ∧ ys.getD k z3 = x := by
  obtain ⟨k, hk, rfl⟩ := List.getElem_of_mem h
  exact ⟨k, hk, by rw [List.getD_eq_getElem?_getD, List.getElem?_eq_getElem hk]; rfl⟩
theorem mem_get {ys : List K3} {k : Nat} (h : k < ys.length) : ys.getD k z3 ∈ ys := by
  rw [List.getD_eq_getElem?_getD, List.getElem?_eq_getElem h]; exact List.getElem_mem _
theorem give_root {rest : List Int} {had : List Bool} {ys : List K3} (hp : ys.Perm (candN rest had 256)) (hh : From lessC z3 ys 0 ys.length) (h0 : 0 < ys.length) :
    ∃ t : Nat, needN rest had 256 = t ∧ t < 256 ∧ had.getD t false = false ∧ ys.getD 0 z3 = claimN rest t := by
  obtain ⟨s, hs, hsf, e⟩ := mem_candN (hp.subset (mem_get h0))
  obtain ⟨n1, n2⟩ := need_spec rest had 256 s hs hsf
  obtain ⟨l1, l2, l3⟩ := needN_lt rest had 256
  obtain ⟨t, ht⟩ : ∃ t : Nat, needN rest had 256 = t := ⟨_, (Int.toNat_of_nonneg n1).symm⟩
  rw [ht] at n1 n2 l2 l3
  rw [Int.toNat_natCast] at n2 l3
  have hf := l3 (by omega)
  obtain ⟨k, hk, ek⟩ := get_of_mem (hp.symm.subset (candN_mem (rest := rest) (show t < 256 by omega) hf))
  have hr := From.root ordC hh (Nat.le_refl _) (fun _ _ => trivial) k hk
  rw [ek, e, lessC_false] at hr
  simp only [claimN, true_and, Int.lt_irrefl, false_or] at hr
  have est : s = t := by omega
  subst est
  exact ⟨s, ht, hs, hf, e⟩
theorem give_rest {rest : List Int} {had : List Bool} {ys zs : List K3} {t : Nat} (hl : had.length = 256) (ht : t < 256) (hf : had.getD t false = false) (hp : ys.Perm (candN rest had 256)) (h : (claimN rest t :: zs).Perm ys) : zs.Perm (candN rest (had.set t true) 256) := by
  have h1 := (part_at (p := fun s => !had.getD s false) ht (by show (!had.getD t false) = true; rw [hf]; rfl)).map (claimN rest)
  have h2 : (claimN rest t :: zs).Perm (claimN rest t :: ((List.range 256).filter (fun s => (!had.getD s false) && decide (s ≠ t))).map (claimN rest)) := (h.trans hp).trans h1
  have h3 := h2.cons_inv
  have e : candN rest (had.set t true) 256 = ((List.range 256).filter (fun s => (!had.getD s false) && decide (s ≠ t))).map (claimN rest) := by
    unfold candN
    congr 1
    refine List.filter_congr fun s hs => ?_
    rw [List.getD_eq_getElem?_getD, List.getElem?_set]
    by_cases e : t = s
    · subst e; rw [if_pos rfl, if_pos (by omega)]; simp
    · rw [if_neg e, ← List.getD_eq_getElem?_getD]
      have : ¬ s = t := fun x => e x.symm
      simp [this]
  rw [e]; exact h3
theorem mem_candT {c q : List Int} {x : K3} (h : x ∈ candT c q 256) : ∃ s, s < 256 ∧ 0 < c.getD s 0 ∧ x = claimT c q s := by
  obtain ⟨s, hs, rfl⟩ := List.mem_map.1 h
  obtain ⟨h1, h2⟩ := List.mem_filter.1 hs
  exact ⟨s, List.mem_range.1 h1, by simpa using h2, rfl⟩
theorem candT_mem {c q : List Int} {s : Nat} (h : s < 256) (h2 : 0 < c.getD s 0) : claimT c q s ∈ candT c q 256 :=
  List.mem_map.2 ⟨s, List.mem_filter.2 ⟨List.mem_range.2 h, decide_eq_true h2⟩, rfl⟩
theorem take_root {c q : List Int} {ys : List K3} (hi : ∀ s, 0 < q.getD s 0 ↔ 0 < c.getD s 0) (hp : ys.Perm (candT c q 256)) (hh : From lessC z3 ys 0 ys.length) (h0 : 0 < ys.length) :
    richN q c 256 < 256 ∧ 0 < c.getD (richN q c 256) 0 ∧ ys.getD 0 z3 = claimT c q (richN q c 256) := by
  obtain ⟨s, hs, hsf, e⟩ := mem_candT (hp.subset (mem_get h0))
  have n2 := rich_spec q c 256 s hs
  have l2 := richN_lt q c 256
  obtain ⟨t, ht⟩ : ∃ t : Nat, t = richN q c 256 := ⟨_, rfl⟩
  rw [← ht] at n2 l2 ⊢
  have hqs := (hi s).2 hsf
  have hct : 0 < c.getD t 0 := (hi t).1 (by omega)
  obtain ⟨k, hk, ek⟩ := get_of_mem (hp.symm.subset (candT_mem (q := q) (show t < 256 by omega) hct))
  have hr := From.root ordC hh (Nat.le_refl _) (fun _ _ => trivial) k hk
  rw [ek, e, lessC_false] at hr
  simp only [claimT] at hr
  have est : s = t := by omega
  subst est
  exact ⟨hs, hct, e⟩
theorem take_rest {c q : List Int} {ys zs us : List K3} {t : Nat} (hl : q.length = 256) (ht : t < 256) (hf : 0 < c.getD t 0) (hp : ys.Perm (candT c q 256)) (h : (claimT c q t :: zs).Perm ys)
    (hu : us.Perm (((t : Int), q.getD t 0 - 1, (1073741824 - c.getD t 0) * 256 + t) :: zs)) : us.Perm (candT c (q.set t (q.getD t 0 - 1)) 256) := by
  have hpa := part_at (p := fun s => decide (0 < c.getD s 0)) ht (decide_eq_true hf)
  have h2 : (claimT c q t :: zs).Perm (claimT c q t :: ((List.range 256).filter (fun s => (decide (0 < c.getD s 0)) && decide (s ≠ t))).map (claimT c q)) := (h.trans hp).trans (hpa.map (claimT c q))
  have h3 := h2.cons_inv
  have h4 := hpa.map (claimT c (q.set t (q.getD t 0 - 1)))
  rw [List.map_cons] at h4
  have e1 : claimT c (q.set t (q.getD t 0 - 1)) t = ((t : Int), q.getD t 0 - 1, (1073741824 - c.getD t 0) * 256 + t) := by
    unfold claimT; rw [getD_set _ _ _ _ (by omega), if_pos rfl]
  have e2 : ((List.range 256).filter (fun s => (decide (0 < c.getD s 0)) && decide (s ≠ t))).map (claimT c (q.set t (q.getD t 0 - 1))) = ((List.range 256).filter (fun s => (decide (0 < c.getD s 0)) && decide (s ≠ t))).map (claimT c q) := by
    refine List.map_congr_left fun s hs => ?_
    have hs2 := (List.mem_filter.1 hs).2
    have : s ≠ t := by simp at hs2; exact hs2.2
    unfold claimT; rw [getD_set _ _ _ _ (by omega), if_neg this]
  rw [e1, e2] at h4
  exact (hu.trans (h3.cons _)).trans h4.symm
end Go.Proofs.YtdkemdcflbadhaaGreat
namespace Go.Proofs.YtdkemdcflbadhaaGreat
open Go.RowKit Go.IntWalk Go.Proofs.YtdkemdcflbadhaaGreatW.PrintWords
open HeapL
structure GvRel (gq c B : Nat) (w : World) (qs : List Int) (p : Nat) (v : Value) (ys : List K3) (wr : World) : Prop where
  q : (Kd.int .i64).R 3 wr B (fun _ => True) (.slice (some ⟨gq, 0, none⟩) 256 c) qs
  h : CKp p B wr v ys
  ne : p ≠ gq ∧ v.ownBlock ≠ some gq
  heap : From lessC z3 ys 0 ys.length
  below : Below B w wr
  pB : B ≤ p
theorem GvRel.start {gq c B : Nat} {w : World} {qs : List Int} {l : Value} {xs : List K3} (hq : (Kd.int .i64).R 3 w B (fun _ => True) (.slice (some ⟨gq, 0, none⟩) 256 c) qs)
    (hl : k3.R 214 w B (fun k => k ≠ gq) l xs) (hB : B ≤ w.heap.size) :
    CKp w.heap.size B (w.alloc (.cells #[l] 212)) l xs ∧ (Kd.int .i64).R 3 (w.alloc (.cells #[l] 212)) B (fun _ => True) (.slice (some ⟨gq, 0, none⟩) 256 c) qs ∧
      w.heap.size ≠ gq ∧ l.ownBlock ≠ some gq ∧ Below B w (w.alloc (.cells #[l] 212)) := by
  have h1 := Kd.R_lt hq gq rfl
  refine ⟨⟨blk_new _ _, Kd.R_alloc (Kd.R_mono (Kd.R_bound hl) (fun k hk => by have := hk.2.2.1; omega)) _⟩, Kd.R_alloc hq _, by omega, fun e => hl.1 gq e rfl, (Below.refl _ _).alloc hB _⟩
theorem GvRel.of_init {gq c B : Nat} {w w1 w2 : World} {qs : List Int} {p : Nat} {v : Value} {ys : List K3} (hq : (Kd.int .i64).R 3 w1 B (fun _ => True) (.slice (some ⟨gq, 0, none⟩) 256 c) qs) (hp : p ≠ gq) (hv : v.ownBlock ≠ some gq) (hb : Below B w w1) (hB : B ≤ p) (hB1 : B ≤ w1.heap.size)
    (h : CKp p B w2 v ys) (hh : From lessC z3 ys 0 ys.length) (ho : Only (fun k => v.ownBlock = some k) w1 w2) : GvRel gq c B w qs p v ys w2 :=
  ⟨flat_only rfl hq ho (fun k hk e => hv (by rw [e, ← hk]; rfl)), h, ⟨hp, hv⟩, hh, hb.trans (ho.below hB1 (fun k e => Kd.R_base h.row k e)), hB⟩
theorem GvRel.popped {gq c B g n cap : Nat} {w w1 w2 : World} {qs : List Int} {p : Nat} {ys zs : List K3} (H : GvRel gq c B w qs p (.slice (some ⟨g, 0, none⟩) (n + 1) cap) ys w1) (hB1 : B ≤ w1.heap.size)
    (h : CKp p B w2 (.slice (some ⟨g, 0, none⟩) n cap) zs) (hh : From lessC z3 zs 0 n) (ho : Only (fun k => k = p ∨ k = g) w1 w2) : GvRel gq c B w qs p (.slice (some ⟨g, 0, none⟩) n cap) zs w2 := by
  have hg : g ≠ gq := fun e => H.ne.2 (by rw [e]; rfl)
  have hn := (Kd.R_reads' h.row).1
  exact ⟨flat_only rfl H.q ho (fun k hk e => by
    have hk' : gq = k := by simpa [Value.ownBlock] using hk
    subst hk'
    rcases e with e | e
    · exact H.ne.1 e.symm
    · exact hg e.symm), h, ⟨H.ne.1, fun e => hg (by simpa [Value.ownBlock] using e)⟩, by rw [← hn]; exact hh,
    H.below.trans (ho.below hB1 (fun k e => by rcases e with e | e; exact e ▸ H.pB; exact e ▸ Kd.R_base h.row g rfl)), H.pB⟩
theorem GvRel.put {gq c B : Nat} {w w1 : World} {qs : List Int} {p : Nat} {v : Value} {ys : List K3} (H : GvRel gq c B w qs p v ys w1) (t : Nat) (y : Int) : GvRel gq c B w (qs.set t y) p v ys (w1.setCell ⟨gq, t, none⟩ (.int .i64 y)) := by
  have ho : Only (fun k => k = gq) w1 (w1.setCell ⟨gq, t, none⟩ (.int .i64 y)) := (Only.refl _ _).set1 _ _
  have hr := Kd.R_putn H.q (t : Int) y
  rw [Int.toNat_natCast] at hr
  refine ⟨hr, ⟨blk_far H.h.blk (p := ⟨gq, t, none⟩) H.ne.1 _, ?_⟩, H.ne, H.heap, H.below.setCell (Kd.R_base H.q gq rfl) _, H.pB⟩
  exact Kd.R_mono (Kd.R_step (Kd.R_tight rfl H.h.row) (fun k hk hlt => ho.block k hlt (fun e => H.ne.2 (by rw [← e]; exact hk.symm)))) (fun k hk => H.h.row.1 k hk.symm)
theorem giveIt_succ {rest : List Int} {m : Nat} {st : List Int × List Bool} {t : Nat} (h : needN rest (giveIt rest m st).2 256 = t) : giveIt rest (m + 1) st = ((giveIt rest m st).1.set t ((giveIt rest m st).1.getD t 0 + 1), (giveIt rest m st).2.set t true) := by
  simp only [giveIt]; rw [h, Int.toNat_natCast]
/-- what holds after so many rounds -/
structure GvNum (rest : List Int) (had : List Bool) (ys : List K3) (k : Nat) (st : List Int × List Bool) : Prop where
  ql : st.1.length = 256
  hl : st.2.length = 256
  rng : ∀ s, 0 ≤ st.1.getD s 0 ∧ st.1.getD s 0 ≤ 8192 + k
  free : freeN st.2 + k = freeN had
  perm : ys.Perm (candN rest st.2 256)
theorem GvNum.some {rest : List Int} {had : List Bool} {ys : List K3} {k : Nat} {st : List Int × List Bool} (h : GvNum rest had ys k st) (hk : k < freeN had) : 0 < ys.length := by
  obtain ⟨s, hs, hf⟩ := free_exists h.hl (by have := h.free; omega)
  exact List.length_pos_of_mem (h.perm.symm.subset (candN_mem hs hf))
theorem GvNum.next {rest : List Int} {had : List Bool} {ys zs : List K3} {k t : Nat} {st : List Int × List Bool} (h : GvNum rest had ys k st) (ht : t < 256) (hf : st.2.getD t false = false) (hz : (claimN rest t :: zs).Perm ys) : GvNum rest had zs (k + 1) (st.1.set t (st.1.getD t 0 + 1), st.2.set t true) := by
  refine ⟨by simp [h.ql], by simp [h.hl], fun s => ?_, ?_, give_rest h.hl ht hf h.perm hz⟩
  · show 0 ≤ (st.1.set t (st.1.getD t 0 + 1)).getD s 0 ∧ (st.1.set t (st.1.getD t 0 + 1)).getD s 0 ≤ 8192 + ((k + 1 : Nat) : Int)
    rw [getD_set _ _ _ _ (by rw [h.ql]; exact ht)]
    have h1 := h.rng t; have h2 := h.rng s
    split <;> omega
  · have := free_set (s := t) (by rw [h.hl]; exact ht) hf
    have := h.free
    show freeN (st.2.set t true) + (k + 1) = _
    omega
theorem cfield0 (a b c : Value) (w : World) : (Instr.field 214 (.agg #[a, b, c]) 0).run Tryz.prog w = .ok a w := by kernel_rfl
def GivePost (gq c B : Nat) (qs' : List Int) (w : World) (e : Ending) (w' : World) : Prop := e = .returned (.tuple #[]) ∧ (Kd.int .i64).R 3 w' B (fun _ => True) (.slice (some ⟨gq, 0, none⟩) 256 c) qs' ∧ Below B w w'
set_option maxRecDepth 100000 in
set_option maxHeartbeats 1000000 in
theorem give_any (gq c B : Nat) (qs : List Int) (l : Value) (rest : List Int) (had : List Bool) (m : Nat) (w : World) (hq : (Kd.int .i64).R 3 w B (fun _ => True) (.slice (some ⟨gq, 0, none⟩) 256 c) qs)
    (hl : k3.R 214 w B (fun k => k ≠ gq) l (candN rest had 256)) (hB : B ≤ w.heap.size) (hqs : qs.length = 256) (hhl : had.length = 256) (hr : ∀ s, 0 ≤ qs.getD s 0 ∧ qs.getD s 0 ≤ 8192) (hm : m ≤ freeN had) (hm2 : m ≤ 4096) :
    Calls Tryz.prog 199 #[.slice (some ⟨gq, 0, none⟩) 256 c, l, .int .i64 m] w (GivePost gq c B (giveIt rest m (qs, had)).1 w) := by
  have HS := Lib.hid (GvRel.start hq hl hB)
  have HM := Lib.hid (And.intro hB (And.intro hqs (And.intro hhl (And.intro hr hm))))
  clear hq hl hB hqs hhl hr hm
  obtain ⟨A, cl, rfl⟩ := Kd.R_slice HS.out.1.row
  have ta := cassertKey
  go_enter Tryz.func199, Tryz.ntmps199
  go_wp2_with fail
  refine (cinit_any _ HS.out.1 (by have := candN_len rest had 256; omega)).mono ?_
  rintro e w2 ⟨rfl, ys, h1, h2, h3, h4⟩
  have HI : Hid (GvRel gq c B w qs w.heap.size (.slice A (candN rest had 256).length cl) ys w2 ∧ GvNum rest had ys 0 (qs, had)) :=
    ⟨GvRel.of_init HS.out.2.1 HS.out.2.2.1 HS.out.2.2.2.1 HS.out.2.2.2.2 HM.out.1 (by simp; have := HM.out.1; omega) h1 h3 h4, ⟨HM.out.2.1, HM.out.2.2.1, fun s => by have := HM.out.2.2.2.1 s; show 0 ≤ qs.getD s 0 ∧ qs.getD s 0 ≤ 8192 + ((0 : Nat) : Int); omega, rfl, h2⟩⟩
  clear h1 h2 h3 h4
  go_wp2_with fail
  go_loopw [9] (fun kv wr => ∃ (k : Nat) (v : Value) (ys : List K3), kv = .int .i64 k ∧ k ≤ m ∧ Hid (GvRel gq c B w (giveIt rest k (qs, had)).1 w.heap.size v ys wr ∧ GvNum rest had ys k (giveIt rest k (qs, had)))) (fun kv _ => m - (intOf kv).toNat)
  case atStart => exact ⟨0, _, ys, rfl, by omega, HI⟩
  case round =>
    obtain ⟨k, v, ys, rfl, hk, H⟩ := hrel
    by_cases hlt : k < m
    · have hpos := H.out.2.some (by have := HM.out.2.2.2.2; omega)
      obtain ⟨g, cap, rfl, -⟩ := Kd.R_form H.out.1.h.row hpos
      obtain ⟨t, ht1, ht2, ht3, ht4⟩ := give_root H.out.2.perm H.out.1.heap hpos
      obtain ⟨n, hn⟩ : ∃ n, ys.length = n + 1 := ⟨ys.length - 1, by omega⟩
      rw [hn] at H
      have hn6 : n ≤ 100000 := by have := H.out.2.perm.length_eq; have := candN_len rest (giveIt rest k (qs, had)).2 256; omega
      have HT := Lib.hid (And.intro ht1 (And.intro ht2 (And.intro ht3 (And.intro ht4 hn))))
      have HBr : Hid (B ≤ wr.heap.size) := Nat.le_trans HM.out.1 H.out.1.below.size
      clear ht1 ht3 ht4 hn hpos
      go_wp2_with fail
      refine (chpop_any ordC _ H.out.1.h hn6 (fun _ _ => trivial) (by have := H.out.1.heap; rw [HT.out.2.2.2.2] at this; exact this)).mono ?_
      rintro e w3 ⟨rfl, zs, h1, h2, h3, h4⟩
      have H3 : Hid (GvRel gq c B w (giveIt rest k (qs, had)).1 w.heap.size (.slice (some ⟨g, 0, none⟩) n cap) zs w3) := GvRel.popped H.out.1 HBr.out h1 h3 h4
      rw [HT.out.2.2.2.1] at h2 ⊢
      have HZ := Lib.hid (GvNum.next H.out.2 ht2 HT.out.2.2.1 h2)
      clear h1 h2 h3 h4
      obtain ⟨hc3, hf3⟩ := ints_cells H3.out.q t ht2
      obtain ⟨hy0, hy1⟩ := H.out.2.rng t
      obtain ⟨y, hy⟩ : ∃ y, y = (giveIt rest k (qs, had)).1.getD t 0 := ⟨_, rfl⟩
      rw [← hy] at hc3 hy0 hy1
      have HY := Lib.hid hy
      have ht256 : (t : Int) < 256 := by omega
      clear hy
      simp only [claimN]
      obtain ⟨z, hz⟩ : ∃ z, z = rest.getD t 0 := ⟨_, rfl⟩
      rw [← hz]
      have fd := cfield0 (.int .i64 t) (.int .i64 z) (.int .i64 0)
      clear hz
      go_wp2_with fail
      go_roundw
      case rel =>
        have hg := giveIt_succ (st := (qs, had)) HT.out.1
        refine ⟨k + 1, .slice (some ⟨g, 0, none⟩) n cap, zs, by go_num, by omega, ?_⟩
        rw [hg, ← HY.out]
        exact ⟨H3.out.put t (y + 1), by rw [HY.out]; exact HZ.out⟩
      case measure => simp [intOf]; omega
    · have hkm : k = m := by omega
      subst hkm
      go_wp2_with fail
      go_end0
      exact ⟨rfl, H.out.1.q, H.out.1.below⟩
end Go.Proofs.YtdkemdcflbadhaaGreat
namespace Go.Proofs.YtdkemdcflbadhaaGreat
open Go.RowKit Go.IntWalk Go.Proofs.YtdkemdcflbadhaaGreatW.PrintWords
open HeapL
structure TkRel (gq cq B : Nat) (W0 : World) (qs : List Int) (p : Nat) (v : Value) (ys : List K3) (wr : World) : Prop where
  q : (Kd.int .i64).R 3 wr B (fun _ => True) (.slice (some ⟨gq, 0, none⟩) 256 cq) qs
  h : CKp p B wr v ys
  ne : p ≠ gq ∧ v.ownBlock ≠ some gq
  below : Below B W0 wr
  pB : B ≤ p
theorem TkRel.start {gq cq B : Nat} {W0 w : World} {qs : List Int} (hq : (Kd.int .i64).R 3 w B (fun _ => True) (.slice (some ⟨gq, 0, none⟩) 256 cq) qs) (hb : Below B W0 w) (hB : B ≤ w.heap.size) :
    TkRel gq cq B W0 qs w.heap.size (.slice none 0 0) [] (w.alloc (.cells #[.slice none 0 0] 212)) := by
  have h1 := Kd.R_lt hq gq rfl
  exact ⟨Kd.R_alloc hq _, ⟨blk_new _ _, Kd.R_nil _ _ _ _ _⟩, ⟨by omega, by simp [Value.ownBlock]⟩, hb.alloc hB _, hB⟩
/-- one more is appended, and the cell is stored -/
theorem TkRel.app {gq cq B : Nat} {W0 W wa : World} {qs : List Int} {p : Nat} {v v1 : Value} {ys zs : List K3} (H : TkRel gq cq B W0 qs p v ys W) (hB : B ≤ W.heap.size) (hr : k3.R 214 wa B (fun k => k ≠ p) v1 zs) (hg : W.grownBy wa v.ownBlock)
    (hat : v1.ownBlock = v.ownBlock ∨ ∃ b, v1.ownBlock = some b ∧ W.heap.size ≤ b) : TkRel gq cq B W0 qs p v1 zs (wa.setCell ⟨p, 0, none⟩ v1) := by
  have hpv : some p ≠ v.ownBlock := fun e => H.h.row.1 p e.symm rfl
  have hgl := Kd.R_lt H.q gq rfl
  have hb1 := blk_grown H.h.blk hg hpv
  have hne1 : v1.ownBlock ≠ some gq := fun e => by
    rcases hat with h | ⟨b, h, hle⟩
    · exact H.ne.2 (by rw [← h]; exact e)
    · rw [h] at e; injection e with e; omega
  have h1 := Kd.R_grown1 H.q rfl hg H.ne.2
  have ho : Only (fun k => k = p) wa (wa.setCell ⟨p, 0, none⟩ v1) := (Only.refl _ _).set1 _ _
  refine ⟨flat_only rfl h1 ho (fun k hk e => H.ne.1 (by rw [← e]; simpa [Value.ownBlock] using hk.symm)), ⟨blk_set hb1 0 _, Kd.R_far (p := ⟨p, 0, none⟩) hr (fun k hk => hk) _⟩, ⟨H.ne.1, hne1⟩, ?_, H.pB⟩
  exact (below_of_grown H.below hg (fun k hk => Kd.R_base H.h.row k hk) hB).setCell H.pB _
theorem GvRel.alloc {gq c B : Nat} {w : World} {qs : List Int} {p : Nat} {v : Value} {ys : List K3} {wr : World} (H : GvRel gq c B w qs p v ys wr) (hB : B ≤ wr.heap.size) (o : Obj) : GvRel gq c B w qs p v ys (wr.alloc o) :=
  ⟨Kd.R_alloc H.q o, H.h.below ((Below.refl _ _).alloc (Nat.le_refl _) o), H.ne, H.heap, H.below.alloc hB o, H.pB⟩
theorem GvRel.far {gq c B : Nat} {w : World} {qs : List Int} {p : Nat} {v : Value} {ys : List K3} {wr : World} (H : GvRel gq c B w qs p v ys wr) {g : Nat} (h1 : g ≠ gq) (h2 : p ≠ g) (h3 : v.ownBlock ≠ some g) (hB : B ≤ g) (j : Nat) (u : Value) : GvRel gq c B w qs p v ys (wr.setCell ⟨g, j, none⟩ u) := by
  have ho : Only (fun k => k = g) wr (wr.setCell ⟨g, j, none⟩ u) := (Only.refl _ _).set1 _ _
  refine ⟨flat_only rfl H.q ho (fun k hk e => h1 (by rw [← e]; simpa [Value.ownBlock] using hk.symm)), ⟨blk_far H.h.blk (p := ⟨g, j, none⟩) h2 _, ?_⟩, H.ne, H.heap, H.below.setCell hB _, H.pB⟩
  exact Kd.R_mono (Kd.R_step (Kd.R_tight rfl H.h.row) (fun k hk hlt => ho.block k hlt (fun e => h3 (by rw [← e]; exact hk.symm)))) (fun k hk => H.h.row.1 k hk.symm)
theorem GvRel.pushed {gq c B : Nat} {w w1 w2 : World} {qs : List Int} {p : Nat} {v v' : Value} {ys zs : List K3} (H : GvRel gq c B w qs p v ys w1) (hB : B ≤ w1.heap.size) (h : CKp p B w2 v' zs) (hh : From lessC z3 zs 0 zs.length)
    (hat : v'.ownBlock = v.ownBlock ∨ ∃ b, v'.ownBlock = some b ∧ w1.heap.size ≤ b) (ho : Only (fun k => k = p ∨ v.ownBlock = some k) w1 w2) : GvRel gq c B w qs p v' zs w2 := by
  have hgl := Kd.R_lt H.q gq rfl
  refine ⟨flat_only rfl H.q ho (fun k hk e => ?_), h, ⟨H.ne.1, fun e => ?_⟩, hh, H.below.trans (ho.below hB (fun k e => ?_)), H.pB⟩
  · have hk' : gq = k := by simpa [Value.ownBlock] using hk
    subst hk'
    rcases e with e | e
    · exact H.ne.1 e.symm
    · exact H.ne.2 e
  · rcases hat with h | ⟨b, h, hle⟩
    · exact H.ne.2 (by rw [← h]; exact e)
    · rw [h] at e; injection e with e; omega
  · rcases e with e | e
    · exact e ▸ H.pB
    · exact Kd.R_base H.h.row k e
theorem takeIt_succ (c : List Int) (m : Nat) (q : List Int) : takeIt c (m + 1) q = (takeIt c m q).set (richN (takeIt c m q) c 256) ((takeIt c m q).getD (richN (takeIt c m q) c 256) 0 - 1) := rfl
def TakeOkay (c q : List Int) (m : Nat) : Prop := ∀ k, k ≤ m → (takeIt c k q).length = 256 ∧ (∀ s, 0 ≤ (takeIt c k q).getD s 0 ∧ (takeIt c k q).getD s 0 ≤ 100000) ∧ ∀ s, 0 < (takeIt c k q).getD s 0 ↔ 0 < c.getD s 0
def TkPost (gq cq B : Nat) (qs' : List Int) (W0 : World) (e : Ending) (w' : World) : Prop := e = .returned (.tuple #[]) ∧ (Kd.int .i64).R 3 w' B (fun _ => True) (.slice (some ⟨gq, 0, none⟩) 256 cq) qs' ∧ Below B W0 w'
set_option maxRecDepth 100000 in
set_option maxHeartbeats 2000000 in
theorem normTake_any (gq cq cc : Nat) (A : Option Addr) (W0 : World) (qs c : List Int) (m : Nat) (w : World) (hq : (Kd.int .i64).R 3 w W0.heap.size (fun _ => True) (.slice (some ⟨gq, 0, none⟩) 256 cq) qs)
    (hc : (Kd.int .i64).C W0 A 256 c) (hb : Below W0.heap.size W0 w) (hcl : c.length = 256) (hcr : ∀ s, 0 ≤ c.getD s 0 ∧ c.getD s 0 ≤ 1073741824) (hok : TakeOkay c qs m) (hm2 : m ≤ 2000000) (hpos : 0 < m → ∃ s, s < 256 ∧ 0 < c.getD s 0) :
    Calls Tryz.prog 200 #[.slice (some ⟨gq, 0, none⟩) 256 cq, .slice A 256 cc, .int .i64 m] w (TkPost gq cq W0.heap.size (takeIt c m qs) W0) := by
  have HQ := Lib.hid hq
  have HC := Lib.hid (And.intro hc (And.intro hcl hcr))
  have HO := Lib.hid hok
  have HP := Lib.hid hpos
  have HB := Lib.hid hb
  have HI : Hid (TkRel gq cq W0.heap.size W0 qs w.heap.size (.slice none 0 0) [] (w.alloc (.cells #[.slice none 0 0] 212))) := TkRel.start hq hb hb.size
  clear hq hc hb hcl hcr hok hpos
  go_enter Tryz.func200, Tryz.ntmps200
  go_wp2_with fail
  go_loopw [12] (fun kv wr => ∃ (k : Nat) (v : Value), kv = .int .i64 k ∧ k ≤ 256 ∧ Hid (TkRel gq cq W0.heap.size W0 qs w.heap.size v (candT c qs k) wr)) (fun kv _ => 256 - (intOf kv).toNat)
  case atStart => exact ⟨0, _, rfl, by omega, HI⟩
  case round =>
    obtain ⟨k, v, rfl, hk, H⟩ := hrel
    by_cases hlt : k < 256
    · obtain ⟨hqc, -⟩ := ints_cells H.out.q k hlt
      obtain ⟨y, hy⟩ : ∃ y, y = qs.getD k 0 := ⟨_, rfl⟩
      rw [← hy] at hqc
      have hy2 := (HO.out 0 (Nat.zero_le _)).2.1 k
      have hyc := (HO.out 0 (Nat.zero_le _)).2.2 k
      simp only [takeIt] at hy2 hyc
      rw [← hy] at hy2 hyc
      obtain ⟨hy0, hy1⟩ := hy2
      have HY := Lib.hid (And.intro hy hyc)
      clear hy hyc
      by_cases hpos : 0 < y
      · obtain ⟨ad, rfl, hcc⟩ := ints_get HC.out.1 k hlt
        obtain ⟨z, hz⟩ : ∃ z, z = c.getD k 0 := ⟨_, rfl⟩
        obtain ⟨hz0, hz1⟩ := HC.out.2.2 k
        rw [← hz] at hcc hz0 hz1
        have hcw := pw_cell_below H.out.below hcc
        have hcw2 : (wr.alloc (.cells #[.int .i64 k, .int .i64 y, .int .i64 (IntKind.i64.wrap (IntKind.i64.wrap (IntKind.i64.wrap (1073741824 - z) * 256) + (k : Int)))] 214)).cell? (ad.add k) = some (.int .i64 z) := pw_cell_below ((Below.refl _ _).alloc (Nat.le_refl _) _) hcw
        have HZ := Lib.hid hz
        have HE : Hid (IntKind.i64.wrap (IntKind.i64.wrap (IntKind.i64.wrap (1073741824 - z) * 256) + (k : Int)) = (1073741824 - z) * 256 + k) := by
          show _ = _
          rw [i64_in (1073741824 - z) (by omega), i64_in ((1073741824 - z) * 256) (by omega), i64_in ((1073741824 - z) * 256 + (k : Int)) (by omega)]
        clear hz hcc
        have hpc := H.out.h.cell
        have hpf := blk_frozen H.out.h.blk 0
        have hpl := blk_lt H.out.h.blk
        have hpn : ¬ w.heap.size = wr.heap.size := by omega
        have hpn' : ¬ wr.heap.size = w.heap.size := by omega
        have hfr : Hid (∀ k, wr.heap.size ≤ k → k ≠ w.heap.size) := fun k hk e => by omega
        have HL : Hid (((candT c qs k).length + 1) * 24 ≤ 140737488355328) := by show _ ≤ _; have := candT_len c qs k; omega
        have HN : Hid (some w.heap.size ≠ v.ownBlock) := fun e => H.out.h.row.1 _ e.symm rfl
        have HBr : Hid (W0.heap.size ≤ wr.heap.size) := H.out.below.size
        go_wp2_with fail
        go_region_law (first | (refine R_append_drew k3 (w0 := W0) (W := wr) W0.heap.size rfl (.tmp 19) (.tmp 31) 212 214 _ 24 rfl Tryz.underlying212 cinfoKey rfl (by decide) (by decide) v (candT c qs k) ((k : Int), y, IntKind.i64.wrap (IntKind.i64.wrap (IntKind.i64.wrap (1073741824 - z) * 256) + (k : Int))) [.int .i64 k, .int .i64 y, .int .i64 (IntKind.i64.wrap (IntKind.i64.wrap (IntKind.i64.wrap (1073741824 - z) * 256) + (k : Int)))] (fun k => k ≠ w.heap.size) (fun _ => False) rfl rfl (k3_mkM _ _ _ _) (fun _ h => h.elim) hfr.out H.out.h.row H.out.below HBr.out HL.out ?_; intro v1 w1 hr1 hb1 hg1 hat1; have hb2 := blk_grown H.out.h.blk hg1 HN.out; have hc2 : w1.cell? ⟨w.heap.size, 0, none⟩ = some v := (blk_cell hb2 0).trans rfl; have hf2 := blk_frozen hb2 0; have HT := Lib.hid (TkRel.app H.out HBr.out hr1 hg1 hat1); obtain ⟨A1, c1, rfl⟩ := Kd.R_slice hr1; simp only [List.length_append, List.length_singleton] at HT; clear hr1 hb1 hg1 hat1) | fail)
        all_goals
          go_wp2_with fail
          go_roundw
          case rel =>
            refine ⟨k + 1, .slice A1 ((candT c qs k).length + 1) c1, by go_num, by omega, ?_⟩
            rw [candT_succ, if_pos (HY.out.2.1 hpos)]
            unfold claimT
            rw [← HY.out.1, ← HZ.out, ← HE.out]
            exact HT.out
          case measure => simp [intOf]; omega
      · go_wp2_with fail
        go_roundw
        case rel =>
          refine ⟨k + 1, v, by go_num, by omega, ?_⟩
          rw [candT_succ, if_neg (fun h => hpos (HY.out.2.2 h))]
          exact H.out
        case measure => simp [intOf]; omega
    · obtain rfl : k = 256 := by omega
      obtain ⟨A1, c1, rfl⟩ := Kd.R_slice H.out.h.row
      have ta := cassertKey
      go_wp2_with fail
      refine (cinit_any _ H.out.h (by have := candT_len c qs 256; omega)).mono ?_
      rintro e w2 ⟨rfl, ys, h1, h2, h3, h4⟩
      have HI2 : Hid (GvRel gq cq W0.heap.size W0 qs w.heap.size (.slice A1 (candT c qs 256).length c1) ys w2 ∧ ys.Perm (candT c qs 256)) :=
        ⟨GvRel.of_init H.out.q H.out.ne.1 H.out.ne.2 H.out.below H.out.pB H.out.below.size h1 h3 h4, h2⟩
      clear h1 h2 h3 h4 H
      go_wp2_with fail
      go_loopw [37] (fun kv wr => ∃ (k : Nat) (v : Value) (ys : List K3), kv = .int .i64 k ∧ k ≤ m ∧ Hid (GvRel gq cq W0.heap.size W0 (takeIt c k qs) w.heap.size v ys wr ∧ ys.Perm (candT c (takeIt c k qs) 256))) (fun kv _ => m - (intOf kv).toNat)
      case atStart => exact ⟨0, _, ys, rfl, by omega, HI2⟩
      case round =>
        obtain ⟨k, v, ys, rfl, hk, H⟩ := hrel
        by_cases hlt : k < m
        · obtain ⟨hql, hqr, hqi⟩ := HO.out k hk
          have hpos : 0 < ys.length := by
            obtain ⟨s, hs, hsp⟩ := HP.out (by omega)
            exact List.length_pos_of_mem (H.out.2.symm.subset (candT_mem hs hsp))
          obtain ⟨g, cap, rfl, -⟩ := Kd.R_form H.out.1.h.row hpos
          obtain ⟨t, ht⟩ : ∃ t, t = richN (takeIt c k qs) c 256 := ⟨_, rfl⟩
          obtain ⟨ht1, ht2, ht3⟩ := take_root hqi H.out.2 H.out.1.heap hpos
          rw [← ht] at ht1 ht2 ht3
          obtain ⟨n, hn⟩ : ∃ n, ys.length = n + 1 := ⟨ys.length - 1, by omega⟩
          rw [hn] at H
          have hn6 : n ≤ 100000 := by have := H.out.2.length_eq; have := candT_len c (takeIt c k qs) 256; omega
          have HT := Lib.hid (And.intro ht (And.intro ht1 (And.intro ht2 (And.intro ht3 hn))))
          have HBr : Hid (W0.heap.size ≤ wr.heap.size) := H.out.1.below.size
          obtain ⟨hy0, hy1⟩ := hqr t
          have HQL := Lib.hid (And.intro hql hqi)
          have hct := (HC.out.2.2 t)
          clear ht ht2 ht3 hn hpos hqr hql hqi
          go_wp2_with fail
          refine (chpop_any ordC _ H.out.1.h hn6 (fun _ _ => trivial) (by have := H.out.1.heap; rw [HT.out.2.2.2.2] at this; exact this)).mono ?_
          rintro e w3 ⟨rfl, zs, h1, h2, h3, h4⟩
          have H3 : Hid (GvRel gq cq W0.heap.size W0 (takeIt c k qs) w.heap.size (.slice (some ⟨g, 0, none⟩) n cap) zs w3) := GvRel.popped H.out.1 HBr.out h1 h3 h4
          rw [HT.out.2.2.2.1] at h2 ⊢
          have HZ := Lib.hid h2
          clear h1 h2 h3 h4
          obtain ⟨hc3, hf3⟩ := ints_cells H3.out.q t ht1
          obtain ⟨y, hy⟩ : ∃ y, y = (takeIt c k qs).getD t 0 := ⟨_, rfl⟩
          have HY := Lib.hid hy
          simp only [claimT]
          rw [← hy] at hc3 hy0 hy1 ⊢
          obtain ⟨z, hz⟩ : ∃ z, z = (1073741824 - c.getD t 0) * 256 + (t : Int) := ⟨_, rfl⟩
          rw [← hz]
          have HZ2 := Lib.hid hz
          clear hy hz
          have hgl : gq < w3.heap.size := Kd.R_lt H3.out.q gq rfl
          have hg1 : ¬ gq = w3.heap.size := by omega
          have hg2 : ¬ w3.heap.size = gq := by omega
          have ht256 : (t : Int) < 256 := by omega
          go_wp2_with fail
          have H4 : Hid (GvRel gq cq W0.heap.size W0 ((takeIt c k qs).set t (y - 1)) w.heap.size (.slice (some ⟨g, 0, none⟩) n cap) zs ((w3.setCell ⟨gq, t, none⟩ (.int .i64 (y - 1))).alloc (.cells #[.int .i64 t, .int .i64 (y - 1), .int .i64 z] 214))) :=
            (H3.out.put t (y - 1)).alloc (H3.out.put t (y - 1)).below.size _
          have hzl : zs.length = n := by have := HZ.out.length_eq; rw [HT.out.2.2.2.2] at this; simpa using this
          refine (chpush_any ordC ((t : Int), y - 1, z) _ H4.out.h H4.out.below.size (by omega) (fun _ _ => trivial) trivial H4.out.heap).mono ?_
          rintro e w5 ⟨rfl, v', us, h1, h2, h3, h4, h5⟩
          have H5 : Hid (GvRel gq cq W0.heap.size W0 (takeIt c (k + 1) qs) w.heap.size v' us w5 ∧ us.Perm (candT c (takeIt c (k + 1) qs) 256)) := by
            have e := takeIt_succ c k qs
            rw [← HT.out.1, ← HY.out] at e
            refine ⟨by rw [e]; exact H4.out.pushed H4.out.below.size h1 h3 h4 h5, ?_⟩
            rw [e, HY.out]
            refine take_rest HQL.out.1 ht1 HT.out.2.2.1 H.out.2 HZ.out ?_
            rw [← HY.out, ← HZ2.out]
            exact h2
          clear h1 h2 h3 h4 h5
          go_wp2_with fail
          go_roundw
          case rel => exact ⟨k + 1, v', us, by go_num, by omega, H5⟩
          case measure => simp [intOf]; omega
        · have hkm : k = m := by omega
          subst hkm
          go_wp2_with fail
          go_end0
          exact ⟨rfl, H.out.1.q, H.out.1.below⟩
theorem normTake_at (gq cq cc : Nat) (A : Option Addr) (W0 : World) (B : Nat) (hB : B = W0.heap.size) (qs c : List Int) (m : Nat) (w : World) (hq : (Kd.int .i64).R 3 w B (fun _ => True) (.slice (some ⟨gq, 0, none⟩) 256 cq) qs)
    (hc : (Kd.int .i64).C W0 A 256 c) (hb : Below B W0 w) (hcl : c.length = 256) (hcr : ∀ s, 0 ≤ c.getD s 0 ∧ c.getD s 0 ≤ 1073741824) (hok : TakeOkay c qs m) (hm2 : m ≤ 2000000) (hpos : 0 < m → ∃ s, s < 256 ∧ 0 < c.getD s 0) :
    Calls Tryz.prog 200 #[.slice (some ⟨gq, 0, none⟩) 256 cq, .slice A 256 cc, .int .i64 m] w (TkPost gq cq B (takeIt c m qs) W0) := by
  subst hB; exact normTake_any gq cq cc A W0 qs c m w hq hc hb hcl hcr hok hm2 hpos
end Go.Proofs.YtdkemdcflbadhaaGreat
namespace Go.Proofs.YtdkemdcflbadhaaGreat
open Go.RowKit Go.IntWalk Go.Proofs.YtdkemdcflbadhaaGreatW.PrintWords Go.Proofs.YtdkemdcflbadhaaGreatW.PrintLast Go.Proofs.YtdkemdcflbadhaaGreatW.PrintMore
set_option maxRecDepth 100000 in
set_option maxHeartbeats 400000 in
theorem many_any (A : Option Addr) (cp : Nat) (c : List Int) (w : World) (hr : (Kd.int .i64).C w A c.length c) (hR : rightC c = true) :
    Calls Tryz.prog 142 #[.slice A c.length cp] w fun e w' => e = .returned (.int .i64 (manyC c)) ∧ w = w' := by
  have hm := hr.2.1
  have HR := Lib.hid (And.intro hr hR)
  clear hr hR
  go_enter Tryz.func142, Tryz.ntmps142
  go_wp2_with fail
  go_loop [3, 8] (fun mv kv => ∃ (k pc : Nat), mv = .int .i64 pc ∧ kv = .int .i64 k ∧ k ≤ c.length ∧ pc ≤ k ∧ Hid (pc = posC c k)) (fun _ kv => c.length - (intOf kv).toNat)
  case atStart => exact ⟨0, 0, rfl, rfl, by omega, by omega, by show _ = _; simp [posC]⟩
  case round =>
    obtain ⟨k, pc, rfl, rfl, hk, hpc, H⟩ := hrel
    by_cases hlt : k < c.length
    · obtain ⟨ad, rfl, hcell⟩ := ints_get HR.out.1 k hlt
      obtain ⟨x, hx⟩ : ∃ x, x = c.getD k 0 := ⟨_, rfl⟩
      rw [← hx] at hcell
      have HX := Lib.hid hx
      clear hx
      by_cases h0 : 0 < x
      · have HP : Hid (pc + 1 = posC c (k + 1)) := by show _ = _; rw [posC_succ _ _ hlt, ← HX.out, if_pos h0, ← H.out]
        go_wp2_with fail
        refine (histRight_any _ _ _ _ HR.out.1).mono ?_
        rintro e w' ⟨rfl, rfl⟩
        rw [HR.out.2]
        go_wp2_with fail
        go_round
        case rel => exact ⟨k + 1, pc + 1, by go_num, by go_num, by omega, by omega, HP⟩
        case measure => simp [intOf]; omega
      · have HP : Hid (pc = posC c (k + 1)) := by show _ = _; rw [posC_succ _ _ hlt, ← HX.out, if_neg h0, ← H.out]; rfl
        go_wp2_with fail
        go_round
        case rel => exact ⟨k + 1, pc, rfl, by go_num, by omega, by omega, HP⟩
        case measure => simp [intOf]; omega
    · obtain rfl : k = c.length := by omega
      have HE : Hid (pc = manyC c) := by
        show _ = _; rw [H.out]; unfold posC manyC; rw [if_pos HR.out.2, List.take_length]
      go_wp2_with fail
      go_ret
      exact ⟨ret_int (by rw [HE.out]), rfl⟩
set_option maxRecDepth 100000 in
theorem ceil_any (n : Nat) (w : World) (h : n ≤ 1000000) : Calls Tryz.prog 146 #[.int .i64 n] w fun e w' => e = .returned (.int .i64 (ceilI n)) ∧ w = w' := by
  by_cases h2 : n < 2
  · have HE : Hid (ceilI n = 0) := by
      show _ = _
      have : n = 0 ∨ n = 1 := by omega
      rcases this with rfl | rfl <;> rfl
    go_enter Tryz.func146, Tryz.ntmps146
    go_wp2_with fail
    go_ret
    exact ⟨ret_int (by rw [HE.out]; rfl), rfl⟩
  · go_enter Tryz.func146, Tryz.ntmps146
    go_wp2_with fail
    refine (width_any _ _ (by omega)).mono ?_
    rintro e w' ⟨rfl, rfl⟩
    go_wp2_with fail
    go_ret
    exact ⟨rfl, rfl⟩
theorem mx_max (a b : Int) : mx a b = max a b := by unfold mx; split <;> omega
theorem mn_min (a b : Int) : mn a b = min a b := by unfold mn; split <;> omega
set_option maxRecDepth 100000 in
theorem greatest_any (first x y : Int) (A : Option Addr) (cp : Nat) (w : World) (hr : (Kd.int .i64).C w A 2 [x, y]) :
    Calls Tryz.prog 144 #[.int .i64 first, .slice A 2 cp] w fun e w' => e = .returned (.int .i64 (mx (mx first x) y)) ∧ w = w' := by
  obtain ⟨ad, rfl, hc⟩ := ints_at hr (by decide)
  have h0 := hc 0 (by decide)
  have h1 := hc 1 (by decide)
  simp only [List.getD_cons_zero, List.getD_cons_succ] at h0 h1
  rw [show ad.add 0 = ad from rfl] at h0
  clear hc hr
  have h2 : w.cell? ⟨ad.block, ad.off + 1, none⟩ = some (.int .i64 y) := by rw [← h1]; simp [Addr.add]
  clear h1
  go_enter Tryz.func144, Tryz.ntmps144
  go_wp2_with fail
  go_loop [0, 9] (fun mv kv => (mv = .int .i64 first ∧ kv = .int .i64 0) ∨ (mv = .int .i64 (max first x) ∧ kv = .int .i64 1) ∨ (mv = .int .i64 (max (max first x) y) ∧ kv = .int .i64 2)) (fun _ kv => 2 - (intOf kv).toNat)
  case atStart => exact .inl ⟨rfl, rfl⟩
  case round =>
    rcases hrel with ⟨rfl, rfl⟩ | ⟨rfl, rfl⟩ | ⟨rfl, rfl⟩
    · go_wp2_with fail
      go_round
      case rel => exact .inr (.inl ⟨rfl, rfl⟩)
      case measure => simp [intOf]
    · go_wp2_with fail
      go_round
      case rel => exact .inr (.inr ⟨by rw [Int.max_assoc], rfl⟩)
      case measure => simp [intOf]
    · go_wp2_with fail
      go_ret
      exact ⟨ret_int (by rw [mx_max, mx_max, Int.max_assoc]), rfl⟩
theorem two_row {W : World} (x y : Int) {ok : Nat → Prop} (hok : ok W.heap.size) (base : Nat) (hb : base ≤ W.heap.size) : (Kd.int .i64).R 3 (W.alloc (.cells #[.int .i64 x, .int .i64 y] 3)) base ok (.slice (some ⟨W.heap.size, 0, none⟩) 2 2) [x, y] := by
  refine ⟨fun k hk => by cases hk; exact hok, [.int .i64 x, .int .i64 y], ⟨rfl, .inr ⟨W.heap.size, 2, #[.int .i64 x, .int .i64 y], by simp, hb, blk_new W _, by simp, by unfold maxLen; omega, rfl, rfl⟩⟩, ?_⟩
  refine Reps.snoc (ps := [x]) (cs := [.int .i64 x]) (p := y) (c := [.int .i64 y]) (Reps.snoc (ps := []) (cs := []) (p := x) (c := [.int .i64 x]) (Reps.none _ _) ?_ rfl) ?_ rfl
  · rfl
  · rfl
set_option maxRecDepth 100000 in
theorem pick_any (n m : Nat) (most : Int) (w : World) (hn : n ≤ 1000000) (hm : m ≤ 1000000) :
    Calls Tryz.prog 76 #[.int .i64 n, .int .i64 m, .int .i64 most] w fun e w' => e = .returned (.int .i64 (pickI n m most)) ∧ Below w.heap.size w w' := by
  have hf := floorI_le n (by omega)
  obtain ⟨f, hf1⟩ : ∃ f, f = floorI (n : Int) := ⟨_, rfl⟩
  rw [← hf1] at hf
  have H := Lib.hid hf1
  clear hf1
  have HC : Hid (∀ W : World, (Kd.int .i64).C (W.alloc (.cells #[.int .i64 5, .int .i64 (ceilI m)] 3)) (some ⟨W.heap.size, 0, none⟩) 2 [5, (ceilI m : Int)]) := fun W => by
    have := two_row (W := W) 5 (ceilI m : Int) (ok := fun _ => True) trivial W.heap.size (Nat.le_refl _)
    exact (Kd.R_reads' this).2.2
  go_enter Tryz.func76, Tryz.ntmps76
  go_wp2_with fail
  refine (floor_any _ _ (by omega)).mono ?_
  rintro e w' ⟨rfl, rfl⟩
  rw [← H.out]
  go_wp2_with fail
  refine (ceil_any _ _ hm).mono ?_
  rintro e w' ⟨rfl, rfl⟩
  go_wp2_with fail
  refine (greatest_any _ _ _ _ _ _ (HC.out _)).mono ?_
  rintro e w' ⟨rfl, rfl⟩
  go_wp2_with fail
  go_ret
  refine ⟨ret_int ?_, (Below.refl _ _).alloc (Nat.le_refl _) _⟩
  unfold pickI
  rw [← H.out, mn_min]
end Go.Proofs.YtdkemdcflbadhaaGreat
namespace Go.Proofs.YtdkemdcflbadhaaGreat
open Go.RowKit Go.IntWalk Go.Proofs.YtdkemdcflbadhaaGreatW.PrintWords
open HeapL
/-- what holds behind the first k symbols -/
structure CnRel (N : Nat) (w0 : World) (c : List Int) (P n : Int) (k : Nat) (v : Value) (S : Int) (w : World) : Prop where
  q : (Kd.int .i64).R 3 w N (fun _ => True) (.slice (some ⟨N, 0, none⟩) 256 256) (qTo c P n k)
  l : k3.R 214 w N (fun b => b ≠ N) v (candN (restL c P n) (hadL c P n) k)
  below : Below N w0 w
  sum : S = (qTo c P n k).sum
  rng : 0 ≤ S ∧ S ≤ 4096 * k
theorem hadL_get (c : List Int) (P n : Int) {k : Nat} (hk : k < 256) : (hadL c P n).getD k false = decide (c.getD k 0 * P / n = 0) := by
  unfold hadL; rw [List.getD_eq_getElem?_getD, List.getElem?_map, List.getElem?_range hk]; rfl
theorem qTo_succ (c : List Int) (P n : Int) {k : Nat} (hk : k < 256) : qTo c P n (k + 1) = (qTo c P n k).set k (q0F c P n k) := (mapR_to (q0F c P n) hk).symm
theorem qTo_at (c : List Int) (P n : Int) {k : Nat} (hk : k < 256) : (qTo c P n k).getD k 0 = 0 := by unfold qTo; rw [mapR_get _ hk, if_neg (by omega)]
theorem qTo_sum (c : List Int) (P n : Int) {k : Nat} (hk : k < 256) : (qTo c P n (k + 1)).sum = (qTo c P n k).sum + q0F c P n k := by
  rw [qTo_succ c P n hk, sum_set _ _ _ (by unfold qTo; rw [mapR_len]; exact hk)]
  have : (qTo c P n k).getD k 0 = 0 := by unfold qTo; rw [mapR_get _ hk, if_neg (by omega)]
  omega
theorem CnRel.next {N : Nat} {w0 wr wr' : World} {c : List Int} {P n : Int} {k : Nat} {v v' : Value} {S y : Int} (H : CnRel N w0 c P n k v S wr) (hk : k < 256) (hq : (Kd.int .i64).R 3 wr' N (fun _ => True) (.slice (some ⟨N, 0, none⟩) 256 256) ((qTo c P n k).set k y))
    (hl : k3.R 214 wr' N (fun b => b ≠ N) v' (candN (restL c P n) (hadL c P n) (k + 1))) (hb : Below N w0 wr') (hy : y = q0F c P n k) (hy2 : 0 ≤ y ∧ y ≤ 4096) : CnRel N w0 c P n (k + 1) v' (S + y) wr' := by
  have hs := H.sum; have hr := H.rng
  refine ⟨by rw [qTo_succ c P n hk, ← hy]; exact hq, hl, hb, by rw [qTo_sum c P n hk, ← hy, hs], by omega, by omega⟩
theorem CnRel.far {N : Nat} {w0 wr : World} {c : List Int} {P n : Int} {k : Nat} {v : Value} {S : Int} (H : CnRel N w0 c P n k v S wr) (j : Nat) (y : Int) :
    (Kd.int .i64).R 3 (wr.setCell ⟨N, j, none⟩ (.int .i64 y)) N (fun _ => True) (.slice (some ⟨N, 0, none⟩) 256 256) ((qTo c P n k).set j y) ∧ k3.R 214 (wr.setCell ⟨N, j, none⟩ (.int .i64 y)) N (fun b => b ≠ N) v (candN (restL c P n) (hadL c P n) k) ∧ Below N w0 (wr.setCell ⟨N, j, none⟩ (.int .i64 y)) := by
  have := Kd.R_putn H.q (j : Int) y
  rw [Int.toNat_natCast] at this
  exact ⟨this, Kd.R_far (p := ⟨N, j, none⟩) H.l (fun k hk => hk) _, H.below.setCell (Nat.le_refl _) _⟩
theorem sum_zero : ∀ {l : List Int}, (∀ x ∈ l, x = 0) → l.sum = 0
  | [], _ => rfl
  | a :: l, h => by rw [List.sum_cons, h a (by simp), sum_zero (fun x hx => h x (by simp [hx]))]; rfl
theorem can_some {c : List Int} {r : Nat} (h : Can c r) : ∃ s, s < 256 ∧ 0 < c.getD s 0 := by
  refine Classical.byContradiction fun hn => ?_
  have : c.sum = 0 := sum_zero (fun x hx => by
    obtain ⟨s, hs, rfl⟩ := List.getElem_of_mem hx
    have h1 := h.nonneg _ hx
    have h2 : ¬ 0 < c.getD s 0 := fun hp => hn ⟨s, by have := h.len; omega, hp⟩
    rw [List.getD_eq_getElem?_getD, List.getElem?_eq_getElem hs] at h2
    simp only [Option.getD_some] at h2
    omega)
  have := h.pos
  omega
set_option maxRecDepth 100000 in
set_option maxHeartbeats 2000000 in
theorem counts_any (A : Option Addr) (cp : Nat) (c : List Int) (r : Nat) (w : World) (hr : (Kd.int .i64).C w A 256 c) (h : Can c r) :
    Calls Tryz.prog 143 #[.slice A 256 cp, .int .i64 r] w (CountsPost c r w) := by
  have HR := Lib.hid hr
  have HC := Lib.hid h
  have hR : rightC c = true := rightC_iff.2 ⟨h.len, h.nonneg, h.le⟩
  have hT : totalC c = c.sum := by unfold totalC; rw [if_pos hR]
  have hM : manyC c ≤ 2 ^ r := by unfold manyC; rw [if_pos hR]; exact h.many
  obtain ⟨n, hn⟩ : ∃ n : Nat, c.sum = n := ⟨c.sum.toNat, by have := h.pos; omega⟩
  have hr' : (Kd.int .i64).C w A c.length c := by rw [h.len]; exact hr
  have HTot := Lib.hid (total_any A cp c w hr')
  rw [hT, hn, h.len] at HTot
  obtain ⟨P, hP⟩ : ∃ P : Nat, 2 ^ r = P := ⟨_, rfl⟩
  have hPI : (2 : Int) ^ r = (P : Int) := by rw [← hP]; simp
  have hPb : 1 ≤ P ∧ P ≤ 4096 := by have := pow_le12 h.r12; rw [hPI] at this; omega
  have HM2 : Hid (∀ W, Below w.heap.size w W → Calls Tryz.prog 142 #[.slice A 256 cp] W fun e w' => e = .returned (.int .i64 (manyC c)) ∧ W = w') := fun W hb => by
    have := many_any A cp c W (Kd.C_below hr' hb) hR
    rw [h.len] at this; exact this
  have HN : Hid (c.sum = n ∧ 2 ^ r = P ∧ (2 : Int) ^ r = (P : Int) ∧ manyC c ≤ P) := ⟨hn, hP, hPI, by omega⟩
  have hn0 : ((n : Int) == 0) = false := by have := h.pos; simp; omega
  have hn1 : 1 ≤ n ∧ n ≤ 1073741824 := by have := h.pos; have := h.le; omega
  have hr1 : decide ((r : Int) < 1) = false := decide_eq_false (by have := h.r1; omega)
  have hr2 : decide (12 < (r : Int)) = false := decide_eq_false (by have := h.r12; omega)
  have hr0 : (0 : Int) ≤ r := by omega
  have hr12 : (r : Int) ≤ 12 := by have := h.r12; omega
  have hw1 : IntKind.i64.wrap (2 ^ r) = (P : Int) := by rw [hPI]; exact i64_in _ (by omega)
  have hmp : decide (P < manyC c) = false := decide_eq_false (by have := HN.out.2.2.2; omega)
  clear hr hr' h hR hT hM hn hP hPI
  have hmi : ∀ w : World, (Instr.makeSlice 39 (.int .i64 256) (.int .i64 256)).run Tryz.prog w = .ok (.slice (some ⟨w.heap.size, 0, none⟩) 256 256) (w.alloc (.cells (madeCells #[.int .i64 0] 256) 3)) := fun w => made_i64 256 (by omega) w
  go_enter Tryz.func143, Tryz.ntmps143
  go_wp2_with fail
  refine HTot.out.mono ?_
  rintro e w1 ⟨rfl, rfl⟩
  go_wp2_with fail
  go_quiet ((go_at_call 142; refine Calls.quiet_of_same ((HM2.out _ (pw_below_drewN (Below.refl _ _) _)).mono fun e w' h => ⟨h.1, h.2.symm⟩)))
  have HB0 : Hid (Below w.heap.size w (w.drewN nq)) := pw_below_drewN (Below.refl _ _) _
  obtain ⟨w1, hw1'⟩ : ∃ w1, w1 = w.drewN nq := ⟨_, rfl⟩
  rw [← hw1'] at HB0 ⊢
  clear hw1'
  obtain ⟨N, hNs⟩ : ∃ N, N = w1.heap.size := ⟨_, rfl⟩
  have HNs := Lib.hid hNs
  have HI : Hid (CnRel N w1 c P n 0 (.slice none 0 0) 0 (w1.alloc (.cells (madeCells #[.int .i64 0] 256) 3))) := by
    refine ⟨?_, ?_, ?_, ?_, by omega⟩
    · rw [(to_zero c P n).1, hNs]; exact arr_row 256 3 w1 _ trivial _ (Nat.le_refl _) (by omega)
    · exact Kd.R_nil _ _ _ _ _
    · rw [hNs]; exact (Below.refl _ _).alloc (Nat.le_refl _) _
    · rw [(to_zero c P n).1]; decide
  go_wp2_with fail
  rw [← hNs]
  obtain ⟨W, hW⟩ : ∃ W, W = w1.alloc (.cells (madeCells #[.int .i64 0] 256) 3) := ⟨_, rfl⟩
  rw [← hW] at HI ⊢
  clear hW hNs hmi hmp
  go_loopw [8, 9, 34] (fun lv sv kv wr => ∃ (k : Nat) (S : Int), sv = .int .i64 S ∧ kv = .int .i64 k ∧ k ≤ 256 ∧ 0 ≤ S ∧ S ≤ 4096 * k ∧ Hid (CnRel N w1 c P n k lv S wr)) (fun _ _ kv _ => 256 - (intOf kv).toNat)
  case atStart => exact ⟨0, 0, rfl, rfl, by omega, by omega, by omega, HI⟩
  case round =>
    obtain ⟨k, S, rfl, rfl, hk, hS0, hS1, H⟩ := hrel
    by_cases hlt : k < 256
    · have hC := Kd.C_below HR.out (HB0.out.trans (H.out.below.mono (by have := HB0.out.size; have := HNs.out; omega)))
      obtain ⟨ad, rfl, hcx⟩ := ints_get hC k (by omega)
      have hcg := HC.out.get k
      have hq0 := HC.out.q0 k
      rw [HN.out.2.2.1, HN.out.1] at hq0
      obtain ⟨x, hx⟩ : ∃ x : Nat, c.getD k 0 = x := ⟨(c.getD k 0).toNat, by omega⟩
      rw [hx] at hcx hcg
      obtain ⟨hq1, hq2⟩ := ints_cells H.out.q k hlt
      rw [qTo_at c P n hlt] at hq1
      obtain ⟨m, hm⟩ : ∃ m : Nat, m = x * P := ⟨_, rfl⟩
      have hxn : x ≤ n := by have := HN.out.1; omega
      have hm42 : m ≤ 4398046511104 := by
        rw [hm]
        calc x * P ≤ 1073741824 * 4096 := Nat.mul_le_mul (by omega) (by omega)
          _ = 4398046511104 := by decide
      have hmI : (x : Int) * (P : Int) = (m : Int) := by rw [hm]; simp
      have hmR : (x : Int) * 2 ^ r = (m : Int) := by rw [HN.out.2.2.1]; exact hmI
      have hdq : (m : Int) / (n : Int) = ((m / n : Nat) : Int) := by simp
      have hrm : (m : Int) % (n : Int) = ((m % n : Nat) : Int) := by simp
      obtain ⟨dq, hdqe⟩ : ∃ dq, dq = m / n := ⟨_, rfl⟩
      obtain ⟨rm, hrme⟩ : ∃ rm, rm = m % n := ⟨_, rfl⟩
      rw [← hdqe] at hdq
      rw [← hrme] at hrm
      have hdb : dq ≤ 4398046511104 := by rw [hdqe]; exact Nat.le_trans (Nat.div_le_self _ _) hm42
      have hn00 : ¬ (n : Int) = 0 := by omega
      have HX := Lib.hid (And.intro hx (And.intro hm (And.intro hdqe (And.intro hrme hq0))))
      have hwm : IntKind.i64.wrap ((x : Int) * 2 ^ r) = (m : Int) := by rw [hmR]; exact i64_in _ (by omega)
      clear hx hm hdqe hrme hC hmR hq0
      obtain ⟨A1, c1, rfl⟩ := Kd.R_slice H.out.l
      have HL0 := Lib.hid (H.out.far k (dq : Int))
      have HQF : Hid (q0F c P n k = if dq = 0 then min (x : Int) 1 else dq) := by
        show _ = _
        unfold q0F
        rw [HX.out.1, hmI, hdq]
        by_cases e : dq = 0
        · rw [if_pos e, if_pos (by omega)]
        · rw [if_neg e, if_neg (by omega)]
      have HHD : Hid ((hadL c P n).getD k false = decide (dq = 0)) := by
        show _ = _
        rw [hadL_get c P n hlt, HX.out.1, hmI, hdq]
        by_cases e : dq = 0
        · rw [decide_eq_true (by omega), decide_eq_true e]
        · rw [decide_eq_false (by omega), decide_eq_false e]
      by_cases hz : 0 < dq
      · have hdq4 : dq ≤ 4096 := by
          have := HX.out.2.2.2.2.2.1
          rw [HQF.out, if_neg (by omega)] at this; omega
        have HSz : Hid (N ≤ (wr.setCell ⟨N, k, none⟩ (.int .i64 (dq : Int))).heap.size) := by show _ ≤ _; have := Kd.R_lt HL0.out.1 N rfl; omega
        have HLn : Hid (((candN (restL c P n) (hadL c P n) k).length + 1) * 24 ≤ 140737488355328) := by show _ ≤ _; have := candN_len (restL c P n) (hadL c P n) k; omega
        have HFr : Hid (∀ j, (wr.setCell ⟨N, k, none⟩ (.int .i64 (dq : Int))).heap.size ≤ j → j ≠ N) := fun j hj e => by have := Kd.R_lt HL0.out.1 N rfl; omega
        have HNe : Hid ((Value.slice A1 (candN (restL c P n) (hadL c P n) k).length c1).ownBlock ≠ some N) := fun e => HL0.out.2.1.1 N e rfl
        have hqg : ((qTo c P n k).set k (dq : Int)).getD k 0 = (dq : Int) := by rw [getD_set _ _ _ _ (by unfold qTo; rw [mapR_len]; omega), if_pos rfl]
        obtain ⟨L, hL⟩ : ∃ L, L = candN (restL c P n) (hadL c P n) k := ⟨_, rfl⟩
        obtain ⟨Q, hQ⟩ : ∃ Q, Q = (qTo c P n k).set k (dq : Int) := ⟨_, rfl⟩
        rw [← hL] at HLn HNe
        have HL1 : Hid (k3.R 214 (wr.setCell ⟨N, k, none⟩ (.int .i64 (dq : Int))) N (fun b => b ≠ N) (.slice A1 L.length c1) L) := by rw [hL]; exact HL0.out.2.1
        have HQ1 : Hid ((Kd.int .i64).R 3 (wr.setCell ⟨N, k, none⟩ (.int .i64 (dq : Int))) N (fun _ => True) (.slice (some ⟨N, 0, none⟩) 256 256) Q) := by rw [hQ]; exact HL0.out.1
        rw [← hQ] at hqg
        have HQG := Lib.hid (And.intro hqg (And.intro hL hQ))
        have HB1 := Lib.hid HL0.out.2.2
        have HH := Lib.hid H.out
        rw [← hL]
        clear hqg hL hQ HL0 H
        go_wp2_with (at_builtin; refine Kd.R_append k3 (w0 := w1) (W := wr.setCell ⟨N, k, none⟩ (.int .i64 (dq : Int))) N rfl (.tmp 53) (.tmp 61) 212 214 _ 24 rfl Tryz.underlying212 cinfoKey rfl (by decide) (by decide) (.slice A1 L.length c1) L ((k : Int), (rm : Int), 0) [.int .i64 k, .int .i64 rm, .int .i64 0] (fun b => b ≠ N) (fun _ => False) rfl (by simp [go_sem]) (k3_mkM _ _ _ _) (fun _ h => h.elim) HFr.out HL1.out HB1.out HSz.out HLn.out ?_; intro v2 w2 hr2 hb2 hg2 hat2; have HQ2 := Lib.hid (Kd.R_grown1 HQ1.out rfl hg2 HNe.out); have hq5 := (ints_cells HQ2.out k hlt).1; rw [HQG.out.1] at hq5; have HR2 := Lib.hid hr2; have HB2 := Lib.hid hb2; clear hr2 hb2 hg2 hat2)
        go_roundw
        case rel =>
          refine ⟨k + 1, S + dq, rfl, by go_num, by omega, by omega, by omega, ?_⟩
          have hq2 := HQ2.out
          rw [HQG.out.2.2] at hq2
          refine HH.out.next hlt hq2 ?_ HB2.out (by rw [HQF.out, if_neg (by omega)]) (by omega)
          rw [candN_succ, if_pos (by rw [HHD.out]; exact decide_eq_false (by omega))]
          have e : claimN (restL c P n) k = ((k : Int), (rm : Int), 0) := by
            unfold claimN restL
            rw [mapR_get _ hlt, HX.out.1, hmI, hrm]
          rw [e, ← HQG.out.2.1]; exact HR2.out
        case measure => simp [intOf]; omega
      · have hz0 : dq = 0 := by omega
        subst hz0
        by_cases hx0 : 0 < x
        · go_wp2_with fail
          go_roundw
          case rel =>
            refine ⟨k + 1, S + 1, by go_num, by go_num, by omega, by omega, by omega, ?_⟩
            have hqq := Kd.R_putn HL0.out.1 (k : Int) (1 : Int)
            rw [Int.toNat_natCast, set_set_same] at hqq
            refine H.out.next hlt hqq ?_ (HL0.out.2.2.setCell (Nat.le_refl _) _) (by rw [HQF.out, if_pos rfl]; omega) (by omega)
            rw [candN_succ, if_neg (by rw [HHD.out]; simp)]
            exact Kd.R_far (p := ⟨N, k, none⟩) HL0.out.2.1 (fun k hk => hk) _
          case measure => simp [intOf]; omega
        · go_wp2_with fail
          go_roundw
          case rel =>
            refine ⟨k + 1, S + 0, by go_num, by go_num, by omega, by omega, by omega, ?_⟩
            refine H.out.next hlt HL0.out.1 ?_ HL0.out.2.2 (by rw [HQF.out, if_pos rfl]; omega) (by omega)
            rw [candN_succ, if_neg (by rw [HHD.out]; simp)]
            exact HL0.out.2.1
          case measure => simp [intOf]; omega
    · obtain rfl : k = 256 := by omega
      obtain ⟨A1, c1, rfl⟩ := Kd.R_slice H.out.l
      have HQ0 : Hid ((Kd.int .i64).R 3 wr N (fun _ => True) (.slice (some ⟨N, 0, none⟩) 256 256) (q0L c P n)) := by rw [← (to_all c P n).1]; exact H.out.q
      have HS : Hid (S = (q0L c P n).sum) := by rw [← (to_all c P n).1]; exact H.out.sum
      have HPP : Hid ((P : Int) = 2 ^ r ∧ (n : Int) = c.sum) := ⟨HN.out.2.2.1.symm, HN.out.1.symm⟩
      have HB1 := Lib.hid H.out.below
      have HL1 := Lib.hid H.out.l
      obtain ⟨M, hM⟩ : ∃ M : Nat, M = giveM c (2 ^ r) c.sum := ⟨_, rfl⟩
      have hMv : max (0 : Int) ((P : Int) - S) = (M : Int) := by
        rw [hM]; unfold giveM; rw [← HPP.out.1, ← HPP.out.2, ← HS.out]; omega
      have hM4 : M ≤ 4096 := by omega
      obtain ⟨T, hT⟩ : ∃ T : Nat, T = (S - P).toNat := ⟨_, rfl⟩
      have hTv : max (0 : Int) (S - (P : Int)) = (T : Int) := by rw [hT]; omega
      have HMT := Lib.hid (And.intro hM hT)
      have hTb : T ≤ 2000000 := by omega
      obtain ⟨L, hL⟩ : ∃ L, L = candN (restL c P n) (hadL c P n) 256 := ⟨_, rfl⟩
      rw [← hL]
      have HLE := Lib.hid hL
      clear hM hT hL H
      go_wp2_with fail
      have hgw0 := give_way HC.out 0 (Nat.zero_le _)
      have hen := HC.out.enough
      rw [← HPP.out.1, ← HPP.out.2] at hgw0 hen
      refine (give_any N 256 N (q0L c P n) (.slice A1 L.length c1) (restL c P n) (hadL c P n) M wr HQ0.out (by rw [HLE.out]; exact HL1.out) (by have := Kd.R_lt HQ0.out N rfl; omega) (mapR_len _) (by simp [hadL])
        (fun s => ⟨(hgw0.2.2.1 s).1, by have := (hgw0.2.2.1 s).2; simp only [giveIt] at this; omega⟩) (by rw [← HS.out] at hen; omega) hM4).mono ?_
      clear hgw0 hen
      rintro e w3 ⟨rfl, hq3, hb3⟩
      obtain ⟨G, hG⟩ : ∃ G, G = (giveIt (restL c P n) M (q0L c P n, hadL c P n)).1 := ⟨_, rfl⟩
      rw [← hG] at hq3
      have H3 := Lib.hid (And.intro hq3 (And.intro hb3 hG))
      clear hq3 hb3 hG hMv
      go_wp2_with fail
      have hge := give_end HC.out
      have hgw := (give_way HC.out M (by rw [← HMT.out.1]; exact Nat.le_refl _)).2.2.2.2.1
      rw [← HMT.out.1, ← HPP.out.1, ← HPP.out.2, ← H3.out.2.2] at hge
      rw [← HPP.out.1, ← HPP.out.2, ← H3.out.2.2, ← HS.out] at hgw
      have hTe : (G.sum - 2 ^ r).toNat = T := by
        rw [← HPP.out.1, hgw]
        have h1 : M = ((P : Int) - S).toNat := by
          have := HMT.out.1; unfold giveM at this; rw [← HPP.out.1, ← HPP.out.2, ← HS.out] at this; exact this
        have h2 := HMT.out.2
        omega
      have HT2 : Hid (TakeOkay c G T) := fun k hk => by
        have := (take_way HC.out hge.1 k (by rw [hTe]; exact hk)).1
        exact ⟨this.len, this.rng, this.iff⟩
      have HNL : Hid (takeIt c T G = normL c r) := by
        show _ = _
        unfold normL
        simp only []
        rw [← HMT.out.1, ← HPP.out.1, ← HPP.out.2, ← H3.out.2.2, HPP.out.1, hTe]
      have HB3 : Hid (Below N w1 w3) := HB1.out.trans H3.out.2.1
      have hcs := HC.out.le
      clear hge hgw
      refine (normTake_at N 256 cp A w1 N HNs.out G c T w3 H3.out.1 (Kd.C_below HR.out HB0.out) HB3.out HC.out.len (fun s => ⟨(HC.out.get s).1, by have := (HC.out.get s).2; omega⟩) HT2.out hTb (fun _ => can_some HC.out)).mono ?_
      rintro e w4 ⟨rfl, hq4, hb4⟩
      have H4 := Lib.hid (And.intro hq4 hb4)
      clear hq4 hb4 hTe
      go_wp2_with fail
      go_ret2
      have hNl : w.heap.size ≤ N := by rw [HNs.out]; exact HB0.out.size
      refine ⟨_, rfl, ?_, HB0.out.trans (H4.out.2.mono hNl)⟩
      rw [← HNL.out]
      exact Kd.R_lower H4.out.1 hNl
end Go.Proofs.YtdkemdcflbadhaaGreat
namespace Go.Proofs.YtdkemdcflbadhaaGreat
open Go.RowKit Go.IntWalk Go.Proofs.YtdkemdcflbadhaaGreatW.PrintWords
theorem load_model {w : World} {g : Nat} {a b c : Value} (hg : w.heap[g]? = some (.cells #[a, b, c] 31 (0, 0))) : (loadVar 31 ⟨g, 0, none⟩).run Tryz.prog w = .ok (.agg #[a, b, c]) w :=
  run_loadVar_row w g _ _ _ _ _ hg Tryz.underlying31 rfl sizeModel
theorem results_row_tmp {fn : Func} {p u : Tmp} {ty : TypeId} (h : fn.results = #[.cell p ty, .tmp u]) (tmps : Array Value) (w : World) (g : Nat) (cs : Array Value)
    (hp : tmps.getD p undef = .pointer (some ⟨g, 0, none⟩)) (hl : (loadVar ty ⟨g, 0, none⟩).run Tryz.prog w = .ok (.agg cs) w) :
    (results fn tmps).run Tryz.prog w = .ok (.tuple #[.agg cs, tmps.getD u undef]) w := by
  have hp' : tmps[p]?.getD undef = .pointer (some ⟨g, 0, none⟩) := by simpa using hp
  simp [results, h, hp', asAddr, hl]
theorem many_pos {b : List Int} (hb : Bytes b) (hl : b.length ≤ 1000000) (h0 : 0 < b.length) : 0 < manyC (histL b) := by
  rw [manyC_of (hist_right b hb hl)]
  have hx := hb _ (List.getElem_mem h0)
  obtain ⟨s, hs⟩ : ∃ s : Nat, b[0] = (s : Int) := ⟨(b[0]).toNat, by omega⟩
  have hs2 : s < 256 := by omega
  have hp := (hist_pos b hs2).2 (by rw [← hs]; exact List.getElem_mem h0)
  refine List.countP_pos_iff.2 ⟨(histL b).getD s 0, getD_mem (by unfold histL; rw [mapR_len]; exact hs2), by simpa using hp⟩
end Go.Proofs.YtdkemdcflbadhaaGreat
namespace Go.Proofs.YtdkemdcflbadhaaGreat
open Go.RowKit Go.IntWalk Go.Proofs.YtdkemdcflbadhaaGreatW.PrintWords
theorem results_row_tmp2 {fn : Func} {p u v : Tmp} {ty : TypeId} (h : fn.results = #[.cell p ty, .tmp u, .tmp v]) (tmps : Array Value) (w : World) (g : Nat) (cs : Array Value)
    (hp : tmps.getD p undef = .pointer (some ⟨g, 0, none⟩)) (hl : (loadVar ty ⟨g, 0, none⟩).run Tryz.prog w = .ok (.agg cs) w) :
    (results fn tmps).run Tryz.prog w = .ok (.tuple #[.agg cs, tmps.getD u undef, tmps.getD v undef]) w := by
  have hp' : tmps[p]?.getD undef = .pointer (some ⟨g, 0, none⟩) := by simpa using hp
  simp [results, h, hp', asAddr, hl]
end Go.Proofs.YtdkemdcflbadhaaGreat
namespace Go.Proofs.YtdkemdcflbadhaaGreat
open Go.RowKit Go.IntWalk Go.Proofs.YtdkemdcflbadhaaGreatW.PrintWords
theorem wr_new (w : World) : WrVal (w.alloc (.cells #[.slice none 0 0, .int .i64 0] 171)) w.heap.size w.heap.size (.slice none 0 0) [] := ⟨blk_new _ _, Kd.R_nil _ _ _ _ _⟩
theorem PutRel.bel {base p : Nat} {v0 : Value} {bs : List Bool} {w0 w w' : World} (h : PutRel base p v0 bs w w') (hb : Below w0.heap.size w0 w) (hp : w0.heap.size ≤ p) (hv : ∀ k, v0.ownBlock = some k → w0.heap.size ≤ k) : Below w0.heap.size w0 w' := by
  obtain ⟨_, _, _, ho⟩ := h
  exact hb.trans (ho.below hb.size (fun k hk => by
    rcases hk with hk | hk
    · exact hk ▸ hp
    · exact hv k hk))
set_option maxRecDepth 100000 in
theorem hcost_any (cp r : Nat) (A : Option Addr) (q : List Int) (w : World) (hr : (Kd.int .i64).C w A 256 q) (hn : Nrm q r) :
    Calls Tryz.prog 31 #[.slice A 256 cp] w fun e w' => e = .returned (.int .i64 (hdrB q 257 0 (2 ^ r)).length) ∧ Below w.heap.size w w' := by
  have HI := Lib.hid (wr_new w)
  have HB : Hid (Below w.heap.size w (w.alloc (.cells #[.slice none 0 0, .int .i64 0] 171))) := (Below.refl _ _).alloc (Nat.le_refl _) _
  have HR := Lib.hid (And.intro hr hn)
  clear hr hn
  go_enter Tryz.func31, Tryz.ntmps31
  go_wp2_with fail
  refine (bitwNew_any w).mono ?_
  rintro e w1 ⟨rfl, rfl⟩
  obtain ⟨W, hW⟩ : ∃ W, W = w.alloc (.cells #[.slice none 0 0, .int .i64 0] 171) := ⟨_, rfl⟩
  rw [← hW] at HI HB ⊢
  clear hW
  go_wp2_with fail
  refine (hput_any w.heap.size w.heap.size cp r A (.slice none 0 0) [] q w W HI.out HB.out.size (by simp) HR.out.1 HB.out (Nat.le_refl _) (Nat.le_refl _) HR.out.2).mono ?_
  rintro e w2 ⟨rfl, hp⟩
  have HB2 : Hid (Below w.heap.size w w2) := hp.bel HB.out (Nat.le_refl _) (fun k hk => by simp [Value.ownBlock] at hk)
  obtain ⟨v, m1, _, _⟩ := hp
  have HM := Lib.hid m1
  clear m1
  go_wp2_with fail
  refine (bitwBits_any _ _ _ _ _ HM.out).mono ?_
  rintro e w3 ⟨rfl, rfl⟩
  go_wp2_with fail
  go_ret
  exact ⟨rfl, HB2.out⟩
end Go.Proofs.YtdkemdcflbadhaaGreat
namespace Go.Proofs.YtdkemdcflbadhaaGreat
open Go.RowKit Go.IntWalk Go.Proofs.YtdkemdcflbadhaaGreatW.PrintWords
/-- bytes that are told, or none -/
def Told (k : Int) (y : List Int) (w : World) (e : Ending) (w' : World) : Prop :=
  ∃ A c, e = .returned (.tuple #[.slice A y.length c, .int .i64 k]) ∧ (Kd.int .u8).R 5 w' w.heap.size (fun _ => True) (.slice A y.length c) y ∧ Below w.heap.size w w'
theorem ReadPost.told {k : Int} {y : List Int} {w : World} {e : Ending} {w' : World} (h : ReadPost (k, y) w e w') : Told k y w e w' := by
  obtain ⟨⟨v, rfl, hv⟩, hb⟩ := h
  obtain ⟨A, c, rfl⟩ := Kd.R_slice hv
  exact ⟨A, c, rfl, hv, hb⟩
end Go.Proofs.YtdkemdcflbadhaaGreat
namespace Go.Proofs.YtdkemdcflbadhaaGreat
open Go.RowKit Go.IntWalk Go.Proofs.YtdkemdcflbadhaaGreatW.PrintWords
/-- bytes that a slice holds -/
structure BSl (w : World) (A : Option Addr) (c : Nat) (p : List Int) : Prop where
  row : (Kd.int .u8).C w A p.length p
  cap : p.length ≤ c
  nil : A = none → c = 0
  by' : Bytes p
theorem BSl.below {w w' : World} {A : Option Addr} {c : Nat} {p : List Int} (h : BSl w A c p) (hb : Below w.heap.size w w') : BSl w' A c p := ⟨Kd.C_below h.row hb, h.cap, h.nil, h.by'⟩
theorem BSl.of {w : World} {A : Option Addr} {c n base : Nat} {p : List Int} {ok : Nat → Prop} (h : (Kd.int .u8).R 5 w base ok (.slice A n c) p) (hp : Bytes p) : BSl w A c p := by
  obtain ⟨e, h2, h3⟩ := Kd.R_reads' h
  refine ⟨h3, by omega, fun ha => ?_, hp⟩
  obtain ⟨_, inner, ⟨_, ho⟩, _⟩ := h
  rcases ho with ⟨h4, _⟩ | ⟨g, cap, cur, h4, _⟩
  · cases h4; rfl
  · rw [ha] at h4; cases h4
theorem Told.out {k : Int} {y : List Int} {w : World} {e : Ending} {w' : World} (h : Told k y w e w') (hy : Bytes y) : ∃ A c, e = .returned (.tuple #[.slice A y.length c, .int .i64 k]) ∧ BSl w' A c y ∧ Below w.heap.size w w' := by
  obtain ⟨A, c, he, hr, hb⟩ := h
  exact ⟨A, c, he, BSl.of hr hy, hb⟩
theorem lit_row {w : World} (xs : List Int) (hx : Bytes xs) (hl : xs.length ≤ 1000000) : BSl (w.alloc (.cells (xs.map (Value.int .u8)).toArray 5)) (some ⟨w.heap.size, 0, none⟩) xs.length xs :=
  BSl.of (row_lit .u8 5 w w.heap.size (fun _ => True) trivial (Nat.le_refl _) xs hl) hx
theorem BSl.str {w : World} {A : Option Addr} {c : Nat} {p : List Int} (h : BSl w A c p) : (convert 22 9 (.slice A p.length c)).run Tryz.prog w = .ok (.string (strOfNums p)) w :=
  Kd.C_string Tryz.underlying22 Tryz.underlying5 Tryz.underlying9 h.row
end Go.Proofs.YtdkemdcflbadhaaGreat
namespace Go.Proofs.YtdkemdcflbadhaaGreat
open Go.RowKit Go.IntWalk Go.Proofs.YtdkemdcflbadhaaGreatW.PrintWords
/-- what a cut of a slice is -/
theorem BSl.cut {w : World} {A : Option Addr} {c : Nat} {p : List Int} (h : BSl w A c p) {k : Nat} (hk : k ≤ p.length) : BSl w A c (p.take k) :=
  ⟨by have := ints_take h.row k hk; rwa [List.length_take, Nat.min_eq_left hk], by rw [List.length_take]; have := h.cap; omega, h.nil, fun x hx => h.by' x (List.mem_of_mem_take hx)⟩
end Go.Proofs.YtdkemdcflbadhaaGreat
namespace Go.Proofs.YtdkemdcflbadhaaGreat
open Go.RowKit
theorem hdrsT_len (ps : List Int) (r : Nat) : ∀ (l : List Int) (qs : List (List Int)) (at_ : Nat), (hdrsT ps r l qs at_).2.1.length = qs.length
  | [], _, _ => rfl
  | c :: l, qs, at_ => by
    unfold hdrsT
    split
    · rfl
    · rw [hdrsT_len ps r l, List.length_set]
theorem hdrsT_end (ps : List Int) (r : Nat) : ∀ (l : List Int) (qs : List (List Int)) (at_ : Nat), at_ ≤ 8 * ps.length → (hdrsT ps r l qs at_).1 = 0 → (hdrsT ps r l qs at_).2.2 ≤ 8 * ps.length
  | [], _, _, h, _ => h
  | c :: l, qs, at_, h, h0 => by
    unfold hdrsT at h0 ⊢
    by_cases h1 : (hdrT ps (8 * ps.length) 257 zeros256 0 (2 ^ r) false at_).1 ≠ 0
    · rw [if_pos h1] at h0; exact absurd h0 h1
    · rw [if_neg h1] at h0 ⊢
      exact hdrsT_end ps r l _ _ (hdrT_end _ _ _ _ _ _ h (Classical.not_not.1 h1)) h0
theorem split1_ways (ps : List Int) : (∃ k, k ≠ 0 ∧ split1M ps = (k, 0, [], [])) ∨ ∃ r qs m, 5 ≤ r ∧ r ≤ 9 ∧ (qs : List (List Int)).length = 256 ∧ split1M ps = (0, r, qs, (ps.drop 33).drop m) := by
  unfold split1M
  by_cases h0 : ps.length = 0
  · rw [if_pos h0]; exact .inl ⟨3, by decide, rfl⟩
  · rw [if_neg h0]
    by_cases h1 : (ps.getD 0 0).toNat < 5 ∨ 9 < (ps.getD 0 0).toNat
    · rw [if_pos h1]; exact .inl ⟨13, by decide, rfl⟩
    · rw [if_neg h1]
      by_cases hd : (dirT (ps.drop 1)).1 ≠ 0
      · rw [if_pos hd]; exact .inl ⟨_, hd, rfl⟩
      · rw [if_neg hd]
        have hl := hdrsT_len (ps.drop 33) (ps.getD 0 0).toNat (dirT (ps.drop 1)).2 none256 0
        obtain ⟨H, hH⟩ : ∃ H, H = hdrsT (ps.drop 33) (ps.getD 0 0).toNat (dirT (ps.drop 1)).2 none256 0 := ⟨_, rfl⟩
        rw [← hH] at hl ⊢
        by_cases h2 : H.1 ≠ 0
        · rw [if_pos h2]; exact .inl ⟨_, h2, rfl⟩
        · rw [if_neg h2]
          by_cases h3 : H.2.2 % 8 ≠ 0 ∧ ((ps.drop 33).getD (H.2.2 / 8) 0).toNat / 2 ^ (H.2.2 % 8) ≠ 0
          · rw [if_pos h3]; exact .inl ⟨4, by decide, rfl⟩
          · rw [if_neg h3]; exact .inr ⟨_, _, _, by omega, by omega, by rw [hl]; exact List.length_replicate, rfl⟩
theorem split1_bytes {ps : List Int} (h : Bytes ps) : Bytes (split1M ps).2.2.2 := by
  rcases split1_ways ps with ⟨k, _, e⟩ | ⟨r, q, m, _, _, _, e⟩
  · rw [e]; intro x hx; cases hx
  · rw [e]; exact fun x hx => h x (List.mem_of_mem_drop (List.mem_of_mem_drop hx))
theorem split1_len (ps : List Int) : (split1M ps).2.2.2.length ≤ ps.length ∧ (split1M ps).2.2.1.length ≤ 256 := by
  rcases split1_ways ps with ⟨k, _, e⟩ | ⟨r, q, m, _, _, h, e⟩
  · rw [e]; simp
  · rw [e]; exact ⟨by simp, by rw [h]; exact Nat.le_refl _⟩
theorem dec_body1 {b : List Int} (hb : Bytes b) (hl : b.length ≤ 40000) (h0 : 0 < b.length) : dec1M (body1L b) b.length = (0, b) := by
  have hc : canM (firstR b : Nat) false (firstL b) b = true := of_can (one := false) hb (by omega) h0
  unfold dec1M
  rw [split1_enc hb (by omega) h0, if_neg (fun h => h rfl)]
  dsimp only
  exact dec_of_enc hc hb
theorem byte_cons {x : Int} {l : List Int} (hx : 0 ≤ x ∧ x < 256) (hl : Bytes l) : Bytes (x :: l) := fun y hy => by
  rcases List.mem_cons.1 hy with h | h
  · rw [h]; exact hx
  · exact hl y h
theorem bytes_app {a b : List Int} (ha : Bytes a) (hb : Bytes b) : Bytes (a ++ b) := fun y hy => by
  rcases List.mem_append.1 hy with h | h
  · exact ha y h
  · exact hb y h
theorem body1L_bytes (b : List Int) : Bytes (body1L b) := by
  unfold body1L
  have hr := firstR_ok b
  exact bytes_app (bytes_app (bytes_app (byte_cons (by omega) (fun x hx => by cases hx)) (packB_bytes _)) (packB_bytes _)) (packB_bytes _)
theorem hdrs_len {b : List Int} (hb : Bytes b) (hl : b.length ≤ 1000000) : ∀ (d i : Nat), i + d = (presN b 256).length → (hdrsB (firstR b) (firstL b) ((presN b 256).drop i)).length ≤ d * 3840 := by
  intro d
  induction d with
  | zero => intro i hi; rw [List.drop_of_length_le (by omega)]; simp [hdrsB]
  | succ d ih =>
    intro i hi
    have hlt : i < (presN b 256).length := by omega
    obtain ⟨c, hc, hc256, hpk⟩ := presN_get b hlt
    have hr := firstR_ok b
    have hd : (presN b 256).drop i = (c : Int) :: (presN b 256).drop (i + 1) := by rw [drop_cons _ _ hlt, hc]
    have hq : (firstL b).getD c [] = firstQ b c := firstL_get b hc256
    obtain ⟨n1, n2, n3⟩ := firstQ_nrm hb hl hc256 hpk
    have e2 : (2 : Int) ^ firstR b = ((2 ^ firstR b : Nat) : Int) := by simp
    have h1 := hdrB_len (r := firstR b) (by omega) n1 n2 257 0 (2 ^ firstR b) (by omega) (by rw [List.drop_zero, n3, e2]) (by rw [Nat.pow_succ]; have := Nat.two_pow_pos (firstR b); omega)
    have h2 : (256 - 0) * (firstR b + 3) ≤ 256 * 15 := Nat.mul_le_mul (by omega) (by omega)
    rw [hd]
    simp only [hdrsB, Int.toNat_natCast, hq, List.length_append]
    have := ih (i + 1) (by omega)
    omega
theorem body1L_len {b : List Int} (hb : Bytes b) (hl : b.length ≤ 40000) (h0 : 0 < b.length) : 33 < (body1L b).length ∧ (body1L b).length ≤ 900000 := by
  have HCan : canM (firstR b : Nat) false (firstL b) b = true := of_can (one := false) hb (by omega) h0
  have hF := encBits_len (can_log HCan).1 hb
  have h1 := hdrs_len hb (by omega) (presN b 256).length 0 (by omega)
  have h2 := presN_len b 256
  rw [List.drop_zero] at h1
  unfold body1L
  simp only [List.length_append, List.length_singleton, dirL_len, packB_len]
  omega
end Go.Proofs.YtdkemdcflbadhaaGreat
namespace Go.Proofs.YtdkemdcflbadhaaGreat
open Go.RowKit Go.IntWalk Go.Proofs.YtdkemdcflbadhaaGreatW.PrintWords
/-- what the closure reads and writes -/
structure S1 (rbx mb mc p B r n0 : Nat) (ps : List Int) (qs : List (List Int)) (at_ : Nat) (w0 W : World) : Prop where
  rd : RfAt W B p ps at_
  kb : W.heap[rbx]? = some (.cells #[.pointer (some ⟨p, 0, none⟩)] 80 (0, 0))
  km : W.heap[mb]? = some (.cells #[.int .i64 r, .bool false, .slice (some ⟨mc, 0, none⟩) 256 256] 31 (0, 0))
  row : kq.R 39 W n0 (fun k => k ≠ p ∧ k ≠ rbx ∧ k ≠ mb) (.slice (some ⟨mc, 0, none⟩) 256 256) qs
  on : Below n0 w0 W
def S1Post (rbx mb mc p B r n0 : Nat) (ps : List Int) (qs : List (List Int)) (at_ c : Nat) (w0 W : World) (e : Ending) (w' : World) : Prop :=
  Only (fun k => k = p ∨ k = mc) W w' ∧ ((hdrT ps (8 * ps.length) 257 zeros256 0 (2 ^ r) false at_).1 = 0 → e = .returned (.int .i64 0) ∧ S1 rbx mb mc p B r n0 ps (qs.set c (hdrT ps (8 * ps.length) 257 zeros256 0 (2 ^ r) false at_).2.1) (hdrT ps (8 * ps.length) 257 zeros256 0 (2 ^ r) false at_).2.2 w0 w') ∧
  ((hdrT ps (8 * ps.length) 257 zeros256 0 (2 ^ r) false at_).1 ≠ 0 → e = .returned (.int .i64 (hdrT ps (8 * ps.length) 257 zeros256 0 (2 ^ r) false at_).1) ∧ Below n0 w0 w')
set_option maxRecDepth 100000 in
set_option maxHeartbeats 1000000 in
theorem split1c_any (rbx mb mc p B r n0 : Nat) (ps : List Int) (qs : List (List Int)) (at_ c : Nat) (w0 W : World) (h : S1 rbx mb mc p B r n0 ps qs at_ w0 W) (hps : Bytes ps) (hl : ps.length ≤ 1000000) (ha : at_ ≤ 8 * ps.length) (hr1 : 1 ≤ r) (hr2 : r ≤ 12) (hc : c < 256)
    (h1 : n0 ≤ mc) (h2 : mc < B) (h3 : B ≤ p) (h4 : p < rbx) (h5 : mb < B) (_ : n0 ≤ mb) (h7 : mb ≠ mc) :
    Calls Tryz.prog 63 #[.int .i64 c, .pointer (some ⟨rbx, 0, none⟩), .pointer (some ⟨mb, 0, none⟩)] W (S1Post rbx mb mc p B r n0 ps qs at_ c w0 W) := by
  unfold S1Post
  obtain ⟨_, _, hpb, _⟩ := h.rd.ex
  have hTk := htake_any B p r ps at_ W h.rd hps hl ha hr1 hr2 (blk_lt hpb)
  obtain ⟨H, hH⟩ : ∃ H, H = hdrT ps (8 * ps.length) 257 zeros256 0 (2 ^ r) false at_ := ⟨_, rfl⟩
  rw [← hH] at hTk ⊢
  have HTk := Lib.hid hTk
  have HS := Lib.hid h
  have cb : W.cell? ⟨rbx, 0, none⟩ = some (.pointer (some ⟨p, 0, none⟩)) := (blk_cell h.kb 0).trans rfl
  obtain ⟨⟨m0, m1, m2⟩, -⟩ := cell3 h.km
  have hps' := blk_lt hpb
  have hcI : (0 : Int) ≤ (c : Int) ∧ (c : Int) < 256 := by omega
  obtain ⟨hc0, hc1⟩ := hcI
  have HBw := Lib.hid (And.intro hps' (And.intro (blk_lt h.km) (blk_lt h.kb)))
  clear h hTk hpb hH hps'
  go_enter Tryz.func63, Tryz.ntmps63
  go_wp2_with fail
  refine HTk.out.mono ?_
  rintro e w1 ⟨t1, t2, t3⟩
  have km1 : w1.heap[mb]? = some (.cells #[.int .i64 r, .bool false, .slice (some ⟨mc, 0, none⟩) 256 256] 31 (0, 0)) := (t3.block mb HBw.out.2.1 (by omega)).trans HS.out.km
  have kb1 : w1.heap[rbx]? = some (.cells #[.pointer (some ⟨p, 0, none⟩)] 80 (0, 0)) := (t3.block rbx HBw.out.2.2 (by omega)).trans HS.out.kb
  have row1 : kq.R 39 w1 n0 (fun k => (k ≠ p ∧ k ≠ rbx ∧ k ≠ mb) ∧ k < W.heap.size) (.slice (some ⟨mc, 0, none⟩) 256 256) qs := Kd.R_mono (Kd.R_step (Kd.R_bound HS.out.row) (fun k hk hlt => t3.block k hlt (by have := hk.1; exact this.1))) (fun k hk => ⟨hk.1, hk.2.2.1⟩)
  have on1 : Below n0 w0 w1 := HS.out.on.trans (t3.below (by have := HBw.out.1; omega) (fun k hk => by omega))
  obtain ⟨⟨u, hu⟩, hfu⟩ := kq_cell row1 c hc
  obtain ⟨⟨d0, d1, d2⟩, -⟩ := cell3 km1
  have HO := Lib.hid (t3.mono (S' := fun k => k = p ∨ k = mc) (fun k _ h => .inl h))
  have HF := Lib.hid (And.intro km1 (And.intro kb1 (And.intro row1 on1)))
  by_cases hz : H.1 = 0
  · obtain ⟨g, rfl, hq, hql, hrd⟩ := t1 hz
    have HQ := Lib.hid (And.intro hq (And.intro hql hrd))
    clear t1 t2 t3 km1 kb1 row1 on1 hq hql hrd
    go_wp2_with fail
    go_ret
    refine ⟨HO.out.setCell (p := ⟨mc, c, none⟩) (.inr rfl) _, fun _ => ⟨rfl, ?_⟩, fun h => absurd hz h⟩
    have hO : Only (fun k => k = mc) w1 (w1.setCell ⟨mc, c, none⟩ (.slice (some ⟨g, 0, none⟩) 256 256)) := (Only.refl (fun k => k = mc) w1).setCell (p := ⟨mc, c, none⟩) rfl _
    refine ⟨HQ.out.2.2.only hO (by show ¬ p = mc; omega) (fun k hB hk h => by have h : k = mc := h; omega), blk_far HF.out.2.1 (p := ⟨mc, c, none⟩) (by show rbx ≠ mc; omega) _, blk_far HF.out.1 (p := ⟨mc, c, none⟩) h7 _, ?_, HF.out.2.2.2.setCell h1 _⟩
    have hq2 : (Kd.int .i64).R 3 w1 n0 (fun k => W.heap.size ≤ k) (.slice (some ⟨g, 0, none⟩) 256 256) H.2.1 := Kd.R_lower (Kd.R_mono (Kd.R_bound HQ.out.1) (fun k hk => hk.2.1)) (by have := HBw.out.1; omega)
    exact kq_put (okp := fun k => W.heap.size ≤ k) (Kd.R_mono HF.out.2.2.1 (fun k hk => hk.1)) c hc hq2 (fun k hk => ⟨⟨by have := HBw.out.1; omega, by have := HBw.out.2.2; omega, by have := HBw.out.2.1; omega⟩, by have := ((Kd.R_bound HF.out.2.2.1).1 mc rfl).1.2; omega⟩)
  · have he := t2 hz
    subst he
    clear t1 t2 t3 km1 kb1 row1 on1
    go_wp2_with fail
    go_ret
    exact ⟨HO.out.setCell (p := ⟨mc, c, none⟩) (.inr rfl) _, fun h => absurd h hz, fun _ => ⟨rfl, HF.out.2.2.2.setCell h1 _⟩⟩
/-- what each closure's caller keeps -/
def EachPost (rbx mb mc p B r n0 : Nat) (ps : List Int) (T : Int × List (List Int) × Nat) (w0 : World) (e : Ending) (w' : World) : Prop :=
  (T.1 = 0 → e = .returned (.int .i64 0) ∧ S1 rbx mb mc p B r n0 ps T.2.1 T.2.2 w0 w') ∧ (T.1 ≠ 0 → e = .returned (.int .i64 T.1) ∧ Below n0 w0 w')
theorem hdrsT_drop (ps : List Int) (r : Nat) (l : List Int) {i : Nat} (hi : i < l.length) (qs : List (List Int)) (at_ : Nat) : hdrsT ps r (l.drop i) qs at_ =
    if (hdrT ps (8 * ps.length) 257 zeros256 0 (2 ^ r) false at_).1 ≠ 0 then ((hdrT ps (8 * ps.length) 257 zeros256 0 (2 ^ r) false at_).1, qs, at_) else
    hdrsT ps r (l.drop (i + 1)) (qs.set (l.getD i 0).toNat (hdrT ps (8 * ps.length) 257 zeros256 0 (2 ^ r) false at_).2.1) (hdrT ps (8 * ps.length) 257 zeros256 0 (2 ^ r) false at_).2.2 := by
  rw [List.drop_eq_getElem_cons hi, List.getD_eq_getElem?_getD, List.getElem?_eq_getElem hi]
  rfl
set_option maxRecDepth 100000 in
set_option maxHeartbeats 1000000 in
theorem each_any (Al : Option Addr) (cl : Nat) (l : List Int) (rbx mb mc p B r n0 : Nat) (ps : List Int) (qs : List (List Int)) (at_ : Nat) (w0 W : World) (h : S1 rbx mb mc p B r n0 ps qs at_ w0 W) (hl0 : (Kd.int .i64).R 3 W n0 (fun k => k < mc ∧ k < mb) (.slice Al l.length cl) l) (hlc : ∀ c ∈ l, 0 ≤ c ∧ c < 256) (hll : l.length ≤ 256)
    (hps : Bytes ps) (hl : ps.length ≤ 1000000) (ha : at_ ≤ 8 * ps.length) (hr1 : 1 ≤ r) (hr2 : r ≤ 12)
    (h1 : n0 ≤ mc) (h2 : mc < B) (h3 : B ≤ p) (h4 : p < rbx) (h5 : mb < B) (h6 : n0 ≤ mb) (h7 : mb ≠ mc) :
    Calls Tryz.prog 62 #[.slice Al l.length cl, .func (.func 63) #[] #[.pointer (some ⟨rbx, 0, none⟩), .pointer (some ⟨mb, 0, none⟩)]] W (EachPost rbx mb mc p B r n0 ps (hdrsT ps r l qs at_) w0) := by
  obtain ⟨T, hT⟩ : ∃ T, T = hdrsT ps r l qs at_ := ⟨_, rfl⟩
  rw [← hT]
  have hT0 : hdrsT ps r (l.drop 0) qs at_ = T := hT.symm
  have HX := Lib.hid (And.intro h (And.intro hl0 (And.intro hlc (And.intro hps (And.intro ha hT0)))))
  clear h hl0 hlc hps ha hT hT0
  go_enter Tryz.func62, Tryz.ntmps62
  go_wp2_with fail
  go_loopw [6, 7, 10] (fun _ _ kv wr => ∃ i : Nat, i ≤ l.length ∧ kv = .int .i64 i ∧ Hid (∃ qs' at', S1 rbx mb mc p B r n0 ps qs' at' w0 wr ∧ at' ≤ 8 * ps.length ∧ hdrsT ps r (l.drop i) qs' at' = T ∧ (Kd.int .i64).R 3 wr n0 (fun k => k < mc ∧ k < mb) (.slice Al l.length cl) l)) (fun _ _ kv _ => l.length - (intOf kv).toNat)
  case atStart => exact ⟨0, by omega, rfl, Lib.hid ⟨qs, at_, HX.out.1, HX.out.2.2.2.2.1, HX.out.2.2.2.2.2, HX.out.2.1⟩⟩
  case round =>
    obtain ⟨i, hi, rfl, H⟩ := hrel
    obtain ⟨qs', at', hS, hat, hTi, hlr⟩ := H.out
    by_cases hlt : i < l.length
    · obtain ⟨ad, hA, hci⟩ := ints_get (Kd.R_reads' hlr).2.2 i hlt
      subst hA
      have hm := HX.out.2.2.1 _ (hd_mem hlt)
      obtain ⟨c, hc⟩ : ∃ c : Nat, l.getD i 0 = (c : Int) := ⟨(l.getD i 0).toNat, by omega⟩
      rw [hc] at hci hm
      have hI : (i : Int) < (l.length : Int) := by omega
      rw [hdrsT_drop ps r l hlt, hc, Int.toNat_natCast] at hTi
      have hCl := split1c_any rbx mb mc p B r n0 ps qs' at' c w0 wr hS HX.out.2.2.2.1 hl hat hr1 hr2 (by omega) h1 h2 h3 h4 h5 h6 h7
      have hend := fun h => hdrT_end 257 zeros256 0 (2 ^ r) false at' hat (h : (hdrT ps (8 * ps.length) 257 zeros256 0 (2 ^ r) false at').1 = 0)
      unfold S1Post at hCl
      obtain ⟨Hd, hHd⟩ : ∃ Hd, Hd = hdrT ps (8 * ps.length) 257 zeros256 0 (2 ^ r) false at' := ⟨_, rfl⟩
      rw [← hHd] at hCl hTi hend
      have HC := Lib.hid (And.intro hCl (And.intro hTi (And.intro hend hlr)))
      clear hCl hTi hend hlr hS hat hHd hc hm H
      go_wp2_with fail
      refine HC.out.1.mono ?_
      rintro e w2 ⟨hon, t1, t2⟩
      by_cases hz : Hd.1 = 0
      · obtain ⟨rfl, hS2⟩ := t1 hz
        have hT2 := HC.out.2.1
        rw [if_neg (fun h => h hz)] at hT2
        have HN : Hid (∃ qs' at', S1 rbx mb mc p B r n0 ps qs' at' w0 w2 ∧ at' ≤ 8 * ps.length ∧ hdrsT ps r (l.drop (i + 1)) qs' at' = T ∧ (Kd.int .i64).R 3 w2 n0 (fun k => k < mc ∧ k < mb) (.slice (some ad) l.length cl) l) :=
          Lib.hid ⟨_, _, hS2, HC.out.2.2.1 hz, hT2, Kd.R_step HC.out.2.2.2 (fun k hk hlt => hon.block k hlt (fun h => by rcases h with h | h <;> omega))⟩
        clear t1 t2 hS2 hon hT2
        go_wp2_with fail
        go_roundw
        case rel => exact ⟨i + 1, by omega, by go_num, HN⟩
        case measure => simp [intOf]; omega
      · obtain ⟨rfl, hb⟩ := t2 hz
        have hT2 := HC.out.2.1
        rw [if_pos hz] at hT2
        have HB := Lib.hid (And.intro hb hT2)
        have hz2 : (Hd.1 != 0) = true := by simpa using hz
        clear t1 t2 hon hb hT2
        go_wp2_with fail
        go_ret
        rw [← HB.out.2]
        exact ⟨fun h => absurd h hz, fun _ => ⟨rfl, HB.out.1⟩⟩
    · obtain rfl : i = l.length := by omega
      have hT3 : T = (0, qs', at') := by rw [← hTi, List.drop_length]; rfl
      clear hlr hTi
      go_wp2_with fail
      go_ret
      rw [hT3]
      exact ⟨fun _ => ⟨rfl, hS⟩, fun h => absurd rfl h⟩
end Go.Proofs.YtdkemdcflbadhaaGreat
namespace Go.Proofs.YtdkemdcflbadhaaGreat
open Go.RowKit Go.IntWalk Go.Proofs.YtdkemdcflbadhaaGreatW.PrintWords
set_option maxRecDepth 100000 in
theorem for1_any (A : Option Addr) (c pb pc : Nat) (b : List Int) (i : Nat) (k : Int) (w : World) (hpb : w.cell? ⟨pb, 0, none⟩ = some (.slice A b.length c)) (hpc : w.cell? ⟨pc, 0, none⟩ = some (.int .i64 k)) (hr : (Kd.int .u8).C w A b.length b) (hi : i < b.length) (hl : b.length ≤ 1000000) (hb : Bytes b) :
    Calls Tryz.prog 149 #[.int .i64 i, .pointer (some ⟨pb, 0, none⟩), .pointer (some ⟨pc, 0, none⟩)] w fun e w' => e = .returned (.bool (decide (ctxI b i = k))) ∧ ∃ n, w' = w.drewN n := by
  have HN := Lib.hid (fun W (h : Below w.heap.size w W) => ctxAt_any A c b i W (Kd.C_below hr h) hi hl hb)
  obtain ⟨z, hz⟩ : ∃ z, z = ctxI b i := ⟨_, rfl⟩
  rw [← hz] at HN ⊢
  clear hr hi hl hb hz
  go_enter Tryz.func149, Tryz.ntmps149
  go_wp2_with fail
  go_quiet ((go_at_call 80; refine Calls.quiet_of_same ((HN.out _ (pw_below_drewN (Below.refl _ _) _)).mono fun e w' h => ⟨h.1, h.2.symm⟩)))
  all_goals
    go_wp2_with fail
    go_ret
    exact ⟨by first | rfl | exact ret_bool rfl, _, rfl⟩
def PickedPost (b : List Int) (k : Int) (w : World) (e : Ending) (w' : World) : Prop := ∃ v, e = .returned v ∧ (Kd.int .u8).R 5 w' w.heap.size (fun _ => True) v (pickedL b k) ∧ Below w.heap.size w w'
set_option maxRecDepth 100000 in
set_option maxHeartbeats 1000000 in
theorem picked_any (A : Option Addr) (c cc pb pc : Nat) (b : List Int) (k : Int) (w : World) (hpb : w.cell? ⟨pb, 0, none⟩ = some (.slice A b.length cc)) (hpbl : pb < w.heap.size) (hpc : w.cell? ⟨pc, 0, none⟩ = some (.int .i64 k)) (hpcl : pc < w.heap.size) (hr : (Kd.int .u8).C w A b.length b) (hl : b.length ≤ 1000000) (hb : Bytes b) :
    Calls Tryz.prog 148 #[.slice A b.length c, .func (Fn.func 149) #[] #[.pointer (some ⟨pb, 0, none⟩), .pointer (some ⟨pc, 0, none⟩)]] w (PickedPost b k w) := by
  have HR := Lib.hid (And.intro hr (And.intro hl (And.intro hb (And.intro hpbl hpcl))))
  have HCe := Lib.hid (And.intro hpb hpc)
  clear hr hl hb hpb hpc hpbl hpcl
  go_enter Tryz.func148, Tryz.ntmps148
  go_wp2_with fail
  go_loopw [5, 10] (fun v kv wr => ∃ i : Nat, i ≤ b.length ∧ kv = .int .i64 i ∧ Hid ((Kd.int .u8).R 5 wr w.heap.size (fun _ => True) v (pkL b k i) ∧ Below w.heap.size w wr)) (fun _ kv _ => b.length - (intOf kv).toNat)
  case atStart => exact ⟨0, by omega, rfl, Lib.hid ⟨by have : pkL b k 0 = [] := rfl; rw [this]; exact Kd.R_nil _ _ _ _ _, Below.refl _ _⟩⟩
  case round =>
    obtain ⟨i, hi, rfl, H⟩ := hrel
    by_cases hlt : i < b.length
    · obtain ⟨Av, cv, rfl⟩ := Kd.R_slice H.out.1
      have hbi := HR.out.2.2.1 _ (hd_mem hlt)
      obtain ⟨y, hy⟩ : ∃ y : Nat, b.getD i 0 = y := ⟨(b.getD i 0).toNat, by omega⟩
      obtain ⟨ad, hA, hcx⟩ := ints_get (Kd.C_below HR.out.1 H.out.2) i hlt
      rw [hy] at hcx
      subst hA
      have hcl := pkL_len b k i
      have HLn : Hid (((pkL b k i).length + 1) * 1 ≤ 140737488355328) := by show _ ≤ _; have := HR.out.2.1; omega
      have hl6 : b.length ≤ 1000000 := HR.out.2.1
      obtain ⟨L, hL⟩ : ∃ L, L = pkL b k i := ⟨_, rfl⟩
      have HL := Lib.hid hL
      have HY := Lib.hid (And.intro hy hbi)
      have hF := for1_any (some ad) cc pb pc b i k wr (by rw [H.out.2.cell (p := ⟨pb, 0, none⟩) HR.out.2.2.2.1]; exact HCe.out.1) (by rw [H.out.2.cell (p := ⟨pc, 0, none⟩) HR.out.2.2.2.2]; exact HCe.out.2) (Kd.C_below HR.out.1 H.out.2) hlt HR.out.2.1 HR.out.2.2.1
      have HF := Lib.hid hF
      rw [← hL] at H hcl HLn ⊢
      clear hF hy hbi hL
      by_cases hcond : ctxI b i = k
      · have HN : Hid (pkL b k (i + 1) = L ++ [(y : Int)]) := by show _ = _; rw [pkL_hit hcond, ← HL.out, HY.out.1]
        have hd := decide_eq_true hcond
        rw [hd] at HF
        clear hcond hd
        go_wp2_with fail
        refine HF.out.mono ?_
        rintro e w1 ⟨rfl, nq, rfl⟩
        obtain ⟨w2, hw2⟩ : ∃ w2, w2 = wr.drewN nq := ⟨_, rfl⟩
        have HB2 : Hid (Below w.heap.size w w2 ∧ w.heap.size ≤ w2.heap.size) := by
          have h1 : Below w.heap.size w w2 := by rw [hw2]; exact pw_below_drewN H.out.2 nq
          exact Lib.hid ⟨h1, h1.size⟩
        have HR2 : Hid ((Kd.int .u8).R 5 w2 w.heap.size (fun _ => True) (.slice Av L.length cv) L) := Lib.hid (by rw [hw2]; exact Kd.R_drewN H.out.1 nq)
        rw [← hw2]
        clear hw2 hcx
        go_wp2_with (at_builtin; refine Kd.R_append (Kd.int .u8) (w0 := w) (W := w2) w.heap.size rfl (.tmp 18) (.tmp 20) 22 5 (.int .u8 0) 1 rfl Tryz.underlying22 infoU8 rfl (by decide) (by decide) _ _ (y : Int) [.int .u8 y] (fun _ => True) (fun _ => False) rfl rfl rfl (fun _ h => h.elim) (fun _ _ => trivial) HR2.out HB2.out.1 HB2.out.2 HLn.out ?_; intro v1 w3 hr3 hb3 hg3 hat3; have HA := Lib.hid (And.intro hr3 hb3); clear hr3 hb3 hg3 hat3)
        go_roundw
        case rel => exact ⟨i + 1, by omega, by go_num, Lib.hid ⟨by rw [HN.out]; exact HA.out.1, HA.out.2⟩⟩
        case measure => simp [intOf]; omega
      · have HN : Hid (pkL b k (i + 1) = L) := by show _ = _; rw [pkL_miss hcond, ← HL.out]
        have hd := decide_eq_false hcond
        rw [hd] at HF
        clear hcond hd
        go_wp2_with fail
        refine HF.out.mono ?_
        rintro e w1 ⟨rfl, nq, rfl⟩
        go_wp2_with fail
        go_roundw
        case rel => exact ⟨i + 1, by omega, by go_num, Lib.hid ⟨by rw [HN.out]; exact Kd.R_drewN H.out.1 nq, pw_below_drewN H.out.2 nq⟩⟩
        case measure => simp [intOf]; omega
    · obtain rfl : i = b.length := by omega
      go_wp2_with fail
      go_ret
      exact ⟨_, rfl, H.out.1, H.out.2⟩
def ForPost (b : List Int) (k : Int) (w : World) (e : Ending) (w' : World) : Prop := ∃ v, e = .returned v ∧ (Kd.int .i64).R 3 w' w.heap.size (fun _ => True) v (histL (pickedL b k)) ∧ Below w.heap.size w w'
theorem picked_bytes {b : List Int} (hb : Bytes b) (k : Int) : Bytes (pickedL b k) := pkL_bytes hb k _
set_option maxRecDepth 100000 in
theorem ctxFor_any (A : Option Addr) (c : Nat) (b : List Int) (k : Int) (w : World) (hr : (Kd.int .u8).C w A b.length b) (hl : b.length ≤ 1000000) (hb : Bytes b) :
    Calls Tryz.prog 79 #[.slice A b.length c, .int .i64 k] w (ForPost b k w) := by
  obtain ⟨W, hW⟩ : ∃ W, W = (w.alloc (.cells #[.slice A b.length c] 22)).alloc (.cells #[.int .i64 k] 3) := ⟨_, rfl⟩
  have hb1 : Below w.heap.size w W := by rw [hW]; exact ((Below.refl _ _).alloc (Nat.le_refl _) _).alloc (by simp) _
  have hs : W.heap.size = w.heap.size + 2 := by rw [hW]; simp
  have hk1 : W.heap[w.heap.size]? = some (.cells #[.slice A b.length c] 22 (0, 0)) := by rw [hW]; exact blk_alloc (blk_new _ _) _
  have hk2 : W.heap[w.heap.size + 1]? = some (.cells #[.int .i64 k] 3 (0, 0)) := by rw [hW]; exact blk_new1 _ _ _
  have HP := Lib.hid (picked_any A c c w.heap.size (w.heap.size + 1) b k W ((blk_cell hk1 0).trans rfl) (by omega) ((blk_cell hk2 0).trans rfl) (by omega) (Kd.C_below hr hb1) hl hb)
  have HX := Lib.hid (And.intro hb1 (And.intro hl hb))
  have hc1 : W.cell? ⟨w.heap.size, 0, none⟩ = some (.slice A b.length c) := (blk_cell hk1 0).trans rfl
  clear hr hl hb hb1 hs hk1 hk2
  go_enter Tryz.func79, Tryz.ntmps79
  go_wp2_with fail
  rw [← hW]
  clear hW
  refine HP.out.mono ?_
  rintro e w1 ⟨v, rfl, hv, hb1⟩
  obtain ⟨A1, c1, rfl⟩ := Kd.R_slice hv
  have H1 := Lib.hid (And.intro (Kd.R_reads' hv).2.2 (below_tr HX.out.1 hb1))
  have HLp : Hid ((pickedL b k).length ≤ 1000000) := by show _ ≤ _; have := pkL_len b k b.length; have := HX.out.2.1; unfold pickedL; omega
  clear hv hb1
  go_wp2_with fail
  refine (histOf_any A1 c1 (pickedL b k) w1 H1.out.1 HLp.out (picked_bytes HX.out.2.2 k)).mono ?_
  rintro e w2 ⟨v2, rfl, hv2, hb2⟩
  have H2 := Lib.hid (And.intro hv2 hb2)
  clear hv2 hb2
  go_wp2_with fail
  go_ret
  exact ⟨v2, rfl, Kd.R_lower H2.out.1 H1.out.2.size, below_tr H1.out.2 H2.out.2⟩
end Go.Proofs.YtdkemdcflbadhaaGreat
namespace Go.Proofs.YtdkemdcflbadhaaGreat
open Go.RowKit Go.IntWalk Go.Proofs.YtdkemdcflbadhaaGreatW.PrintWords Go.Proofs.YtdkemdcflbadhaaGreatW.PrintMore
attribute [local go_sem] max2_int min2_int max_two min_two
/-- which contexts the first i bytes have -/
def metL (b : List Int) : Nat → List Bool
  | 0 => List.replicate 256 false
  | i + 1 => (metL b i).set (ctxI b (i : Nat)).toNat true
theorem metL_len (b : List Int) : ∀ i, (metL b i).length = 256
  | 0 => List.length_replicate
  | i + 1 => by unfold metL; rw [List.length_set]; exact metL_len b i
theorem ctx_rg {b : List Int} (hb : Bytes b) {i : Nat} (hi : i < b.length) : 0 ≤ ctxI b (i : Nat) ∧ ctxI b (i : Nat) < 256 := by
  unfold ctxI
  rw [if_neg (by omega)]
  split
  · omega
  · exact hb.get _
theorem metL_get {b : List Int} (hb : Bytes b) {c : Nat} (hc : c < 256) : ∀ i, i ≤ b.length → (metL b i).getD c false = decide (0 < (pkL b (c : Int) i).length)
  | 0, _ => by
    have : pkL b (c : Int) 0 = [] := rfl
    rw [this]
    unfold metL
    rw [List.getD_eq_getElem?_getD, List.getElem?_replicate, if_pos hc]; rfl
  | i + 1, h => by
    have ih := metL_get hb hc i (by omega)
    have hr := ctx_rg hb (show i < b.length by omega)
    unfold metL
    rw [List.getD_eq_getElem?_getD, List.getElem?_set]
    by_cases e : ctxI b (i : Nat) = (c : Int)
    · rw [if_pos (by omega), if_pos (by rw [metL_len]; omega), pkL_hit e]
      simp
    · rw [if_neg (by omega), ← List.getD_eq_getElem?_getD, ih, pkL_miss e]
theorem sizeMet : (Tryz.prog.info? 96).map (·.size) = some 256 := by kernel_rfl
theorem sizeBool : (Tryz.prog.info? 4).map (·.size) = some 1 := by kernel_rfl
theorem zeroMet : Tryz.zeroCells96 = ((List.replicate 256 false).map Value.bool).toArray := by kernel_rfl
theorem index_met (ms : List Bool) (hm : ms.length = 256) (i : Nat) (hi : i < 256) (w : World) : (Instr.index 96 (.agg (ms.map Value.bool).toArray) (.int .i64 i)).run Tryz.prog w = .ok (.bool (ms.getD i false)) w := by
  obtain ⟨i0, hi0, hsz⟩ := Option.map_eq_some_iff.1 sizeBool
  have h1 : (0 : Int) ≤ i ∧ (i : Int) < ((256 : Nat) : Int) := by omega
  have hag : (isAgg 4).run Tryz.prog w = .ok false w := by simp [isAgg, Tryz.underlying4, go_sem, run_underlying]
  have he : ms[i]? = some ms[i] := List.getElem?_eq_getElem (by omega)
  unfold Instr.index
  simp [run_underlying (P := Tryz.prog) Tryz.underlying96, asIntOf, sizeOf, typeInfo, hi0, hsz, part, hag, h1, Result.andThen, he, hi]
/-- a block of marks -/
def MetAt (p : Nat) (ms : List Bool) (w : World) : Prop := w.heap[p]? = some (.cells (ms.map Value.bool).toArray 96 (0, 0))
theorem MetAt.cell {p : Nat} {ms : List Bool} {w : World} (h : MetAt p ms w) {c : Nat} (hc : c < ms.length) : w.cell? ⟨p, c, none⟩ = some (.bool (ms.getD c false)) ∧ w.frozen? ⟨p, c, none⟩ = false := by
  refine ⟨(blk_cell h c).trans ?_, blk_frozen h c⟩
  rw [List.getElem?_toArray, List.getElem?_map, List.getElem?_eq_getElem hc, List.getD_eq_getElem?_getD, List.getElem?_eq_getElem hc]; rfl
theorem MetAt.set {p : Nat} {ms : List Bool} {w : World} (h : MetAt p ms w) (c : Nat) : MetAt p (ms.set c true) (w.setCell ⟨p, c, none⟩ (.bool true)) := by
  unfold MetAt at h ⊢
  rw [blk_set h c]
  congr 2
  rw [List.map_set]; simp
theorem MetAt.range {p : Nat} {ms : List Bool} {w : World} (h : MetAt p ms w) : w.rangeAt p 0 (ms.map Value.bool) := fun j v hv => by
  rw [Nat.zero_add, blk_cell h j]
  simpa using hv
def PresPost (b : List Int) (w : World) (e : Ending) (w' : World) : Prop := ∃ v, e = .returned v ∧ (Kd.int .i64).R 3 w' w.heap.size (fun _ => True) v (presN b 256) ∧ Below w.heap.size w w'
theorem pres_metL {b : List Int} (hb : Bytes b) {c : Nat} (hc : c < 256) : (metL b b.length).getD c false = decide (0 < (pickedL b (c : Int)).length) := metL_get hb hc b.length (Nat.le_refl _)
set_option maxRecDepth 100000 in
set_option maxHeartbeats 1000000 in
theorem ctxPresent_any (A : Option Addr) (cp : Nat) (b : List Int) (w : World) (hr : (Kd.int .u8).C w A b.length b) (hl : b.length ≤ 1000000) (hb : Bytes b) :
    Calls Tryz.prog 30 #[.slice A b.length cp] w (PresPost b w) := by
  obtain ⟨W, hW⟩ : ∃ W, W = w.alloc (.cells Tryz.zeroCells96 96) := ⟨_, rfl⟩
  have hb1 : Below w.heap.size w W := by rw [hW]; exact (Below.refl _ _).alloc (Nat.le_refl _) _
  have hm1 : MetAt w.heap.size (metL b 0) W := by rw [hW, zeroMet]; exact blk_new _ _
  have H1 := Lib.hid (And.intro hb1 hm1)
  have HR := Lib.hid (And.intro hr (And.intro hl hb))
  obtain ⟨p, hp⟩ : ∃ p, p = w.heap.size := ⟨_, rfl⟩
  rw [← hp] at H1
  have HP := Lib.hid hp
  clear hr hl hb hb1 hm1
  go_enter Tryz.func30, Tryz.ntmps30
  go_wp2_with fail
  rw [← hW, ← hp]
  clear hW hp
  go_loopw [10] (fun kv wr => ∃ i : Nat, i ≤ b.length ∧ kv = .int .i64 i ∧ Hid (MetAt p (metL b i) wr ∧ Below p w wr ∧ Only (fun k => k = p) W wr)) (fun kv _ => b.length - (intOf kv).toNat)
  case atStart => exact ⟨0, by omega, rfl, Lib.hid ⟨H1.out.2, by rw [HP.out]; have := H1.out.1; rw [HP.out] at this; exact this, Only.refl _ _⟩⟩
  case round =>
    obtain ⟨i, hi, rfl, H⟩ := hrel
    by_cases hlt : i < b.length
    · have hB : Below w.heap.size w wr := by have := H.out.2.1; rw [HP.out] at this; exact this
      have hRr : (Kd.int .u8).C wr A b.length b := Kd.C_below HR.out.1 hB
      have HAt := Lib.hid (ctxAt_any A cp b i wr hRr hlt HR.out.2.1 HR.out.2.2)
      obtain ⟨c, hc, hc2⟩ : ∃ c : Nat, ctxI b (i : Nat) = c ∧ c < 256 := by
        have := ctx_rg HR.out.2.2 hlt
        exact ⟨(ctxI b (i : Nat)).toNat, by omega, by omega⟩
      rw [hc] at HAt
      obtain ⟨mc, mf⟩ := H.out.1.cell (c := c) (by rw [metL_len]; omega)
      have HN : Hid (metL b (i + 1) = (metL b i).set c true) := by show _ = _; rw [metL, hc, Int.toNat_natCast]
      have hl6 : b.length ≤ 1000000 := HR.out.2.1
      clear hc hRr hB
      go_wp2_with fail
      refine HAt.out.mono ?_
      rintro e w1 ⟨rfl, rfl⟩
      go_wp2_with fail
      go_roundw
      case rel => exact ⟨i + 1, by omega, by go_num, Lib.hid ⟨by rw [HN.out]; exact H.out.1.set c, H.out.2.1.setCell (Nat.le_refl _) _, H.out.2.2.set1 _ _⟩⟩
      case measure => simp [intOf]; omega
    · obtain rfl : i = b.length := by omega
      have hld := H.out.1.range
      obtain ⟨ms, hms⟩ : ∃ ms, ms = metL b b.length := ⟨_, rfl⟩
      have HMs : Hid (ms.length = 256 ∧ ∀ c, c < 256 → ms.getD c false = decide (0 < (pickedL b (c : Int)).length)) := Lib.hid ⟨by rw [hms]; exact metL_len b _, fun c hc => by rw [hms]; exact pres_metL HR.out.2.2 hc⟩
      rw [← hms] at hld
      have HLd := Lib.hid hld
      clear hms hld
      go_wp2_with fail
      refine wp_load_mid 96 (.tmp 3) rfl p 0 rfl (ms.map Value.bool) _ HLd.out Tryz.underlying96 rfl (by rw [sizeMet]; simp [HMs.out.1]) ?_
      go_wp2_with fail
      go_loopw [5, 19] (fun v kv wr => ∃ c : Nat, c ≤ 256 ∧ kv = .int .i64 c ∧ Hid ((Kd.int .i64).R 3 wr w.heap.size (fun _ => True) v (presN b c) ∧ Below w.heap.size w wr)) (fun _ kv _ => 256 - (intOf kv).toNat)
      case atStart => exact ⟨0, by omega, rfl, Lib.hid ⟨by have : presN b 0 = [] := rfl; rw [this]; exact Kd.R_nil _ _ _ _ _, by have := H.out.2.1; rw [HP.out] at this; exact this⟩⟩
      case round =>
        obtain ⟨c, hc, rfl, G⟩ := hrel
        by_cases hlt : c < 256
        · have hix := index_met ms HMs.out.1 c hlt
          have hmc := HMs.out.2 c hlt
          obtain ⟨Av, cv, rfl⟩ := Kd.R_slice G.out.1
          have hpl := presN_len b c
          have HLn : Hid (((presN b c).length + 1) * 8 ≤ 140737488355328) := by show _ ≤ _; omega
          obtain ⟨L, hL⟩ : ∃ L, L = presN b c := ⟨_, rfl⟩
          have hsucc := presN_succ b c
          rw [← hL] at G hpl HLn hsucc ⊢
          have HGB : Hid (Below w.heap.size w wr ∧ w.heap.size ≤ wr.heap.size) := Lib.hid ⟨G.out.2, G.out.2.size⟩
          by_cases hp0 : 0 < (pickedL b (c : Int)).length
          · rw [decide_eq_true hp0] at hmc
            rw [if_pos hp0] at hsucc
            rw [hmc] at hix
            have HS := Lib.hid hsucc
            clear hmc hsucc hL hp0
            go_wp2_with (at_builtin; refine Kd.R_append (Kd.int .i64) (w0 := w) (W := wr) w.heap.size rfl (.tmp 24) (.tmp 26) 39 3 (.int .i64 0) 8 rfl Tryz.underlying39 infoInt rfl (by decide) (by decide) _ _ (c : Int) [.int .i64 c] (fun _ => True) (fun _ => False) rfl rfl rfl (fun _ h => h.elim) (fun _ _ => trivial) G.out.1 HGB.out.1 HGB.out.2 HLn.out ?_; intro v1 w3 hr3 hb3 hg3 hat3; have HA := Lib.hid (And.intro hr3 hb3); clear hr3 hb3 hg3 hat3)
            go_roundw
            case rel => exact ⟨c + 1, by omega, by go_num, Lib.hid ⟨by rw [HS.out]; exact HA.out.1, HA.out.2⟩⟩
            case measure => simp [intOf]; omega
          · rw [decide_eq_false hp0] at hmc
            rw [if_neg hp0] at hsucc
            rw [hmc] at hix
            have HS := Lib.hid hsucc
            clear hmc hsucc hL hp0
            go_wp2_with fail
            go_roundw
            case rel => exact ⟨c + 1, by omega, by go_num, Lib.hid ⟨by rw [HS.out]; exact G.out.1, G.out.2⟩⟩
            case measure => simp [intOf]; omega
        · obtain rfl : c = 256 := by omega
          go_wp2_with fail
          go_ret
          exact ⟨_, rfl, G.out.1, G.out.2⟩
/-- the most unlike bytes of some contexts -/
def widL (b : List Int) : List Int → Nat
  | [] => 0
  | c :: l => max (manyC (histL (pickedL b c))) (widL b l)
theorem widL_app (b : List Int) (c : Int) : ∀ l : List Int, widL b (l ++ [c]) = max (widL b l) (manyC (histL (pickedL b c)))
  | [] => by simp [widL]
  | x :: l => by
    show max (manyC (histL (pickedL b x))) (widL b (l ++ [c])) = max (max (manyC (histL (pickedL b x))) (widL b l)) _
    rw [widL_app b c l, Nat.max_assoc]
theorem many_nil : manyC (histL []) = 0 := by decide +kernel
theorem widL_pres (b : List Int) : ∀ k, widL b (presN b k) = widN b k
  | 0 => rfl
  | k + 1 => by
    rw [presN_succ]
    show _ = max (widN b k) (manyC (histL (pickedL b (k : Nat))))
    by_cases h : 0 < (pickedL b (k : Int)).length
    · rw [if_pos h, widL_app, widL_pres b k]
    · rw [if_neg h, widL_pres b k]
      have e : pickedL b ((k : Nat) : Int) = [] := List.eq_nil_of_length_eq_zero (by omega)
      rw [e, many_nil]; simp
theorem widL_le (b : List Int) : ∀ l, widL b l ≤ 256
  | [] => by simp [widL]
  | c :: l => by
    have := widL_le b l; have := manyC_le (histL (pickedL b c))
    simp only [widL]; omega
set_option maxRecDepth 100000 in
set_option maxHeartbeats 1000000 in
theorem ctxWidest_any (A : Option Addr) (cp : Nat) (b : List Int) (w : World) (hr : (Kd.int .u8).C w A b.length b) (hl : b.length ≤ 1000000) (hb : Bytes b) :
    Calls Tryz.prog 77 #[.slice A b.length cp] w (Ret (.int .i64 (widN b 256 : Nat)) w) := by
  have HR := Lib.hid (And.intro hr (And.intro hl hb))
  clear hr hl hb
  go_enter Tryz.func77, Tryz.ntmps77
  go_wp2_with fail
  refine (ctxPresent_any A cp b w HR.out.1 HR.out.2.1 HR.out.2.2).mono ?_
  rintro e w1 ⟨v, rfl, hv, hb1⟩
  obtain ⟨A1, c1, rfl⟩ := Kd.R_slice hv
  have H1 := Lib.hid (And.intro (Kd.R_reads' hv).2.2 hb1)
  have hpl := presN_len b 256
  obtain ⟨L, hL⟩ : ∃ L, L = presN b 256 := ⟨_, rfl⟩
  have HL := Lib.hid hL
  rw [← hL] at H1 hpl ⊢
  clear hv hb1 hL
  go_wp2_with fail
  go_loopw [3, 9] (fun mv kv wr => ∃ i : Nat, i ≤ L.length ∧ kv = .int .i64 i ∧ mv = .int .i64 (widL b (L.take i) : Nat) ∧ Hid (Below w1.heap.size w1 wr)) (fun _ kv _ => L.length - (intOf kv).toNat)
  case atStart => exact ⟨0, by omega, rfl, rfl, Lib.hid (Below.refl _ _)⟩
  case round =>
    obtain ⟨i, hi, rfl, rfl, H⟩ := hrel
    by_cases hlt : i < L.length
    · obtain ⟨ad, hA, hcx⟩ := ints_get (Kd.C_below H1.out.1 H.out) i hlt
      subst hA
      have ht : L.take (i + 1) = L.take i ++ [L.getD i 0] := by rw [List.take_succ_eq_append_getElem hlt, List.getD_eq_getElem?_getD, List.getElem?_eq_getElem hlt, Option.getD_some]
      obtain ⟨c, hc⟩ : ∃ c, c = L.getD i 0 := ⟨_, rfl⟩
      rw [← hc] at ht hcx
      obtain ⟨m, hm⟩ : ∃ m, m = widL b (L.take i) := ⟨_, rfl⟩
      obtain ⟨k, hk⟩ : ∃ k, k = manyC (histL (pickedL b c)) := ⟨_, rfl⟩
      have hN : widL b (L.take (i + 1)) = max m k := by rw [ht, widL_app, ← hm, ← hk]
      have hm256 : m ≤ 256 := by rw [hm]; exact widL_le _ _
      have hk256 : k ≤ 256 := by rw [hk]; exact manyC_le _
      have HN := Lib.hid (And.intro hN hk)
      rw [← hm]
      have hBw := below_tr H1.out.2 H.out
      have HFor := Lib.hid (ctxFor_any A cp b c wr (Kd.C_below HR.out.1 hBw) HR.out.2.1 HR.out.2.2)
      have HB := Lib.hid H.out
      clear ht hc hm hN hk hBw
      go_wp2_with fail
      refine HFor.out.mono ?_
      rintro e w2 ⟨v2, rfl, hv2, hb2⟩
      obtain ⟨A2, c2, rfl⟩ := Kd.R_slice hv2
      have HV2 := Lib.hid (Kd.R_reads' hv2).2.2
      have HB2 : Hid (Below w1.heap.size w1 w2) := Lib.hid (below_tr HB.out hb2)
      have HRi : Hid (rightC (histL (pickedL b c)) = true) := Lib.hid (hist_right _ (picked_bytes HR.out.2.2 c) (by have := pkL_len b c b.length; have := HR.out.2.1; unfold pickedL; omega))
      clear hv2 hb2
      go_wp2_with fail
      refine (many_any A2 c2 _ w2 HV2.out HRi.out).mono ?_
      rw [← HN.out.2]
      rintro e w3 ⟨rfl, rfl⟩
      by_cases hmk : (m : Int) < (k : Int)
      · have HM : Hid (max m k = k) := by show _ = _; omega
        go_wp2_with fail
        go_roundw
        case rel => exact ⟨i + 1, by omega, by go_num, by rw [HN.out.1, HM.out], HB2.out⟩
        case measure => simp [intOf]; omega
      · have HM : Hid (max m k = m) := by show _ = _; omega
        go_wp2_with fail
        go_roundw
        case rel => exact ⟨i + 1, by omega, by go_num, by rw [HN.out.1, HM.out], HB2.out⟩
        case measure => simp [intOf]; omega
    · obtain rfl : i = L.length := by omega
      have HE : Hid (widL b (L.take L.length) = widN b 256) := by show _ = _; rw [List.take_length, HL.out, widL_pres]
      rw [HE.out]
      go_wp2_with fail
      go_ret
      exact ⟨rfl, below_tr H1.out.2 H.out⟩
end Go.Proofs.YtdkemdcflbadhaaGreat
