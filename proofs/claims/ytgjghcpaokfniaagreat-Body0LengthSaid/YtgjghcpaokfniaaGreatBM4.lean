/- Plain: what the printed references of counts answer (right, total, log). -/
import Derived.Test.YtgjghcpaokfniaaGreatBR1
import Derived.Test.YtgjghcpaokfniaaGreatBS1
import Derived.Test.YtgjghcpaokfniaaGreatBM1
import Derived.Test.YtgjghcpaokfniaaGreatBM2
import Derived.Test.YtgjghcpaokfniaaGreatBM0
import Derived.Deep.LoopGhost
import Derived.Laws.Rows
import Derived.Deep.DeepCutAuto
import Derived.Deep.RegionHeld3
import Derived.Defers
import Derived.Recover
import Derived.BigQuiet
namespace Go.Proofs.YtgjghcpaokfniaaGreat
open Go.RowKit Go.Proofs.YtgjghcpaokfniaaGreat.PRef Go.Proofs.YtgjghcpaokfniaaGreatW.PrintWords Go.Proofs.YtgjghcpaokfniaaGreatW.PrintLast Go.Proofs.YtgjghcpaokfniaaGreatW.PrintMore
theorem rd_nat (xs : List Int) (i : Nat) : rd xs (i : Int) = xs.getD i 0 := rfl
theorem wS (i : Nat) (h : i ≤ 1000000000) : wrap64 ((i : Int) + 1) = ((i + 1 : Nat) : Int) := by rw [w64 (by omega)]; simp
theorem take_snoc_mem {c : List Int} {i : Nat} (h : i < c.length) {P : Int → Prop} (h1 : ∀ x ∈ c.take i, P x) (h2 : P (c.getD i 0)) : ∀ x ∈ c.take (i + 1), P x := by
  intro x hx
  rw [List.take_succ_eq_append_getElem h] at hx
  rcases List.mem_append.1 hx with hx | hx
  · exact h1 x hx
  · rw [List.mem_singleton.1 hx]
    rw [List.getD_eq_getElem?_getD, List.getElem?_eq_getElem h] at h2; exact h2
theorem getD_mem {c : List Int} {i : Nat} (h : i < c.length) : c.getD i 0 ∈ c := by
  rw [List.getD_eq_getElem?_getD, List.getElem?_eq_getElem h]; exact List.getElem_mem h
theorem refRight_loop (c : List Int) (hl : c.length = 256) : ∀ (d i : Nat) (s : Int), i + d = 256 → i ≤ 256 → s = (c.take i).sum → (∀ x ∈ c.take i, 0 ≤ x ∧ x ≤ 1073741824) → 0 ≤ s → s ≤ i * 1073741824 →
    Ev (fun k => puncheonref05_Right.l0 k c s (i : Int)) (rightC c) := by
  intro d
  induction d with
  | zero =>
    intro i s hd hi hs ha h0 h1
    refine Ev.step (fun k => (show puncheonref05_Right.l0 (k + 1) c s (i : Int) = _ by simp only [puncheonref05_Right.l0]; rw [if_neg (by omega)])) ?_
    rw [List.take_of_length_le (by omega)] at hs ha
    have e : rightC c = decide (s ≤ 1073741824) := by
      unfold rightC; rw [hs]; exact decide_eq_decide.2 ⟨fun h => h.2.2, fun h => ⟨hl, fun x hx => (ha x hx).1, h⟩⟩
    rw [e]; exact Ev.now _
  | succ d ih =>
    intro i s hd hi hs ha h0 h1
    have hlt : i < c.length := by omega
    have hts := take_sum hlt
    by_cases hn : c.getD i 0 < 0
    · refine Ev.step (fun k => (show puncheonref05_Right.l0 (k + 1) c s (i : Int) = _ by simp only [puncheonref05_Right.l0]; rw [if_pos (by omega), if_pos (by omega), if_pos (by omega), rd_nat, if_pos hn])) ?_
      have e : rightC c = false := by
        rw [← Bool.not_eq_true, rightC_iff]; intro h
        have := h.2.1 _ (getD_mem hlt); omega
      rw [e]; exact Ev.now _
    · by_cases hb : c.getD i 0 > 1073741824
      · refine Ev.step (fun k => (show puncheonref05_Right.l0 (k + 1) c s (i : Int) = _ by simp only [puncheonref05_Right.l0]; rw [if_pos (by omega), if_pos (by omega), if_pos (by omega), rd_nat, if_neg hn, if_pos hb])) ?_
        have e : rightC c = false := by
          rw [← Bool.not_eq_true, rightC_iff]; intro h
          have := le_sum h.2.1 (getD_mem hlt); omega
        rw [e]; exact Ev.now _
      · refine Ev.step (fun k => (show puncheonref05_Right.l0 (k + 1) c s (i : Int) = _ by simp only [puncheonref05_Right.l0]; rw [if_pos (by omega), if_pos (by omega), if_pos (by omega), rd_nat, if_neg hn, if_neg hb, wS i (by omega), w64 (n := s + c.getD i 0) (by omega)])) ?_
        exact ih (i + 1) _ (by omega) (by omega) (by rw [hts, hs]) (take_snoc_mem hlt ha (by omega)) (by omega) (by omega)
theorem refRight_eq (c : List Int) : Ev (fun k => puncheonref05_Right.f k c) (rightC c) := by
  by_cases hl : c.length = 256
  · refine Ev.congr (fun k => (show puncheonref05_Right.f k c = _ by unfold puncheonref05_Right.f; rw [if_pos (by omega)])) ?_
    exact refRight_loop c hl 256 0 0 (by omega) (by omega) (by simp) (by simp) (by omega) (by omega)
  · refine Ev.congr (fun k => (show puncheonref05_Right.f k c = _ by unfold puncheonref05_Right.f; rw [if_neg (by omega)])) ?_
    have e : rightC c = false := by rw [← Bool.not_eq_true, rightC_iff]; exact fun h => hl h.1
    rw [e]; exact Ev.now _
theorem refTotal_loop (c : List Int) (hr : rightC c = true) : ∀ (d i : Nat) (s : Int), c.length - i = d → i ≤ c.length → s = (c.take i).sum → Ev (fun k => puncheonref05_Total.l0 k c s true (i : Int)) c.sum
  | 0, i, s, hd, hi, hs => by
    refine Ev.step (fun k => (show puncheonref05_Total.l0 (k + 1) c s true (i : Int) = _ by simp only [puncheonref05_Total.l0]; rw [if_neg (by omega)])) ?_
    rw [List.take_of_length_le (by omega)] at hs
    rw [← hs]; exact Ev.now _
  | d + 1, i, s, hd, hi, hs => by
    have hlt : i < c.length := by omega
    have hts := take_sum hlt
    have hR := rightC_iff.1 hr
    have h1 := take_sum_le hR.2.1 (i + 1)
    have h2 : 0 ≤ (c.take (i + 1)).sum := sum_nonneg (fun x hx => hR.2.1 x (List.mem_of_mem_take hx))
    refine Ev.step (fun k => (show puncheonref05_Total.l0 (k + 1) c s true (i : Int) = _ by simp only [puncheonref05_Total.l0]; rw [if_pos (by omega), if_pos trivial, if_pos (by omega), rd_nat, wS i (by omega), w64 (n := s + c.getD i 0) (by omega)])) ?_
    exact refTotal_loop c hr d (i + 1) _ (by omega) (by omega) (by rw [hts, hs])
theorem refTotal_eq (c : List Int) : Ev (fun k => puncheonref05_Total.f k c) (totalC c) := by
  unfold puncheonref05_Total.f
  refine Ev.bind (refRight_eq c) ?_
  unfold totalC
  cases hr : rightC c with
  | true => rw [if_pos rfl]; exact refTotal_loop c hr _ 0 0 rfl (by omega) (by simp)
  | false =>
    rw [if_neg (by decide)]
    refine Ev.step (fun k => (show puncheonref05_Total.l0 (k + 1) c 0 false 0 = some 0 by simp only [puncheonref05_Total.l0]; split <;> simp)) (Ev.now _)
theorem refPower_loop (r : Nat) (hr : r ≤ 30) : ∀ (d i : Nat), r - i = d → i ≤ r → Ev (fun k => puncheonref08_power.l0 k (r : Int) ((2 ^ i : Nat) : Int) (i : Int)) ((2 ^ r : Nat) : Int)
  | 0, i, hd, hi => by
    obtain rfl : i = r := by omega
    exact Ev.step (fun k => (show puncheonref08_power.l0 (k + 1) (i : Int) _ (i : Int) = _ by simp only [puncheonref08_power.l0]; rw [if_neg (by omega)])) (Ev.now _)
  | d + 1, i, hd, hi => by
    have hp : 2 ^ (i + 1) ≤ 2 ^ 30 := Nat.pow_le_pow_right (by omega) (by omega)
    have e : (2 : Int) * ((2 ^ i : Nat) : Int) = ((2 ^ (i + 1) : Nat) : Int) := by rw [Nat.pow_succ]; omega
    have e2 : wrap64 ((2 ^ (i + 1) : Nat) : Int) = ((2 ^ (i + 1) : Nat) : Int) := by
      generalize 2 ^ (i + 1) = P at hp ⊢
      exact w64 (by omega)
    refine Ev.step (fun k => (show puncheonref08_power.l0 (k + 1) (r : Int) _ (i : Int) = _ by simp only [puncheonref08_power.l0]; rw [if_pos (by omega), wS i (by omega), e, e2])) ?_
    exact refPower_loop r hr d (i + 1) (by omega) (by omega)
theorem refPower_eq (r : Nat) (hr : r ≤ 30) : Ev (fun k => puncheonref08_power.f k (r : Int)) ((2 ^ r : Nat) : Int) := by
  unfold puncheonref08_power.f; exact refPower_loop r hr r 0 (by omega) (by omega)
theorem refLog_loop (t : Int) : ∀ (d i : Nat), i + d = 13 → 1 ≤ i → i ≤ 13 → (∀ r, 1 ≤ r → r < i → t ≠ 2 ^ r) → Ev (fun k => puncheonref08_Log.l0 k t (i : Int)) ((logT t : Nat) : Int)
  | 0, i, hd, h1, hi, hn => by
    obtain rfl : i = 13 := by omega
    rw [logT_none (fun r a b => hn r a (by omega))]
    exact Ev.step (fun k => (show puncheonref08_Log.l0 (k + 1) t ((13 : Nat) : Int) = _ by simp only [puncheonref08_Log.l0]; rw [if_neg (by decide)]; rfl)) (Ev.now _)
  | d + 1, i, hd, h1, hi, hn => by
    refine Ev.step (fun k => (show puncheonref08_Log.l0 (k + 1) t (i : Int) = _ by simp only [puncheonref08_Log.l0]; rw [if_pos (by omega)])) ?_
    refine Ev.bind (refPower_eq i (by omega)) ?_
    have e : ((2 ^ i : Nat) : Int) = 2 ^ i := by simp
    by_cases ht : t = 2 ^ i
    · refine Ev.congr (fun k => if_pos (by rw [e]; exact ht)) ?_
      rw [logT_found h1 (by omega) ht]; exact Ev.now _
    · refine Ev.congr (fun k => (if_neg (by rw [e]; exact ht)).trans (by rw [wS i (by omega)])) ?_
      refine refLog_loop t d (i + 1) (by omega) (by omega) (by omega) (fun r a b => ?_)
      by_cases hri : r = i
      · rw [hri]; exact ht
      · exact hn r a (by omega)
theorem refLog_eq (c : List Int) : Ev (fun k => puncheonref08_Log.f k c) ((logC c : Nat) : Int) := by
  unfold puncheonref08_Log.f
  exact Ev.bind (refTotal_eq c) (refLog_loop _ 12 1 (by omega) (by omega) (by omega) (fun r a b => by omega))
end Go.Proofs.YtgjghcpaokfniaaGreat
namespace Go.Proofs.YtgjghcpaokfniaaGreat
open Go.RowKit Go.Proofs.YtgjghcpaokfniaaGreat.PRef Go.Proofs.YtgjghcpaokfniaaGreatW.PrintWords Go.Proofs.YtgjghcpaokfniaaGreatW.PrintLast Go.Proofs.YtgjghcpaokfniaaGreatW.PrintMore
/-- 256 numbers, told by a function -/
def mapR (f : Nat → Int) : List Int := (List.range 256).map f
theorem mapR_len (f : Nat → Int) : (mapR f).length = 256 := by simp [mapR]
theorem mapR_get (f : Nat → Int) {v : Nat} (h : v < 256) : (mapR f).getD v 0 = f v := by
  unfold mapR; rw [List.getD_eq_getElem?_getD, List.getElem?_map, List.getElem?_range h]; rfl
theorem mapR_congr {f g : Nat → Int} (h : ∀ v, v < 256 → f v = g v) : mapR f = mapR g := by
  unfold mapR; exact List.map_congr_left (fun v hv => h v (List.mem_range.1 hv))
theorem mapR_set (f : Nat → Int) {v : Nat} (_ : v < 256) (y : Int) : (mapR f).set v y = mapR (fun u => if u = v then y else f u) := by
  apply List.ext_getElem
  · simp [mapR]
  · intro i h1 h2
    rw [List.getElem_set]
    simp only [mapR, List.getElem_map, List.getElem_range]
    by_cases e : v = i
    · rw [if_pos e, if_pos e.symm]
    · rw [if_neg e, if_neg (fun x => e x.symm)]
theorem mapR_mem {f : Nat → Int} {x : Int} (h : x ∈ mapR f) : ∃ v, v < 256 ∧ x = f v := by
  unfold mapR at h
  obtain ⟨v, hv, rfl⟩ := List.mem_map.1 h
  exact ⟨v, List.mem_range.1 hv, rfl⟩
/-- how often each byte comes -/
def histL (b : List Int) : List Int := mapR (fun v => (b.count (v : Int) : Int))
/-- how many are above 0 -/
def posC (c : List Int) (k : Nat) : Nat := (c.take k).countP (fun x => decide (0 < x))
def manyC (c : List Int) : Nat := if rightC c then c.countP (fun x => decide (0 < x)) else 0
theorem posC_succ (c : List Int) (i : Nat) (h : i < c.length) : posC c (i + 1) = posC c i + (if 0 < c.getD i 0 then 1 else 0) := by
  unfold posC
  rw [List.take_succ_eq_append_getElem h, List.countP_append, List.getD_eq_getElem?_getD, List.getElem?_eq_getElem h, Option.getD_some]
  congr 1
  by_cases e : 0 < c[i] <;> simp [e]
theorem posC_le (c : List Int) (i : Nat) : posC c i ≤ i := by
  unfold posC; have := List.countP_le_length (p := fun x => decide (0 < x)) (l := c.take i); rw [List.length_take] at this; omega
theorem refAt_eq (b : List Int) (hb : Bytes b) (hl : b.length ≤ 1000000) (i : Int) : puncheonref06_At.f b i = some (ctxI b i) := by
  unfold puncheonref06_At.f ctxI
  by_cases h1 : i < 0
  · rw [if_pos h1, if_pos (.inl h1)]
  · by_cases h2 : i ≥ (b.length : Int)
    · rw [if_neg h1, if_pos h2, if_pos (.inr h2)]
    · rw [if_neg h1, if_neg h2, if_neg (by omega)]
      simp only [Option.bind_some]
      rw [if_pos (by simp; omega), if_pos (by omega), if_pos (by simp; omega)]
      have hw : ∀ x : Int, 0 ≤ x ∧ x < 256 → wrap64 x = x := fun x hx => w64 (by omega)
      by_cases h3 : i = 0
      · subst h3; rw [if_pos rfl]; exact congrArg some (hw 0 (by decide))
      · rw [if_neg h3]
        have e : rd ([0] ++ b) i = b.getD (i - 1).toNat 0 := by
          unfold rd
          rw [show i.toNat = (i - 1).toNat + 1 by omega]; rfl
        rw [e, hw _ (hb.get _)]
end Go.Proofs.YtgjghcpaokfniaaGreat
namespace Go.Proofs.YtgjghcpaokfniaaGreat
open Go.RowKit Go.Proofs.YtgjghcpaokfniaaGreat.PRef Go.Proofs.YtgjghcpaokfniaaGreatW.PrintWords Go.Proofs.YtgjghcpaokfniaaGreatW.PrintLast Go.Proofs.YtgjghcpaokfniaaGreatW.PrintMore
/-- the bytes of a context, among the first k -/
def pkL (b : List Int) (c : Int) (k : Nat) : List Int := ((List.range k).filter (fun j => decide (ctxI b (j : Nat) = c))).map (fun j => b.getD j 0)
def pickedL (b : List Int) (c : Int) : List Int := pkL b c b.length
theorem pkL_len (b : List Int) (c : Int) (k : Nat) : (pkL b c k).length ≤ k := by
  unfold pkL; rw [List.length_map]; exact Nat.le_trans (List.length_filter_le _ _) (by simp)
theorem pkL_bytes {b : List Int} (hb : Bytes b) (c : Int) (k : Nat) : Bytes (pkL b c k) := by
  intro x hx
  unfold pkL at hx
  obtain ⟨j, _, rfl⟩ := List.mem_map.1 hx
  exact hb.get j
theorem histL_snoc (l : List Int) {y : Nat} (hy : y < 256) : histL (l ++ [(y : Int)]) = (histL l).set y ((l.count (y : Int) : Int) + 1) := by
  unfold histL
  rw [mapR_set _ hy]
  refine mapR_congr (fun u _ => ?_)
  rw [List.count_append, List.count_singleton]
  by_cases e : u = y
  · subst e; rw [if_pos rfl]; simp
  · rw [if_neg e]
    have : ¬ (y : Int) = (u : Int) := by omega
    simp [this]
theorem histL_get (l : List Int) {y : Nat} (hy : y < 256) : (histL l).getD y 0 = (l.count (y : Int) : Int) := by unfold histL; rw [mapR_get _ hy]
/-- the most unlike bytes of a context -/
def widN (b : List Int) : Nat → Nat
  | 0 => 0
  | k + 1 => max (widN b k) (manyC (histL (pickedL b (k : Nat))))
theorem manyC_le (c : List Int) : manyC c ≤ 256 := by
  unfold manyC
  split
  · rename_i h
    have := List.countP_le_length (p := fun x => decide (0 < x)) (l := c); have := (rightC_iff.1 h).1; omega
  · omega
theorem widN_le (b : List Int) : ∀ k, widN b k ≤ 256
  | 0 => by simp [widN]
  | k + 1 => by
    have := widN_le b k; have := manyC_le (histL (pickedL b (k : Nat)))
    simp only [widN]; omega
/-- a log, rounded up -/
def ceilI (n : Int) : Nat := widthI (n - 1)
/-- a table's log -/
def pickI (n m : Nat) (most : Int) : Int := mx (mx (mn ((floorI n : Int) - 2) most) 5) (ceilI m)
theorem floorI_le (n : Nat) (h : n < 2 ^ 40) : floorI (n : Int) ≤ 40 := by
  rcases Nat.eq_zero_or_pos n with h0 | h0
  · subst h0; decide
  · have := (floor_pow n h0 (by omega)).1
    have a : ¬ 41 ≤ floorI (n : Int) := fun e => by
      have := Nat.pow_le_pow_right (n := 2) (by omega) e; omega
    omega
end Go.Proofs.YtgjghcpaokfniaaGreat
namespace Go.Proofs.YtgjghcpaokfniaaGreat
open Go.RowKit Go.IntWalk Go.Proofs.YtgjghcpaokfniaaGreatW.PrintWords
theorem zeroHist : Tryz.zeroCells118 = madeCells #[.int .i64 0] 256 := by kernel_rfl
theorem arr_row (n : Nat) (e : TypeId) (W : World) (ok : Nat → Prop) (hok : ok W.heap.size) (base : Nat) (hb : base ≤ W.heap.size) (hn : n ≤ 1000000) : (Kd.int .i64).R e (W.alloc (.cells (madeCells #[.int .i64 0] n) e)) base ok (.slice (some ⟨W.heap.size, 0, none⟩) n n) (List.replicate n 0) := by
  have hr := Kd.reps_made (R := (Kd.int .i64).M (W.alloc (.cells (madeCells #[.int .i64 0] n) e)) base (fun k => ok k ∧ some k ≠ (Value.slice (some ⟨W.heap.size, 0, none⟩) n n).ownBlock)) (z := .int .i64 0) (size := 1) (z0 := (0 : Int)) rfl Nat.one_pos rfl n
  have e' : (Value.int .i64 0).cells = #[.int .i64 0] := rfl
  rw [e', Nat.mul_one] at hr
  refine ⟨fun k hk => by cases hk; exact hok, _, ⟨?_, .inr ⟨W.heap.size, n, madeCells #[.int .i64 0] n, by simp, hb, blk_new W _, by simp, by unfold maxLen; omega, ?_, ?_⟩⟩, hr⟩
  · simp [size_madeCells]; exact (Nat.mul_one n).symm
  · rw [size_madeCells]; exact (Nat.mul_one n).symm
  · rw [List.length_replicate]; exact List.take_of_length_le (by simp [size_madeCells]; exact Nat.le_of_eq (Nat.mul_one n).symm)
theorem histL_nil : histL [] = List.replicate 256 0 := by
  unfold histL mapR
  rw [List.map_congr_left (g := fun _ => (0 : Int)) (fun _ _ => by simp), List.map_const', List.length_range]
theorem hist_step (b : List Int) (k : Nat) (hk : k < b.length) {y : Nat} (hy : b.getD k 0 = y) (h : y < 256) : histL (b.take (k + 1)) = (histL (b.take k)).set y ((histL (b.take k)).getD y 0 + 1) := by
  rw [List.take_succ_eq_append_getElem hk]
  have e : b[k] = (y : Int) := by rw [← hy, List.getD_eq_getElem?_getD, List.getElem?_eq_getElem hk]; rfl
  rw [e, histL_snoc _ h, histL_get _ h]
def HOfPost (b : List Int) (w : World) (e : Ending) (w' : World) : Prop := ∃ v, e = .returned v ∧ (Kd.int .i64).R 3 w' w.heap.size (fun _ => True) v (histL b) ∧ Below w.heap.size w w'
set_option maxRecDepth 100000 in
set_option maxHeartbeats 1000000 in
theorem histOf_any (A : Option Addr) (cp : Nat) (b : List Int) (w : World) (hr : (Kd.int .u8).C w A b.length b) (hl : b.length ≤ 1000000) (hb : ∀ x ∈ b, 0 ≤ x ∧ x < 256) :
    Calls Tryz.prog 41 #[.slice A b.length cp] w (HOfPost b w) := by
  have HR := Lib.hid (And.intro hr (And.intro hl hb))
  have HI : Hid ((Kd.int .i64).R 118 (w.alloc (.cells Tryz.zeroCells118 118)) w.heap.size (fun _ => True) (.slice (some ⟨w.heap.size, 0, none⟩) 256 256) (histL (b.take 0)) ∧ Below w.heap.size w (w.alloc (.cells Tryz.zeroCells118 118))) := by
    rw [zeroHist, List.take_zero, histL_nil]
    exact ⟨arr_row 256 _ w _ trivial _ (Nat.le_refl _) (by omega), (Below.refl _ _).alloc (Nat.le_refl _) _⟩
  clear hr hb
  go_enter Tryz.func41, Tryz.ntmps41
  go_wp2_with fail
  go_loopw [8] (fun kv wr => ∃ (k : Nat), kv = .int .i64 k ∧ k ≤ b.length ∧ Hid ((Kd.int .i64).R 118 wr w.heap.size (fun _ => True) (.slice (some ⟨w.heap.size, 0, none⟩) 256 256) (histL (b.take k)) ∧ Below w.heap.size w wr)) (fun kv _ => b.length - (intOf kv).toNat)
  case atStart => exact ⟨0, rfl, by omega, HI⟩
  case round =>
    obtain ⟨k, rfl, hk, H⟩ := hrel
    by_cases hlt : k < b.length
    · obtain ⟨ad, rfl, hcell⟩ := ints_get HR.out.1 k hlt
      have hcw := pw_cell_below H.out.2 hcell
      obtain ⟨x, hx⟩ : ∃ x : Nat, b.getD k 0 = x := by
        have : 0 ≤ b.getD k 0 := (HR.out.2.2 _ (getD_mem hlt)).1
        exact ⟨(b.getD k 0).toNat, by omega⟩
      have hx2 : x < 256 := by have := (HR.out.2.2 _ (getD_mem hlt)).2; omega
      rw [hx] at hcw
      obtain ⟨hc3, hf3⟩ := ints_cells H.out.1 x hx2
      obtain ⟨y, hy⟩ : ∃ y, y = (histL (b.take k)).getD x 0 := ⟨_, rfl⟩
      have hyr : 0 ≤ y ∧ y ≤ 1000000 := by
        rw [hy, histL_get _ hx2]
        have := List.count_le_length (a := (x : Int)) (l := b.take k)
        rw [List.length_take] at this
        omega
      obtain ⟨hy0, hy1⟩ := hyr
      rw [← hy] at hc3
      have HY := Lib.hid (And.intro hy hx)
      have hx256 : (x : Int) < 256 := by omega
      clear hy hx hcell
      go_wp2_with fail
      go_roundw
      case rel =>
        refine ⟨k + 1, by go_num, by omega, ?_, H.out.2.setCell (Nat.le_refl _) _⟩
        rw [hist_step b k hlt HY.out.2 hx2, ← HY.out.1]
        have := Kd.R_putn H.out.1 (x : Int) (y + 1)
        rw [Int.toNat_natCast] at this
        exact this
      case measure => simp [intOf]; omega
    · obtain rfl : k = b.length := by omega
      rw [List.take_length] at H
      have hrd := Kd.R_reads' H.out.1
      have hcl : (histL b).length = 256 := mapR_len _
      have HE := Lib.hid (row_empty .i64 3 wr w.heap.size (fun _ => True) H.out.2.size trivial)
      have HC : Hid ((Kd.int .i64).C (wr.alloc (.cells #[] 3)) (some ⟨w.heap.size, 0, none⟩) 256 (histL b)) := by
        have := Kd.C_alloc hrd.2.2 (.cells #[] 3)
        rw [hcl] at this; exact this
      have HL : Hid ((([] : List Int).length + (histL b).length) * 8 ≤ 140737488355328) := by show _ ≤ _; rw [hcl]; decide
      have HB := Lib.hid (H.out.2.alloc H.out.2.size (.cells #[] 3))
      have HS : Hid (w.heap.size ≤ (wr.alloc (.cells #[] 3)).heap.size) := by show _ ≤ _; have := H.out.2.size; simp; omega
      clear hrd hcl hlt
      go_wp2_with (at_builtin; refine Kd.R_append_rows (Kd.int .i64) (Rr := (Kd.int .i64).K (wr.alloc (.cells #[] 3))) (w0 := w) (W := wr.alloc (.cells #[] 3)) w.heap.size rfl (.tmp 18) (.tmp 19) 42 3 (.int .i64 0) 8 rfl Tryz.underlying42 infoInt rfl (by decide) (by decide) (.slice (some ⟨wr.heap.size, 0, none⟩) 0 0) [] (histL b) (some ⟨w.heap.size, 0, none⟩) 256 256 (fun _ => True) (fun _ => False) rfl rfl HE.out HC.out (fun _ _ h => h) (fun _ h => h.elim) (fun _ _ => trivial) HB.out HS.out HL.out ?_; intro vi w2 hr2 hb2 hg2 hat2; have HR2 := Lib.hid hr2; have HB2 := Lib.hid hb2; clear hr2 hb2 hg2 hat2)
      go_ret
      rw [List.nil_append] at HR2
      exact ⟨_, rfl, HR2.out, HB2.out⟩
end Go.Proofs.YtgjghcpaokfniaaGreat
namespace Go.Proofs.YtgjghcpaokfniaaGreat
open Go.RowKit Go.Proofs.YtgjghcpaokfniaaGreat.PRef Go.Proofs.YtgjghcpaokfniaaGreatW.PrintWords Go.Proofs.YtgjghcpaokfniaaGreatW.PrintLast Go.Proofs.YtgjghcpaokfniaaGreatW.PrintMore
/-- who has one more next, among the first -/
def needN (rest : List Int) (had : List Bool) : Nat → Int
  | 0 => -1
  | k + 1 => if had.getD k false = true then needN rest had k else if needN rest had k < 0 then (k : Int) else if rest.getD k 0 > rest.getD (needN rest had k).toNat 0 then (k : Int) else needN rest had k
theorem needN_lt (rest : List Int) (had : List Bool) : ∀ k, -1 ≤ needN rest had k ∧ needN rest had k < k ∧ (0 ≤ needN rest had k → had.getD (needN rest had k).toNat false = false)
  | 0 => by simp [needN]
  | k + 1 => by
    obtain ⟨h1, h2, h3⟩ := needN_lt rest had k
    simp only [needN]
    cases hk : had.getD k false with
    | true => rw [if_pos rfl]; exact ⟨h1, by omega, h3⟩
    | false =>
      rw [if_neg (by decide)]
      split
      · exact ⟨by omega, by omega, fun _ => by rw [Int.toNat_natCast]; exact hk⟩
      · split
        · exact ⟨by omega, by omega, fun _ => by rw [Int.toNat_natCast]; exact hk⟩
        · exact ⟨h1, by omega, h3⟩
theorem needN_some (rest : List Int) (had : List Bool) {s : Nat} (hs : had.getD s false = false) : ∀ k, s < k → 0 ≤ needN rest had k
  | 0, h => by omega
  | k + 1, h => by
    simp only [needN]
    by_cases e : s = k
    · subst e
      rw [hs, if_neg (by decide)]
      split
      · omega
      · split <;> omega
    · have ih := needN_some rest had hs k (by omega)
      split
      · exact ih
      · rw [if_neg (by omega)]
        split <;> omega
/-- who has one less next, among the first -/
def richN (q c : List Int) : Nat → Nat
  | 0 => 0
  | k + 1 => if q.getD k 0 > q.getD (richN q c k) 0 ∨ q.getD k 0 = q.getD (richN q c k) 0 ∧ c.getD k 0 ≤ c.getD (richN q c k) 0 then k else richN q c k
theorem richN_lt (q c : List Int) : ∀ k, richN q c k ≤ k - 1
  | 0 => by simp [richN]
  | k + 1 => by
    have := richN_lt q c k
    simp only [richN]; split <;> omega
theorem richN_max (q c : List Int) : ∀ k, ∀ s, s < k → q.getD s 0 ≤ q.getD (richN q c k) 0
  | 0, s, h => by omega
  | k + 1, s, h => by
    have ih := richN_max q c k
    simp only [richN]
    split
    · rename_i hc
      by_cases e : s = k
      · subst e; exact Int.le_refl _
      · have := ih s (by omega); omega
    · rename_i hc
      by_cases e : s = k
      · subst e; omega
      · exact ih s (by omega)
end Go.Proofs.YtgjghcpaokfniaaGreat
namespace Go.Proofs.YtgjghcpaokfniaaGreat
open Go.RowKit
theorem sum_set (q : List Int) (s : Nat) (y : Int) (h : s < q.length) : (q.set s y).sum = q.sum - q.getD s 0 + y := by
  induction q generalizing s with
  | nil => simp at h
  | cons a q ih =>
    cases s with
    | zero => simp; omega
    | succ s =>
      have := ih s (by simpa using h)
      simp only [List.set_cons_succ, List.sum_cons, List.getD_cons_succ, this]; omega
theorem getD_set (q : List Int) (s t : Nat) (y : Int) (h : s < q.length) : (q.set s y).getD t 0 = if t = s then y else q.getD t 0 := by
  rw [List.getD_eq_getElem?_getD, List.getElem?_set]
  by_cases e : s = t
  · subst e; rw [if_pos rfl, if_pos h, if_pos rfl]; rfl
  · rw [if_neg e, if_neg (fun x => e x.symm), List.getD_eq_getElem?_getD]
/-- the first of the counts, what is left, and who has had enough -/
def q0F (c : List Int) (P n : Int) (s : Nat) : Int := if c.getD s 0 * P / n = 0 then min (c.getD s 0) 1 else c.getD s 0 * P / n
def q0L (c : List Int) (P n : Int) : List Int := mapR (q0F c P n)
def restL (c : List Int) (P n : Int) : List Int := mapR (fun s => c.getD s 0 * P % n)
def hadL (c : List Int) (P n : Int) : List Bool := (List.range 256).map (fun s => decide (c.getD s 0 * P / n = 0))
def giveIt (rest : List Int) : Nat → List Int × List Bool → List Int × List Bool
  | 0, st => st
  | m + 1, st => let r := giveIt rest m st; (r.1.set (needN rest r.2 256).toNat (r.1.getD (needN rest r.2 256).toNat 0 + 1), r.2.set (needN rest r.2 256).toNat true)
def takeIt (c : List Int) : Nat → List Int → List Int
  | 0, q => q
  | m + 1, q => let r := takeIt c m q; r.set (richN r c 256) (r.getD (richN r c 256) 0 - 1)
def giveM (c : List Int) (P n : Int) : Nat := (P - (q0L c P n).sum).toNat
def normL (c : List Int) (r : Nat) : List Int :=
  let P : Int := 2 ^ r
  let n := c.sum
  let g := (giveIt (restL c P n) (giveM c P n) (q0L c P n, hadL c P n)).1
  takeIt c (g.sum - P).toNat g
theorem mapR_sum_le {f g : Nat → Int} (h : ∀ s, s < 256 → f s ≤ g s) : (mapR f).sum ≤ (mapR g).sum := by
  unfold mapR
  have key : ∀ l : List Nat, (∀ s ∈ l, f s ≤ g s) → (l.map f).sum ≤ (l.map g).sum := by
    intro l
    induction l with
    | nil => intro _; simp
    | cons a l ih =>
      intro hl
      have := ih (fun s hs => hl s (by simp [hs])); have := hl a (by simp)
      simp only [List.map_cons, List.sum_cons]; omega
  exact key _ (fun s hs => h s (List.mem_range.1 hs))
theorem mapR_self {c : List Int} (h : c.length = 256) : mapR (fun s => c.getD s 0) = c := by
  apply List.ext_getElem
  · rw [mapR_len, h]
  · intro i h1 h2; simp [mapR, List.getElem?_eq_getElem h2]
theorem mapR_sum_mul (f : Nat → Int) (k : Int) : (mapR (fun s => f s * k)).sum = (mapR f).sum * k := by
  unfold mapR
  induction List.range 256 with
  | nil => simp
  | cons a l ih => simp only [List.map_cons, List.sum_cons, ih, Int.add_mul]
theorem mapR_sum_add (f g : Nat → Int) : (mapR (fun s => f s + g s)).sum = (mapR f).sum + (mapR g).sum := by
  unfold mapR
  induction List.range 256 with
  | nil => simp
  | cons a l ih => simp only [List.map_cons, List.sum_cons, ih]; omega
/-- how many haven't had enough -/
def freeN (had : List Bool) : Nat := had.countP (fun b => !b)
theorem free_sum (c : List Int) (P n : Int) : ((freeN (hadL c P n) : Nat) : Int) = (mapR (fun s => if c.getD s 0 * P / n = 0 then 0 else 1)).sum := by
  unfold freeN hadL mapR
  induction List.range 256 with
  | nil => simp
  | cons a l ih =>
    have e1 : ((if (!decide (c.getD a 0 * P / n = 0)) = true then 1 else 0 : Nat) : Int) = if c.getD a 0 * P / n = 0 then 0 else 1 := by
      by_cases e : c.getD a 0 * P / n = 0
      · rw [if_pos e, decide_eq_true e]; rfl
      · rw [if_neg e, decide_eq_false e]; rfl
    rw [List.map_cons, List.map_cons, List.countP_cons, List.sum_cons, Int.natCast_add, ih, e1]; omega
/-- counts that can be normalized -/
structure Can (c : List Int) (r : Nat) : Prop where
  len : c.length = 256
  nonneg : ∀ x ∈ c, 0 ≤ x
  pos : 0 < c.sum
  le : c.sum ≤ 1073741824
  r1 : 1 ≤ r
  r12 : r ≤ 12
  many : c.countP (fun x => decide (0 < x)) ≤ 2 ^ r
theorem Can.get {c : List Int} {r : Nat} (h : Can c r) (s : Nat) : 0 ≤ c.getD s 0 ∧ c.getD s 0 ≤ c.sum := by
  by_cases hs : s < c.length
  · exact ⟨h.nonneg _ (getD_mem hs), le_sum h.nonneg (getD_mem hs)⟩
  · rw [List.getD_eq_getElem?_getD, List.getElem?_eq_none (by omega)]; have := h.pos; simp; omega
theorem Can.q0 {c : List Int} {r : Nat} (h : Can c r) (s : Nat) : 0 ≤ q0F c (2 ^ r) c.sum s ∧ q0F c (2 ^ r) c.sum s ≤ 4096 ∧ (0 < q0F c (2 ^ r) c.sum s ↔ 0 < c.getD s 0) ∧ c.getD s 0 * 2 ^ r ≤ (q0F c (2 ^ r) c.sum s + (if c.getD s 0 * 2 ^ r / c.sum = 0 then 0 else 1)) * c.sum := by
  have hg := h.get s
  have hp := h.pos
  have h2 := pow_le12 h.r12
  have hm0 : 0 ≤ c.getD s 0 * 2 ^ r := Int.mul_nonneg hg.1 (by omega)
  have hd0 : 0 ≤ c.getD s 0 * 2 ^ r / c.sum := Int.ediv_nonneg hm0 (by omega)
  have hdm := Int.mul_ediv_add_emod (c.getD s 0 * 2 ^ r) c.sum
  have hml := Int.emod_lt_of_pos (c.getD s 0 * 2 ^ r) hp
  have hmn := Int.emod_nonneg (c.getD s 0 * 2 ^ r) (b := c.sum) (by omega)
  have hle : c.getD s 0 * 2 ^ r / c.sum ≤ 2 ^ r := by
    refine Int.ediv_le_of_le_mul hp ?_
    rw [Int.mul_comm]; exact Int.mul_le_mul_of_nonneg_left hg.2 (by omega)
  unfold q0F
  by_cases e : c.getD s 0 * 2 ^ r / c.sum = 0
  · rw [if_pos e, if_pos e]
    rw [e, Int.mul_zero, Int.zero_add] at hdm
    refine ⟨by omega, by omega, by omega, ?_⟩
    by_cases e2 : c.getD s 0 = 0
    · rw [e2, show min (0 : Int) 1 = 0 by decide]; simp
    · rw [show min (c.getD s 0) 1 = 1 by omega]; omega
  · rw [if_neg e, if_neg e]
    refine ⟨hd0, by omega, ⟨fun _ => ?_, fun _ => by omega⟩, ?_⟩
    · by_cases e2 : c.getD s 0 = 0
      · rw [e2] at e; simp at e
      · omega
    · rw [Int.add_mul, Int.one_mul, Int.mul_comm (c.getD s 0 * 2 ^ r / c.sum)]; omega
/-- enough haven't had enough -/
theorem Can.enough {c : List Int} {r : Nat} (h : Can c r) : (2 : Int) ^ r ≤ (q0L c (2 ^ r) c.sum).sum + freeN (hadL c (2 ^ r) c.sum) := by
  have h1 : (mapR (fun s => c.getD s 0 * 2 ^ r)).sum ≤ (mapR (fun s => (q0F c (2 ^ r) c.sum s + (if c.getD s 0 * 2 ^ r / c.sum = 0 then 0 else 1)) * c.sum)).sum := mapR_sum_le (fun s _ => (h.q0 s).2.2.2)
  rw [mapR_sum_mul, mapR_sum_mul, mapR_sum_add, mapR_self h.len, ← free_sum, Int.mul_comm c.sum] at h1
  exact Int.le_of_mul_le_mul_right h1 h.pos
theorem free_exists {had : List Bool} (hl : had.length = 256) (h : 0 < freeN had) : ∃ s, s < 256 ∧ had.getD s false = false := by
  unfold freeN at h
  obtain ⟨b, hb, hbf⟩ := List.countP_pos_iff.1 h
  obtain ⟨s, hs, rfl⟩ := List.getElem_of_mem hb
  refine ⟨s, by omega, ?_⟩
  rw [List.getD_eq_getElem?_getD, List.getElem?_eq_getElem hs]; simpa using hbf
theorem free_set {had : List Bool} {s : Nat} (hs : s < had.length) (h : had.getD s false = false) : freeN (had.set s true) + 1 = freeN had := by
  unfold freeN
  induction had generalizing s with
  | nil => simp at hs
  | cons a l ih =>
    cases s with
    | zero => simp at h; subst h; simp
    | succ s =>
      have := ih (s := s) (by simpa using hs) (by simpa using h)
      simp only [List.set_cons_succ, List.countP_cons]; omega
/-- counts on the way -/
structure Way (c q : List Int) : Prop where
  len : q.length = 256
  rng : ∀ s, 0 ≤ q.getD s 0 ∧ q.getD s 0 ≤ 100000
  iff : ∀ s, 0 < q.getD s 0 ↔ 0 < c.getD s 0
theorem give_way {c : List Int} {r : Nat} (h : Can c r) : ∀ m, m ≤ giveM c (2 ^ r) c.sum →
    let st := giveIt (restL c (2 ^ r) c.sum) m (q0L c (2 ^ r) c.sum, hadL c (2 ^ r) c.sum)
    st.1.length = 256 ∧ st.2.length = 256 ∧ (∀ s, 0 ≤ st.1.getD s 0 ∧ st.1.getD s 0 ≤ 4096 + m) ∧ (∀ s, 0 < st.1.getD s 0 ↔ 0 < c.getD s 0) ∧ st.1.sum = (q0L c (2 ^ r) c.sum).sum + m ∧ freeN st.2 + m = freeN (hadL c (2 ^ r) c.sum) ∧
      (∀ s, s < 256 → st.2.getD s false = false → 0 < c.getD s 0)
  | 0, _ => by
    have hlen : (q0L c (2 ^ r) c.sum).length = 256 := mapR_len _
    refine ⟨hlen, by simp [giveIt, hadL], fun s => ?_, fun s => ?_, by simp [giveIt], rfl, fun s hs hf => ?_⟩
    · show 0 ≤ (q0L c (2 ^ r) c.sum).getD s 0 ∧ (q0L c (2 ^ r) c.sum).getD s 0 ≤ 4096 + ((0 : Nat) : Int)
      by_cases hs : s < 256
      · unfold q0L; rw [mapR_get _ hs]; have := h.q0 s; exact ⟨this.1, by have := this.2.1; omega⟩
      · rw [List.getD_eq_getElem?_getD, List.getElem?_eq_none (by omega)]; simp
    · show 0 < (q0L c (2 ^ r) c.sum).getD s 0 ↔ _
      by_cases hs : s < 256
      · unfold q0L; rw [mapR_get _ hs]; exact (h.q0 s).2.2.1
      · rw [List.getD_eq_getElem?_getD, List.getElem?_eq_none (by omega), List.getD_eq_getElem?_getD, List.getElem?_eq_none (by have := h.len; omega)]
    · have hf2 : (hadL c (2 ^ r) c.sum).getD s false = false := hf
      unfold hadL at hf2
      rw [List.getD_eq_getElem?_getD, List.getElem?_map, List.getElem?_range hs] at hf2
      simp only [Option.map_some, Option.getD_some, decide_eq_false_iff_not] at hf2
      have := (h.get s).1
      by_cases e2 : c.getD s 0 = 0
      · rw [e2] at hf2; simp at hf2
      · omega
  | m + 1, hm => by
    obtain ⟨h1, h2, h3, h4, h5, h6, h7⟩ := give_way h m (by omega)
    have hen := h.enough
    obtain ⟨st, hst⟩ : ∃ st, st = giveIt (restL c (2 ^ r) c.sum) m (q0L c (2 ^ r) c.sum, hadL c (2 ^ r) c.sum) := ⟨_, rfl⟩
    simp only [giveIt]
    rw [← hst] at h1 h2 h3 h4 h5 h6 h7 ⊢
    have hM : (m : Int) + 1 ≤ 2 ^ r - (q0L c (2 ^ r) c.sum).sum := by unfold giveM at hm; omega
    obtain ⟨s0, hs0, hf0⟩ := free_exists h2 (by omega)
    have hn0 := needN_some (restL c (2 ^ r) c.sum) st.2 hf0 256 hs0
    have hnl := needN_lt (restL c (2 ^ r) c.sum) st.2 256
    obtain ⟨t, ht⟩ : ∃ t : Nat, needN (restL c (2 ^ r) c.sum) st.2 256 = t := ⟨_, (Int.toNat_of_nonneg hn0).symm⟩
    rw [ht] at hnl ⊢
    have htf := hnl.2.2 (by omega)
    rw [Int.toNat_natCast] at htf ⊢
    have ht256 : t < 256 := by omega
    have hct := h7 t ht256 htf
    have hg := h3 t
    refine ⟨by rw [List.length_set]; exact h1, by rw [List.length_set]; exact h2, fun s => ?_, fun s => ?_, ?_, ?_, fun s hs hf => ?_⟩
    · rw [getD_set _ _ _ _ (by omega)]
      have := h3 s
      split <;> omega
    · rw [getD_set _ _ _ _ (by omega)]
      by_cases e : s = t
      · subst e; rw [if_pos rfl]; exact ⟨fun _ => hct, fun _ => by omega⟩
      · rw [if_neg e]; exact h4 s
    · rw [sum_set _ _ _ (by omega), h5]; omega
    · have := free_set (had := st.2) (s := t) (by omega) htf; omega
    · refine h7 s hs ?_
      by_cases e : s = t
      · subst e; exact htf
      · rw [List.getD_eq_getElem?_getD, List.getElem?_set_ne (fun x => e x.symm), ← List.getD_eq_getElem?_getD] at hf; exact hf
theorem sum_le_pos {q : List Int} (h : ∀ x ∈ q, 0 ≤ x ∧ x ≤ 1) : q.sum ≤ (q.countP (fun x => decide (0 < x)) : Nat) := by
  induction q with
  | nil => simp
  | cons a l ih =>
    have := ih (fun x hx => h x (by simp [hx]))
    have ha := h a (by simp)
    rw [List.sum_cons, List.countP_cons]
    by_cases e : 0 < a
    · simp [e]; omega
    · simp [e]; omega
theorem pos_same {c q : List Int} (hc : c.length = 256) (hq : q.length = 256) (h : ∀ s, 0 < q.getD s 0 ↔ 0 < c.getD s 0) : q.countP (fun x => decide (0 < x)) = c.countP (fun x => decide (0 < x)) := by
  have e : ∀ l : List Int, l.length = 256 → l.countP (fun x => decide (0 < x)) = (List.range 256).countP (fun s => decide (0 < l.getD s 0)) := by
    intro l hl
    have := mapR_self hl
    conv => lhs; rw [← this]
    unfold mapR
    rw [List.countP_map]; rfl
  rw [e q hq, e c hc]
  exact List.countP_congr (fun s _ => by simp only [decide_eq_true_eq]; exact h s)
theorem take_way {c : List Int} {r : Nat} (h : Can c r) {q : List Int} (hq : Way c q) : ∀ m, m ≤ (q.sum - 2 ^ r).toNat →
    Way c (takeIt c m q) ∧ (takeIt c m q).sum = q.sum - m
  | 0, _ => ⟨hq, by simp [takeIt]⟩
  | m + 1, hm => by
    obtain ⟨h1, h2⟩ := take_way h hq m (by omega)
    simp only [takeIt]
    obtain ⟨t, ht⟩ : ∃ t, t = takeIt c m q := ⟨_, rfl⟩
    rw [← ht] at h1 h2 ⊢
    obtain ⟨b, hb⟩ : ∃ b, b = richN t c 256 := ⟨_, rfl⟩
    have hbl := richN_lt t c 256
    have hmax := richN_max t c 256
    rw [← hb] at hbl hmax ⊢
    have hlen := h1.len
    have hbig : 2 ≤ t.getD b 0 := by
      by_cases e : 2 ≤ t.getD b 0
      · exact e
      · exfalso
        have hle : t.sum ≤ (t.countP (fun x => decide (0 < x)) : Nat) := sum_le_pos (fun x hx => by
          obtain ⟨s, hs, rfl⟩ := List.getElem_of_mem hx
          have a := hmax s (by omega); have a2 := h1.rng s
          rw [List.getD_eq_getElem?_getD, List.getElem?_eq_getElem hs, Option.getD_some] at a a2
          omega)
        rw [pos_same h.len hlen h1.iff] at hle
        have hmny := h.many
        have e2 : (2 : Int) ^ r = ((2 ^ r : Nat) : Int) := by simp
        have hmI : (m : Int) + 1 ≤ q.sum - 2 ^ r := by omega
        rw [e2] at hmI; omega
    have hrb := h1.rng b
    have hib := h1.iff b
    refine ⟨⟨by rw [List.length_set]; exact hlen, fun s => ?_, fun s => ?_⟩, ?_⟩
    · rw [getD_set _ _ _ _ (by omega)]
      have := h1.rng s
      split <;> omega
    · rw [getD_set _ _ _ _ (by omega)]
      by_cases e : s = b
      · subst e; rw [if_pos rfl]; exact ⟨fun _ => hib.1 (by omega), fun _ => by omega⟩
      · rw [if_neg e]; exact h1.iff s
    · rw [sum_set _ _ _ (by omega), h2]; omega
theorem give_end {c : List Int} {r : Nat} (h : Can c r) : Way c (giveIt (restL c (2 ^ r) c.sum) (giveM c (2 ^ r) c.sum) (q0L c (2 ^ r) c.sum, hadL c (2 ^ r) c.sum)).1 ∧ 2 ^ r ≤ (giveIt (restL c (2 ^ r) c.sum) (giveM c (2 ^ r) c.sum) (q0L c (2 ^ r) c.sum, hadL c (2 ^ r) c.sum)).1.sum := by
  obtain ⟨h1, h2, h3, h4, h5, h6, h7⟩ := give_way h _ (Nat.le_refl _)
  have h0 : 0 ≤ (q0L c (2 ^ r) c.sum).sum := sum_nonneg (fun x hx => by
    obtain ⟨v, hv, rfl⟩ := mapR_mem hx; exact (h.q0 v).1)
  have hp := pow_le12 h.r12
  have hM : giveM c (2 ^ r) c.sum ≤ 4096 := by unfold giveM; omega
  refine ⟨⟨h1, fun s => ⟨(h3 s).1, by have := (h3 s).2; omega⟩, h4⟩, ?_⟩
  rw [h5]; unfold giveM; omega
/-- the normalized counts -/
theorem norm_ok {c : List Int} {r : Nat} (h : Can c r) : Good (normL c r) ∧ (normL c r).sum = 2 ^ r ∧ ∀ s, 0 < (normL c r).getD s 0 ↔ 0 < c.getD s 0 := by
  obtain ⟨hw, hs⟩ := give_end h
  obtain ⟨h1, h2⟩ := take_way h hw _ (Nat.le_refl _)
  have hp := pow_le12 h.r12
  have e : normL c r = takeIt c ((giveIt (restL c (2 ^ r) c.sum) (giveM c (2 ^ r) c.sum) (q0L c (2 ^ r) c.sum, hadL c (2 ^ r) c.sum)).1.sum - 2 ^ r).toNat (giveIt (restL c (2 ^ r) c.sum) (giveM c (2 ^ r) c.sum) (q0L c (2 ^ r) c.sum, hadL c (2 ^ r) c.sum)).1 := rfl
  rw [← e] at h1 h2
  have hsum : (normL c r).sum = 2 ^ r := by rw [h2]; omega
  refine ⟨⟨h1.len, fun x hx => ?_, by omega⟩, hsum, h1.iff⟩
  obtain ⟨s, hs, rfl⟩ := List.getElem_of_mem hx
  have := h1.rng s
  rw [List.getD_eq_getElem?_getD, List.getElem?_eq_getElem hs] at this; exact this.1
theorem norm_log {c : List Int} {r : Nat} (h : Can c r) : logC (normL c r) = r := by
  obtain ⟨h1, h2, _⟩ := norm_ok h
  have hp := pow_le12 h.r12
  have hr : rightC (normL c r) = true := rightC_iff.2 ⟨h1.len, h1.nonneg, by omega⟩
  unfold logC totalC
  rw [if_pos hr, h2]
  exact logT_found h.r1 h.r12 rfl
end Go.Proofs.YtgjghcpaokfniaaGreat
namespace Go.Proofs.YtgjghcpaokfniaaGreat
open Go.RowKit Go.IntWalk Go.Proofs.YtgjghcpaokfniaaGreat.PRef Go.Proofs.YtgjghcpaokfniaaGreatW.PrintWords Go.Proofs.YtgjghcpaokfniaaGreatW.PrintLast Go.Proofs.YtgjghcpaokfniaaGreatW.PrintMore
section
variable (A : Option Addr) (cp : Nat) (c : List Int) (w : World)
theorem rLog_any (hr : (Kd.int .i64).C w A c.length c) (hc : c.length ≤ cp) : Calls Tryz.prog 65 #[.slice A c.length cp] w (Ret (.int .i64 (logC c)) w) := by
  obtain ⟨k, hk⟩ := (refLog_eq c).rounds
  exact (puncheonref08_Log.calls k A cp c _ w hr hc hk).mono fun e w' h => ⟨h.1, h.2.below⟩
end
/-- a row that is made -/
def MadeI (xs : List Int) (w : World) (e : Ending) (w' : World) : Prop := ∃ v, e = .returned v ∧ (Kd.int .i64).R 3 w' w.heap.size (fun _ => True) v xs ∧ Below w.heap.size w w'
section
variable (A : Option Addr) (cp : Nat) (b : List Int) (w : World) (hr : (Kd.int .u8).C w A b.length b) (hc : b.length ≤ cp) (hb : Bytes b) (hl : b.length ≤ 1000000)
include hr hc hb hl
theorem rAt_any (i : Int) : Calls Tryz.prog 51 #[.slice A b.length cp, .int .i64 i] w (Ret (.int .i64 (ctxI b i)) w) :=
  puncheonref06_At.calls A cp b i _ w hr hc (refAt_eq b hb hl i)
end
theorem made_i64 (n : Nat) (hn : n ≤ 1000000) (w : World) : (Instr.makeSlice 42 (.int .i64 n) (.int .i64 n)).run Tryz.prog w = .ok (.slice (some ⟨w.heap.size, 0, none⟩) n n) (w.alloc (.cells (madeCells #[.int .i64 0] n) 3)) := by
  obtain ⟨i0, hi, hzz⟩ := Option.map_eq_some_iff.1 infoInt
  simp only [Prod.mk.injEq] at hzz
  obtain ⟨hz0, hz1, hz2⟩ := hzz
  have hr := run_make (P := Tryz.prog) w 42 3 i0 (.int .i64 0) Tryz.underlying42 hi hz0 .i64 .i64 (n : Int) (n : Int) (by omega) (by omega) (by rw [hz2]; omega) (by omega)
  rw [hz1] at hr
  simpa [Value.cells] using hr
end Go.Proofs.YtgjghcpaokfniaaGreat
namespace Go.Proofs.YtgjghcpaokfniaaGreat
open Go.RowKit Go.IntWalk Go.Proofs.YtgjghcpaokfniaaGreatW.PrintWords
/-- a panic with an error's number -/
def panE (n : Int) : Ending := .panicked [{ v := .iface 24 (.int .i64 n), recovered := false }]
set_option maxRecDepth 100000 in
theorem wrong_no (w : World) : Calls Tryz.prog 114 #[.bool false] w fun e w' => e = .returned (.tuple #[]) ∧ w = w' := by
  go_enter Tryz.func114, Tryz.ntmps114
  go_wp2_with fail
  go_end0
  exact ⟨rfl, rfl⟩
set_option maxRecDepth 100000 in
theorem wrong_yes (w : World) : Calls Tryz.prog 114 #[.bool true] w fun e w' => e = panE 13 ∧ w = w' := by
  go_enter Tryz.func114, Tryz.ntmps114
  go_wp2_with fail
  first | exact ⟨rfl, rfl⟩ | (simp [bodyPost, panE])
set_option maxRecDepth 100000 in
theorem must_ok (n : Int) (w : World) : Calls Tryz.prog 115 #[.int .i64 n, .int .i64 0] w fun e w' => e = .returned (.int .i64 n) ∧ w = w' := by
  go_enter Tryz.func115, Tryz.ntmps115
  go_wp2_with fail
  go_ret
  exact ⟨rfl, rfl⟩
set_option maxRecDepth 100000 in
theorem must_no (n e : Int) (w : World) (h : ¬ e = 0) : Calls Tryz.prog 115 #[.int .i64 n, .int .i64 e] w fun en w' => en = panE e ∧ w = w' := by
  have hb : (e == 0) = false := beq_eq_false_iff_ne.2 h
  have hn : (e != 0) = true := by simp [h]
  go_enter Tryz.func115, Tryz.ntmps115
  go_wp2_with fail
  first | exact ⟨rfl, rfl⟩ | (simp [bodyPost, panE])
theorem runT_le {ps : List Int} {T : Nat} : ∀ (f at_ n most : Nat), (runT ps T f at_ n most).1 = 0 → (runT ps T f at_ n most).2.1 ≤ most := by
  intro f
  induction f with
  | zero => intro _ _ _ h; simp [runT] at h
  | succ f ih =>
    intro at_ n most
    simp only [runT]
    by_cases h1 : T < at_ + 2
    · rw [if_pos h1]; intro h; cases h
    · rw [if_neg h1]
      by_cases h2 : most < n + takeF ps at_ 2
      · rw [if_pos h2]; intro h; cases h
      · rw [if_neg h2]
        by_cases h3 : takeF ps at_ 2 = 3
        · rw [if_pos h3]; exact ih _ _ _
        · rw [if_neg h3]; intro _; simp only []; omega
/-- what holds in the loop of counts -/
structure HcRel (base p g : Nat) (ps : List Int) (H : Int × List Int × Nat) (w : World) (left s : Nat) (again : Bool) (q : List Int) (at_ d : Nat) (wr : World) : Prop where
  rd : RfAt wr base p ps at_
  row : (Kd.int .i64).R 3 wr w.heap.size (fun _ => True) (.slice (some ⟨g, 0, none⟩) 256 256) q
  ql : q.length = 256
  at_le : at_ ≤ 8 * ps.length
  eq : hdrT ps (8 * ps.length) d q s left again at_ = H
  fuel : 257 ≤ s + d
  only : Only (fun k => k = p) w wr
  gt : p < g ∧ w.heap.size ≤ g
def HCntPost (base p : Nat) (ps : List Int) (H : Int × List Int × Nat) (w : World) (e : Ending) (w' : World) : Prop :=
  (H.1 = 0 → ∃ g, e = .returned (.slice (some ⟨g, 0, none⟩) 256 256) ∧ (Kd.int .i64).R 3 w' w.heap.size (fun _ => True) (.slice (some ⟨g, 0, none⟩) 256 256) H.2.1 ∧ H.2.1.length = 256 ∧ RfAt w' base p ps H.2.2) ∧
  (H.1 ≠ 0 → e = panE H.1) ∧ Only (fun k => k = p) w w'
theorem HcRel.put {base p g : Nat} {ps : List Int} {H : Int × List Int × Nat} {w wr w1 : World} {left s : Nat} {again : Bool} {q : List Int} {at_ d : Nat} (h : HcRel base p g ps H w left s again q at_ d wr) {at2 : Nat} (hr : RfAt w1 base p ps at2) (ho : Only (fun k => k = p) wr w1) (x : Int) :
    RfAt (w1.setCell ⟨g, s, none⟩ (.int .i64 x)) base p ps at2 ∧ (Kd.int .i64).R 3 (w1.setCell ⟨g, s, none⟩ (.int .i64 x)) w.heap.size (fun _ => True) (.slice (some ⟨g, 0, none⟩) 256 256) (q.set s x) ∧ Only (fun k => k = p) w (w1.setCell ⟨g, s, none⟩ (.int .i64 x)) ∧
      (Kd.int .i64).R 3 w1 w.heap.size (fun _ => True) (.slice (some ⟨g, 0, none⟩) 256 256) q := by
  have hgp := h.gt
  have h1 : (Kd.int .i64).R 3 w1 w.heap.size (fun _ => True) (.slice (some ⟨g, 0, none⟩) 256 256) q := flat_only rfl h.row ho (fun k hk e => by
    have : g = k := by simpa [Value.ownBlock] using hk
    omega)
  have h2 := Kd.R_putn h1 (s : Int) x
  rw [Int.toNat_natCast] at h2
  refine ⟨hr.far hgp.1 s _, h2, ?_, h1⟩
  have h3 := h.only.trans ho
  exact ⟨h3.os, h3.tape, h3.output, by simp; exact h3.size, fun k hk hs => by rw [Below.heap_setCell _ _ _ _ (by show k ≠ g; omega)]; exact h3.block k hk hs⟩
end Go.Proofs.YtgjghcpaokfniaaGreat
namespace Go.Proofs.YtgjghcpaokfniaaGreat
open Go.RowKit Go.IntWalk Go.Proofs.YtgjghcpaokfniaaGreatW.PrintWords
set_option maxRecDepth 100000 in
set_option maxHeartbeats 2000000 in
theorem hcounts_any (base p : Nat) (ps : List Int) (at_ left0 : Nat) (w : World) (h : RfAt w base p ps at_) (hps : ∀ x ∈ ps, 0 ≤ x ∧ x < 256) (hl : ps.length ≤ 1000000) (ha : at_ ≤ 8 * ps.length) (hleft : left0 ≤ 4096) (hp : p < w.heap.size) :
    Calls Tryz.prog 74 #[.pointer (some ⟨p, 0, none⟩), .int .i64 left0] w (HCntPost base p ps (hdrT ps (8 * ps.length) 257 zeros256 0 left0 false at_) w) := by
  obtain ⟨H, hH⟩ : ∃ H, H = hdrT ps (8 * ps.length) 257 zeros256 0 left0 false at_ := ⟨_, rfl⟩
  rw [← hH]
  obtain ⟨W, hW⟩ : ∃ W, W = w.alloc (.cells (madeCells #[.int .i64 0] 256) 3) := ⟨_, rfl⟩
  have HI : Hid (HcRel base p w.heap.size ps H w left0 0 false zeros256 at_ 257 W) := by
    refine ⟨?_, ?_, by unfold zeros256; exact List.length_replicate, ha, hH.symm, by omega, ?_, hp, Nat.le_refl _⟩
    · rw [hW]; exact h.below ((Below.refl _ _).alloc (Nat.le_refl _) _)
    · rw [hW]; exact arr_row 256 3 w _ trivial _ (Nat.le_refl _) (by omega)
    · rw [hW]; exact (Only.refl _ _).alloc _
  have hmi : ∀ w : World, (Instr.makeSlice 42 (.int .i64 256) (.int .i64 256)).run Tryz.prog w = .ok (.slice (some ⟨w.heap.size, 0, none⟩) 256 256) (w.alloc (.cells (madeCells #[.int .i64 0] 256) 3)) := fun w => made_i64 256 (by omega) w
  have HP := Lib.hid (And.intro hps (And.intro hl ha))
  clear h hps hl ha hH
  go_enter Tryz.func74, Tryz.ntmps74
  go_wp2_with fail
  rw [← hW]
  obtain ⟨g, hg⟩ : ∃ g, g = w.heap.size := ⟨_, rfl⟩
  rw [← hg] at HI ⊢
  clear hW hg hmi
  go_loopw [1, 6, 7] (fun lv av sv wr => ∃ (left s : Nat) (again : Bool), lv = .int .i64 left ∧ av = .bool again ∧ sv = .int .i64 s ∧ left ≤ 4096 ∧ s ≤ 256 ∧ Hid (∃ q at' d, HcRel base p g ps H w left s again q at' d wr)) (fun _ _ sv _ => 257 - (intOf sv).toNat)
  case atStart => exact ⟨left0, 0, false, rfl, rfl, rfl, hleft, by omega, zeros256, at_, 257, HI⟩
  case round =>
    obtain ⟨left, s, again, rfl, rfl, rfl, hl4, hs, HR⟩ := hrel
    obtain ⟨q, at', d, hr⟩ := HR.out
    obtain ⟨d, rfl⟩ : ∃ d', d = d' + 1 := ⟨d - 1, by have := hr.fuel; omega⟩
    have heq := hr.eq
    simp only [hdrT] at heq
    have HH := Lib.hid hr
    clear hr HR
    by_cases h0 : left = 0
    · rw [if_pos h0] at heq
      have HE := Lib.hid heq
      subst h0
      clear heq
      go_wp2_with fail
      go_ret
      exact ⟨fun _ => ⟨g, rfl, by rw [← HE.out]; exact HH.out.row, by rw [← HE.out]; exact HH.out.ql, by rw [← HE.out]; exact HH.out.rd⟩, fun h => by rw [← HE.out] at h; exact absurd rfl h, HH.out.only⟩
    · rw [if_neg h0] at heq
      by_cases h256 : s = 256
      · rw [if_pos h256] at heq
        have HE := Lib.hid heq
        subst h256
        clear heq
        go_wp2_with fail
        refine (wrong_yes wr).mono ?_
        rintro e w' ⟨rfl, rfl⟩
        unfold panE
        go_wp2_with fail
        refine ⟨rfl, ?_⟩
        exact ⟨(fun h => by rw [← HE.out] at h; cases h), (fun _ => by rw [← HE.out]; rfl), HH.out.only⟩
      · rw [if_neg h256] at heq
        have hsb : ((s : Int) == 256) = false := beq_eq_false_iff_ne.2 (by omega)
        have hs256 : (s : Int) < 256 := by omega
        have HEQ := Lib.hid heq
        clear heq
        go_wp2_with fail
        refine (wrong_no wr).mono ?_
        rintro e w' ⟨rfl, rfl⟩
        go_wp2_with fail
        refine (btake_any base p ps at' left wr HH.out.rd HP.out.1 HP.out.2.1 HH.out.at_le (by omega) hl4).mono ?_
        rintro e w1 ⟨t1, t2, t3, t4⟩
        have HO := Lib.hid t4
        by_cases hT : 8 * ps.length < at' + Lib.bitLen left
        · obtain rfl := t1 hT
          have HE : Hid ((3, q, 0) = H) := by have := HEQ.out; rw [if_pos hT] at this; exact this
          clear t1 t2 t3 t4
          go_wp2_with fail
          refine (must_no 0 3 w1 (by decide)).mono ?_
          rintro e w' ⟨rfl, rfl⟩
          unfold panE
          go_wp2_with fail
          refine ⟨rfl, ?_⟩
          exact ⟨(fun h => by rw [← HE.out] at h; cases h), (fun _ => by rw [← HE.out]; rfl), HH.out.only.trans HO.out⟩
        · have HNT := Lib.hid hT
          have hT' : at' + Lib.bitLen left ≤ 8 * ps.length := by omega
          by_cases hV : left < takeF ps at' (Lib.bitLen left)
          · obtain rfl := t2 hT' hV
            have HE : Hid ((13, q, 0) = H) := by have := HEQ.out; rw [if_neg hT, if_pos hV] at this; exact this
            clear t1 t2 t3 t4 hT hT' hV
            go_wp2_with fail
            refine (must_no 0 13 w1 (by decide)).mono ?_
            rintro e w' ⟨rfl, rfl⟩
            unfold panE
            go_wp2_with fail
            refine ⟨rfl, ?_⟩
            exact ⟨(fun h => by rw [← HE.out] at h; cases h), (fun _ => by rw [← HE.out]; rfl), HH.out.only.trans HO.out⟩
          · obtain ⟨rfl, hrd⟩ := t3 hT' (by omega)
            obtain ⟨V, hVe⟩ : ∃ V, V = takeF ps at' (Lib.bitLen left) := ⟨_, rfl⟩
            have hq3 := HEQ.out
            rw [if_neg hT, if_neg hV] at hq3
            rw [← hVe] at hq3 hV ⊢
            have hVl : V ≤ left := by omega
            have HPut := Lib.hid (HH.out.put hrd HO.out (V : Int))
            obtain ⟨hcl, hfz⟩ := ints_cells HPut.out.2.2.2 s (by omega)
            have hcl2 := (ints_cells HPut.out.2.1 s (by omega)).1
            have hqs : (q.set s (V : Int)).getD s 0 = V := by rw [getD_setE _ _ _ _ (by have := HH.out.ql; omega), if_pos rfl]
            rw [hqs] at hcl2
            have HQ3 := Lib.hid hq3
            have HT2 := Lib.hid hT'
            obtain ⟨at2, hat2⟩ : ∃ a, a = at' + Lib.bitLen left := ⟨_, rfl⟩
            rw [← hat2] at HPut HQ3 HT2
            clear t1 t2 t3 t4 hT hT' hV hVe hq3 hqs hrd hat2
            by_cases hV0 : V = 0
            · subst hV0
              have hvb : (((0 : Nat) : Int) == 0) = true := rfl
              cases again with
              | true =>
                have HE : Hid ((13, q, 0) = H) := by have := HQ3.out; rw [if_pos ⟨rfl, rfl⟩] at this; exact this
                go_wp2_with fail
                refine (must_ok (0 : Int) w1).mono ?_
                rintro e w' ⟨rfl, rfl⟩
                go_wp2_with fail
                refine (wrong_yes _).mono ?_
                rintro e w' ⟨rfl, rfl⟩
                unfold panE
                go_wp2_with fail
                refine ⟨rfl, ?_⟩
                exact ⟨(fun h => by rw [← HE.out] at h; cases h), (fun _ => by rw [← HE.out]; rfl), HPut.out.2.2.1⟩
              | false =>
                by_cases hs1 : s + 1 = 256
                · have HE : Hid ((13, q, 0) = H) := by have := HQ3.out; rw [if_neg (fun h => by cases h.1), if_pos rfl, if_pos hs1] at this; exact this
                  have hsb1 : ((s : Int) + 1 == 256) = true := by simp; omega
                  go_wp2_with fail
                  refine (must_ok (0 : Int) w1).mono ?_
                  rintro e w' ⟨rfl, rfl⟩
                  go_wp2_with fail
                  refine (wrong_no _).mono ?_
                  rintro e w' ⟨rfl, rfl⟩
                  go_wp2_with fail
                  refine (wrong_yes _).mono ?_
                  rintro e w' ⟨rfl, rfl⟩
                  unfold panE
                  go_wp2_with fail
                  refine ⟨rfl, ?_⟩
                  exact ⟨(fun h => by rw [← HE.out] at h; cases h), (fun _ => by rw [← HE.out]; rfl), HPut.out.2.2.1⟩
                · have hsb1 : ((s : Int) + 1 == 256) = false := beq_eq_false_iff_ne.2 (by omega)
                  have hq4 := HQ3.out
                  rw [if_neg (fun h => by cases h.1), if_pos rfl, if_neg hs1] at hq4
                  have HQ4 := Lib.hid hq4
                  have hmost : (254 : Int) - (s : Int) = ((254 - s : Nat) : Int) := by omega
                  clear hq4
                  go_wp2_with fail
                  refine (must_ok (0 : Int) w1).mono ?_
                  rintro e w' ⟨rfl, rfl⟩
                  go_wp2_with fail
                  refine (wrong_no _).mono ?_
                  rintro e w' ⟨rfl, rfl⟩
                  go_wp2_with fail
                  refine (wrong_no _).mono ?_
                  rintro e w' ⟨rfl, rfl⟩
                  go_wp2_with fail
                  obtain ⟨R, hR⟩ : ∃ R, R = runT ps (8 * ps.length) 100 at2 0 (254 - s) := ⟨_, rfl⟩
                  have hRle : R.1 = 0 → R.2.1 ≤ 254 - s := fun h => by rw [hR] at h ⊢; exact runT_le _ _ _ _ h
                  have hRend : R.1 = 0 → R.2.2 ≤ 8 * ps.length := fun h => by rw [hR] at h ⊢; exact runT_end _ _ _ _ h
                  have hrt := rtake_any base p ps at2 (254 - s) _ HPut.out.1 HP.out.1 HP.out.2.1 HT2.out (by omega)
                  unfold RTakePost at hrt
                  rw [← hR] at hrt HQ4
                  have HRE := Lib.hid (And.intro hRle hRend)
                  clear hR hRle hRend
                  refine hrt.mono ?_
                  rintro e w2 ⟨r1, r2, r3⟩
                  have HO2 : Hid (Only (fun k => k = p) w w2) := HPut.out.2.2.1.trans r3
                  by_cases hr1 : R.1 = 0
                  · obtain ⟨rfl, hrd2⟩ := r1 hr1
                    have hle := HRE.out.1 hr1
                    have hq5 := HQ4.out
                    rw [if_neg (fun h => h hr1)] at hq5
                    have HNew : Hid (∃ q at' d, HcRel base p g ps H w left (s + R.2.1 + 1) true q at' d w2) := by
                      refine ⟨q.set s 0, R.2.2, d, hrd2, ?_, by simp [HH.out.ql], HRE.out.2 hr1, ?_, by have := HH.out.fuel; omega, HO2.out, HH.out.gt⟩
                      · exact flat_only rfl HPut.out.2.1 r3 (fun k hk e => by
                          have : g = k := by simpa [Value.ownBlock] using hk
                          have := HH.out.gt
                          omega)
                      · rw [show s + R.2.1 + 1 = s + 1 + R.2.1 by omega]; exact hq5
                    obtain ⟨rn, hrn⟩ : ∃ rn, rn = R.2.1 := ⟨_, rfl⟩
                    rw [← hrn] at hle HNew ⊢
                    clear r1 r2 r3 hrd2 hq5 hrt hrn
                    go_wp2_with fail
                    refine (must_ok (rn : Int) w2).mono ?_
                    rintro e w' ⟨rfl, rfl⟩
                    go_wp2_with fail
                    go_roundw
                    case rel => exact ⟨left, s + rn + 1, true, by first | rfl | (congr 1; omega), rfl, by go_num, hl4, by omega, HNew⟩
                    case measure => simp [intOf]; omega
                  · obtain rfl := r2 hr1
                    have HE : Hid ((R.1, q, 0) = H) := by have := HQ4.out; rw [if_pos hr1] at this; exact this
                    obtain ⟨rc, hrc⟩ : ∃ rc, rc = R.1 := ⟨_, rfl⟩
                    rw [← hrc] at HE hr1 ⊢
                    clear r1 r2 r3 hrt hrc
                    go_wp2_with fail
                    refine (must_no 0 rc w2 hr1).mono ?_
                    rintro e w' ⟨rfl, rfl⟩
                    unfold panE
                    go_wp2_with fail
                    refine ⟨rfl, ?_⟩
                    exact ⟨(fun h => by rw [← HE.out] at h; exact absurd h hr1), (fun _ => by rw [← HE.out]; rfl), HO2.out⟩
            · have hvb : ((V : Int) == 0) = false := beq_eq_false_iff_ne.2 (by omega)
              have hq4 := HQ3.out
              rw [if_neg (fun h => hV0 h.2), if_neg hV0] at hq4
              have HNew : Hid (∃ q at' d, HcRel base p g ps H w (left - V) (s + 1) false q at' d (w1.setCell ⟨g, s, none⟩ (.int .i64 (V : Int)))) :=
                ⟨q.set s (V : Int), at2, d, HPut.out.1, HPut.out.2.1, by simp [HH.out.ql], HT2.out, hq4, by have := HH.out.fuel; omega, HPut.out.2.2.1, HH.out.gt⟩
              have hls : (left : Int) - (V : Int) = ((left - V : Nat) : Int) := by omega
              clear hq4
              cases again with
              | true =>
                go_wp2_with fail
                refine (must_ok (V : Int) w1).mono ?_
                rintro e w' ⟨rfl, rfl⟩
                go_wp2_with fail
                refine (wrong_no _).mono ?_
                rintro e w' ⟨rfl, rfl⟩
                go_wp2_with fail
                go_roundw
                case rel => exact ⟨left - V, s + 1, false, by first | rfl | (congr 1; omega), rfl, by go_num, by omega, by omega, HNew⟩
                case measure => simp [intOf]; omega
              | false =>
                go_wp2_with fail
                refine (must_ok (V : Int) w1).mono ?_
                rintro e w' ⟨rfl, rfl⟩
                go_wp2_with fail
                refine (wrong_no _).mono ?_
                rintro e w' ⟨rfl, rfl⟩
                go_wp2_with fail
                go_roundw
                case rel => exact ⟨left - V, s + 1, false, by first | rfl | (congr 1; omega), rfl, by go_num, by omega, by omega, HNew⟩
                case measure => simp [intOf]; omega
end Go.Proofs.YtgjghcpaokfniaaGreat
namespace Go.Proofs.YtgjghcpaokfniaaGreat
open Go.RowKit Go.IntWalk Go.Proofs.YtgjghcpaokfniaaGreatW.PrintWords
/-- a bool's cell -/
theorem bools_cells {e : TypeId} {W : World} {base : Nat} {ok : Nat → Prop} {g n cap : Nat} {xs : List Bool} (h : Kd.bool.R e W base ok (.slice (some ⟨g, 0, none⟩) n cap) xs) (i : Nat) (hi : i < n) :
    W.cell? ⟨g, i, none⟩ = some (.bool (xs.getD i false)) ∧ W.frozen? ⟨g, i, none⟩ = false := by
  obtain ⟨c, hl, hm, hc, hf⟩ := Kd.R_elem h false (i : Int) (by omega) (by omega)
  have hm' : c = [.bool (xs.getD (i : Int).toNat false)] := hm
  subst hm'
  simp only [Int.toNat_natCast] at hc hf
  have e1 : i * Kd.bool.sz + 0 = i := by show i * 1 + 0 = i; omega
  have h1 := hc 0 _ rfl
  have h2 := hf 0
  rw [e1] at h1 h2
  exact ⟨h1, h2⟩
/-- three rows of the call's own, side by side -/
structure Three (N : Nat) (w0 : World) (q r : List Int) (h : List Bool) (w : World) : Prop where
  q : (Kd.int .i64).R 3 w N (fun b => b = N) (.slice (some ⟨N, 0, none⟩) 256 256) q
  r : (Kd.int .i64).R 3 w N (fun b => b = N + 1) (.slice (some ⟨N + 1, 0, none⟩) 256 256) r
  h : Kd.bool.R 4 w N (fun b => b = N + 2) (.slice (some ⟨N + 2, 0, none⟩) 256 256) h
  below : Below N w0 w
theorem Three.later {N : Nat} {w0 w w' : World} {q r : List Int} {h : List Bool} (H : Three N w0 q r h w) (hb : Below w.heap.size w w') : Three N w0 q r h w' :=
  ⟨Kd.R_below H.q hb, Kd.R_below H.r hb, Kd.R_below H.h hb, H.below.trans (hb.mono (by have := (Kd.R_bound H.q).1 N rfl; omega))⟩
theorem Three.cells {N : Nat} {w0 w : World} {q r : List Int} {h : List Bool} (H : Three N w0 q r h w) (k : Nat) (hk : k < 256) :
    (w.cell? ⟨N, k, none⟩ = some (.int .i64 (q.getD k 0)) ∧ w.frozen? ⟨N, k, none⟩ = false) ∧ (w.cell? ⟨N + 1, k, none⟩ = some (.int .i64 (r.getD k 0)) ∧ w.frozen? ⟨N + 1, k, none⟩ = false) ∧ (w.cell? ⟨N + 1 + 1, k, none⟩ = some (.bool (h.getD k false)) ∧ w.frozen? ⟨N + 1 + 1, k, none⟩ = false) :=
  ⟨ints_cells H.q k hk, ints_cells H.r k hk, bools_cells H.h k hk⟩
theorem Three.at_ {N : Nat} {w0 w ww : World} {q r : List Int} {h : List Bool} {A : Option Addr} {c : List Int} (H : Three N w0 q r h ww) (hr : (Kd.int .i64).C w A c.length c) (hb : Below w.heap.size w w0) (hN : w0.heap.size = N) : (Kd.int .i64).C ww A c.length c :=
  Kd.C_below hr (hb.trans (H.below.mono (by have := hb.size; omega)))
/-- the rows behind the first k symbols -/
def qTo (c : List Int) (P n : Int) (k : Nat) : List Int := mapR (fun s => if s < k then q0F c P n s else 0)
def rTo (c : List Int) (P n : Int) (k : Nat) : List Int := mapR (fun s => if s < k then c.getD s 0 * P % n else 0)
def hTo (c : List Int) (P n : Int) (k : Nat) : List Bool := (List.range 256).map (fun s => if s < k then decide (c.getD s 0 * P / n = 0) else false)
theorem to_zero (c : List Int) (P n : Int) : qTo c P n 0 = List.replicate 256 0 ∧ rTo c P n 0 = List.replicate 256 0 ∧ hTo c P n 0 = List.replicate 256 false := by
  have e : ∀ {α : Type} (z : α) (f : Nat → α), (∀ s, f s = z) → (List.range 256).map f = List.replicate 256 z := fun z f h => by
    rw [show f = fun _ => z from funext h, List.map_const', List.length_range]
  exact ⟨e 0 (fun s => if s < 0 then q0F c P n s else 0) (fun s => by rw [if_neg (by omega)]), e 0 (fun s => if s < 0 then c.getD s 0 * P % n else 0) (fun s => by rw [if_neg (by omega)]), e false (fun s => if s < 0 then decide (c.getD s 0 * P / n = 0) else false) (fun s => by rw [if_neg (by omega)])⟩
theorem to_all (c : List Int) (P n : Int) : qTo c P n 256 = q0L c P n ∧ rTo c P n 256 = restL c P n ∧ hTo c P n 256 = hadL c P n :=
  ⟨mapR_congr (fun s h => by rw [if_pos h]), mapR_congr (fun s h => by rw [if_pos h]), List.map_congr_left (fun s h => by rw [if_pos (List.mem_range.1 h)])⟩
theorem mapR_to (f : Nat → Int) {k : Nat} (hk : k < 256) : (mapR (fun s => if s < k then f s else 0)).set k (f k) = mapR (fun s => if s < k + 1 then f s else 0) := by
  rw [mapR_set _ hk]
  refine mapR_congr (fun s _ => ?_)
  by_cases e : s = k
  · subst e; rw [if_pos rfl, if_pos (by omega)]
  · rw [if_neg e]
    by_cases e2 : s < k
    · rw [if_pos e2, if_pos (by omega)]
    · rw [if_neg e2, if_neg (by omega)]
theorem set_set_same (q : List Int) (k : Nat) (x y : Int) : (q.set k x).set k y = q.set k y := by simp
def CountsPost (c : List Int) (r : Nat) (w : World) (e : Ending) (w' : World) : Prop := ∃ v, e = .returned (.tuple #[v, .int .i64 0]) ∧ (Kd.int .i64).R 3 w' w.heap.size (fun _ => True) v (normL c r) ∧ Below w.heap.size w w'
end Go.Proofs.YtgjghcpaokfniaaGreat
namespace Go.Proofs.YtgjghcpaokfniaaGreat
open Go.RowKit Go.Proofs.YtgjghcpaokfniaaGreatW.PrintWords Go.Proofs.YtgjghcpaokfniaaGreatW.PrintLast Go.Proofs.YtgjghcpaokfniaaGreatW.PrintMore
theorem hist_sum (b : List Int) (hb : Bytes b) : (histL b).sum = b.length := by
  induction b with
  | nil =>
    unfold histL mapR
    have : ∀ l : List Nat, (l.map (fun (v : Nat) => (((([] : List Int).count (v : Int)) : Nat) : Int))).sum = 0 := by
      intro l; induction l with
      | nil => rfl
      | cons a l ih => rw [List.map_cons, List.sum_cons, ih]; simp
    exact this _
  | cons x l ih =>
    have hx := hb x (by simp)
    have ih2 := ih (fun y hy => hb y (by simp [hy]))
    obtain ⟨v, rfl⟩ : ∃ v : Nat, x = v := ⟨x.toNat, by omega⟩
    have e : histL ((v : Int) :: l) = (histL l).set v ((l.count (v : Int) : Int) + 1) := by
      unfold histL
      rw [mapR_set _ (by omega)]
      refine mapR_congr (fun u _ => ?_)
      rw [List.count_cons]
      by_cases e : u = v
      · subst e; rw [if_pos rfl]; simp
      · rw [if_neg e]
        have : ¬ (v : Int) = (u : Int) := by omega
        simp [this]
    rw [e, sum_set _ _ _ (by unfold histL; rw [mapR_len]; omega), histL_get _ (by omega), ih2, List.length_cons]
    omega
theorem hist_pos (b : List Int) {s : Nat} (hs : s < 256) : 0 < (histL b).getD s 0 ↔ (s : Int) ∈ b := by
  rw [histL_get _ hs, ← List.count_pos_iff]; omega
theorem ceil_ok (m : Nat) (h : m ≤ 256) : ceilI m ≤ 8 ∧ m ≤ 2 ^ ceilI m := by
  unfold ceilI widthI
  rcases Nat.lt_or_ge m 2 with h2 | h2
  · rw [show ((m : Int) - 1).toNat = 0 by omega]
    exact ⟨by decide, by have : Lib.bitLen 0 = 0 := by decide
                         rw [this]; omega⟩
  · obtain ⟨y, hy⟩ : ∃ y, y = m - 1 := ⟨_, rfl⟩
    rw [show ((m : Int) - 1).toNat = y by omega]
    obtain ⟨a, b, c⟩ := bitLen_pow y (by omega) (by omega)
    have := Lib.bitLen_le8' (y : Int) (by omega) (by omega)
    rw [Int.toNat_natCast] at this
    exact ⟨this, by omega⟩
theorem pick_ok (n m : Nat) (most : Nat) (h : m ≤ 256) (h8 : 8 ≤ most) (h12 : most ≤ 12) : ∃ r : Nat, pickI n m most = r ∧ 5 ≤ r ∧ r ≤ most ∧ m ≤ 2 ^ r := by
  obtain ⟨c1, c2⟩ := ceil_ok m h
  have hr : 5 ≤ pickI n m most ∧ pickI n m most ≤ most ∧ (ceilI m : Int) ≤ pickI n m most := by
    unfold pickI mx mn
    split <;> (split <;> (split <;> omega))
  refine ⟨(pickI n m most).toNat, by omega, by omega, by omega, ?_⟩
  have : 2 ^ ceilI m ≤ 2 ^ (pickI n m most).toNat := Nat.pow_le_pow_right (by omega) (by omega)
  omega
theorem manyC_of {c : List Int} (h : rightC c = true) : manyC c = c.countP (fun x => decide (0 < x)) := by unfold manyC; rw [if_pos h]
theorem hist_right (b : List Int) (hb : Bytes b) (hl : b.length ≤ 1000000) : rightC (histL b) = true :=
  rightC_iff.2 ⟨mapR_len _, fun x hx => by obtain ⟨v, _, rfl⟩ := mapR_mem hx; omega, by rw [hist_sum b hb]; omega⟩
theorem hist_can {b : List Int} {r : Nat} (hb : Bytes b) (hl : b.length ≤ 1000000) (h0 : 0 < b.length) (h1 : 1 ≤ r) (h12 : r ≤ 12) (hm : manyC (histL b) ≤ 2 ^ r) : Can (histL b) r :=
  ⟨mapR_len _, fun x hx => by obtain ⟨v, _, rfl⟩ := mapR_mem hx; omega, by rw [hist_sum b hb]; omega, by rw [hist_sum b hb]; omega, h1, h12, by rw [← manyC_of (hist_right b hb hl)]; exact hm⟩
/-- the log and the list of all bytes -/
def zeroR (b : List Int) : Nat := (pickI b.length (manyC (histL b)) 11).toNat
def zeroQ (b : List Int) : List Int := normL (histL b) (zeroR b)
theorem zeroR_ok (b : List Int) : pickI b.length (manyC (histL b)) 11 = (zeroR b : Int) ∧ 5 ≤ zeroR b ∧ zeroR b ≤ 11 ∧ manyC (histL b) ≤ 2 ^ zeroR b := by
  obtain ⟨r, h1, h2, h3, h4⟩ := pick_ok b.length (manyC (histL b)) 11 (manyC_le _) (by omega) (by omega)
  have e : zeroR b = r := by unfold zeroR; rw [show ((11 : Nat) : Int) = 11 from rfl] at h1; rw [h1]; simp
  rw [e]; exact ⟨h1, h2, h3, h4⟩
theorem bad_not {lg : Int} {q : List Int} (h : logC q ≠ 0) (h2 : (logC q : Int) = lg) : badQ lg q = false := by
  unfold badQ; exact decide_eq_false (fun x => x.2 ⟨h, h2⟩)
theorem bad_nil (lg : Int) : badQ lg [] = false := by unfold badQ; exact decide_eq_false (fun x => by simp at x)
theorem zero_can {b : List Int} (hb : Bytes b) (hl : b.length ≤ 1000000) (h0 : 0 < b.length) : Can (histL b) (zeroR b) := by
  have := zeroR_ok b
  exact hist_can hb hl h0 (by omega) (by omega) this.2.2.2
theorem zero_right {b : List Int} (hb : Bytes b) (hl : b.length ≤ 1000000) (h0 : 0 < b.length) : rightM (zeroR b) true [zeroQ b] = true := by
  have hc := zero_can hb hl h0
  have hz := zeroR_ok b
  have hlog := norm_log hc
  have hlen := (norm_ok hc).1.len
  unfold rightM
  rw [if_neg (by omega), if_neg (by
    simp only [List.any_cons, List.any_nil, Bool.or_false]
    rw [bad_not (q := zeroQ b) (by unfold zeroQ; omega) (by unfold zeroQ; rw [hlog])]; decide)]
  rw [if_pos rfl, decide_eq_true_eq]
  have h0 : 0 < (normL (histL b) (zeroR b)).length := by omega
  refine ⟨List.length_singleton, ?_⟩
  rw [List.getD_cons_zero]; unfold zeroQ; exact h0
theorem zero_fits {b : List Int} (hb : Bytes b) (hl : b.length ≤ 1000000) (h0 : 0 < b.length) : fitsM (zeroR b) true [zeroQ b] b = true := by
  have hc := zero_can hb hl h0
  have hn := norm_ok hc
  unfold fitsM
  rw [zero_right hb hl h0, Bool.true_and, List.all_eq_true]
  intro i hi
  have hi' := List.mem_range.1 hi
  have hg := hb.get i
  obtain ⟨x, hx⟩ : ∃ x : Nat, b.getD i 0 = x := ⟨(b.getD i 0).toNat, by omega⟩
  unfold fitAt
  rw [decide_eq_true_eq]
  have e0 : ([zeroQ b].getD (listI true (ctxI b i)) []) = normL (histL b) (zeroR b) := by unfold listI; rw [if_pos rfl, List.getD_cons_zero]; rfl
  rw [e0]
  refine ⟨by have := hn.1.len; omega, ?_⟩
  rw [hx, Int.toNat_natCast]
  have h1 := (hn.2.2 x).2 ((hist_pos b (by omega)).2 (by rw [← hx]; exact getD_mem hi'))
  omega
/-- the log and the lists by contexts -/
def firstR (b : List Int) : Nat := (pickI b.length (widN b 256) 9).toNat
def firstQ (b : List Int) (c : Nat) : List Int := if 0 < (pickedL b (c : Int)).length then normL (histL (pickedL b (c : Int))) (firstR b) else []
def firstL (b : List Int) : List (List Int) := (List.range 256).map (firstQ b)
theorem firstR_ok (b : List Int) : pickI b.length (widN b 256) 9 = (firstR b : Int) ∧ 5 ≤ firstR b ∧ firstR b ≤ 9 ∧ widN b 256 ≤ 2 ^ firstR b := by
  obtain ⟨r, h1, h2, h3, h4⟩ := pick_ok b.length (widN b 256) 9 (widN_le b _) (by omega) (by omega)
  have e : firstR b = r := by unfold firstR; rw [show ((9 : Nat) : Int) = 9 from rfl] at h1; rw [h1]; simp
  rw [e]; exact ⟨h1, h2, h3, h4⟩
theorem widN_ge (b : List Int) : ∀ k c, c < k → manyC (histL (pickedL b (c : Nat))) ≤ widN b k
  | 0, c, h => by omega
  | k + 1, c, h => by
    simp only [widN]
    by_cases e : c = k
    · subst e; omega
    · have := widN_ge b k c (by omega); omega
theorem picked_len (b : List Int) (c : Int) : (pickedL b c).length ≤ b.length := pkL_len b c b.length
theorem first_can {b : List Int} (hb : Bytes b) (hl : b.length ≤ 1000000) {c : Nat} (hc : c < 256) (h0 : 0 < (pickedL b (c : Int)).length) : Can (histL (pickedL b (c : Int))) (firstR b) := by
  have h1 := firstR_ok b
  have h2 := widN_ge b 256 c hc
  have h3 := picked_len b (c : Int)
  exact hist_can (pkL_bytes hb _ _) (by omega) h0 (by omega) (by omega) (by omega)
theorem firstL_len (b : List Int) : (firstL b).length = 256 := by simp [firstL]
theorem firstL_get (b : List Int) {c : Nat} (h : c < 256) : (firstL b).getD c [] = firstQ b c := by
  unfold firstL; rw [List.getD_eq_getElem?_getD, List.getElem?_map, List.getElem?_range h]; rfl
theorem first_right {b : List Int} (hb : Bytes b) (hl : b.length ≤ 1000000) : rightM (firstR b) false (firstL b) = true := by
  have hz := firstR_ok b
  unfold rightM
  rw [if_neg (by omega), if_neg]
  · rw [if_neg (by decide), decide_eq_true_eq]; exact firstL_len b
  · rw [Bool.not_eq_true, List.any_eq_false]
    intro q hq
    unfold firstL at hq
    obtain ⟨c, hc, rfl⟩ := List.mem_map.1 hq
    unfold firstQ
    split
    · rename_i h0
      have hlog := norm_log (first_can hb hl (List.mem_range.1 hc) h0)
      rw [bad_not (by omega) (by rw [hlog])]; decide
    · rw [bad_nil]; decide
theorem first_fits {b : List Int} (hb : Bytes b) (hl : b.length ≤ 1000000) : fitsM (firstR b) false (firstL b) b = true := by
  unfold fitsM
  rw [first_right hb hl, Bool.true_and, List.all_eq_true]
  intro i hi
  have hi' := List.mem_range.1 hi
  have hg := hb.get i
  have hcr := ctx_range hb i hi'
  obtain ⟨x, hx⟩ : ∃ x : Nat, b.getD i 0 = x := ⟨(b.getD i 0).toNat, by omega⟩
  obtain ⟨c, hc⟩ : ∃ c : Nat, ctxI b i = c := ⟨(ctxI b i).toNat, by omega⟩
  have hmem : b.getD i 0 ∈ pickedL b (c : Int) := by
    unfold pickedL pkL
    exact List.mem_map.2 ⟨i, List.mem_filter.2 ⟨hi, by rw [decide_eq_true_eq]; exact hc⟩, rfl⟩
  have hpos : 0 < (pickedL b (c : Int)).length := List.length_pos_of_mem hmem
  have hcan := first_can hb hl (c := c) (by omega) hpos
  have hn := norm_ok hcan
  have e : (firstL b).getD (listI false (ctxI b i)) [] = normL (histL (pickedL b (c : Int))) (firstR b) := by
    rw [hc]
    show (firstL b).getD ((c : Int)).toNat [] = _
    rw [Int.toNat_natCast, firstL_get b (by omega)]
    unfold firstQ; rw [if_pos hpos]
  unfold fitAt
  rw [decide_eq_true_eq, e]
  refine ⟨by have := hn.1.len; omega, ?_⟩
  rw [hx, Int.toNat_natCast]
  have h1 := (hn.2.2 x).2 ((hist_pos _ (by omega)).2 (by rw [← hx]; exact hmem))
  omega
end Go.Proofs.YtgjghcpaokfniaaGreat
namespace Go.Proofs.YtgjghcpaokfniaaGreat
open Go.RowKit Go.IntWalk Go.Proofs.YtgjghcpaokfniaaGreatW.PrintWords
/-- a model that is made -/
def MadeM (lg : Int) (one : Bool) (qs : List (List Int)) (w : World) (e : Ending) (w' : World) : Prop := ∃ v, e = .returned (.agg #[.int .i64 lg, .bool one, v]) ∧ kq.R 42 w' w.heap.size (fun _ => True) v qs ∧ Below w.heap.size w w'
theorem cell3 {w : World} {mb : Nat} {a b c : Value} {t : Nat} (h : w.heap[mb]? = some (.cells #[a, b, c] t (0, 0))) : (w.cell? ⟨mb, 0, none⟩ = some a ∧ w.cell? ⟨mb, 1, none⟩ = some b ∧ w.cell? ⟨mb, 2, none⟩ = some c) ∧ (w.frozen? ⟨mb, 0, none⟩ = false ∧ w.frozen? ⟨mb, 1, none⟩ = false ∧ w.frozen? ⟨mb, 2, none⟩ = false) :=
  ⟨⟨(blk_cell h 0).trans rfl, (blk_cell h 1).trans rfl, (blk_cell h 2).trans rfl⟩, blk_frozen h 0, blk_frozen h 1, blk_frozen h 2⟩
theorem sizeModel : (Tryz.prog.info? 31).map (·.size) = some 3 := by kernel_rfl
/-- a row of one list -/
theorem kq_one {w : World} {base : Nat} {v : Value} {q : List Int} (h : (Kd.int .i64).R 3 w base (fun _ => True) v q) (hb : base ≤ w.heap.size) : kq.R 42 (w.alloc (.cells #[v] 42)) base (fun k => base ≤ k) (.slice (some ⟨w.heap.size, 0, none⟩) 1 1) [q] := by
  have hne : ∀ k, v.ownBlock = some k → base ≤ k ∧ k < w.heap.size := fun k hk => ((Kd.R_bound h).1 k hk).2.imp id (fun x => x.1)
  refine ⟨fun k hk => by cases hk; exact hb, [v], ⟨rfl, .inr ⟨w.heap.size, 1, #[v], rfl, hb, blk_new w _, Nat.le_refl _, by unfold maxLen; omega, rfl, rfl⟩⟩, rfl, fun j p hj => ?_⟩
  have hj0 : j = 0 := by
    rcases Nat.eq_zero_or_pos j with e | e
    · exact e
    · rw [List.getElem?_eq_none (by simp; omega)] at hj; cases hj
  subst hj0
  cases hj
  refine ⟨v, rfl, Kd.R_alloc (Kd.R_mono (Kd.R_tight rfl h) (fun k hk => ⟨(hne k hk.symm).1, fun e => ?_⟩)) _⟩
  have := (hne k hk.symm).2
  have h2 : k = w.heap.size := Option.some.inj e
  omega
end Go.Proofs.YtgjghcpaokfniaaGreat
namespace Go.Proofs.YtgjghcpaokfniaaGreat
open Go.RowKit Go.IntWalk Go.Proofs.YtgjghcpaokfniaaGreatW.PrintWords
theorem infoInts : (Tryz.prog.info? 42).map (fun i => (i.zero, i.size, i.bytes)) = some (some (.slice none 0 0), 1, 24) := by kernel_rfl
theorem below_al {w w' : World} (h : Below w.heap.size w w') (o : Obj) : Below w.heap.size w (w'.alloc o) := h.alloc h.size o
theorem below_tr {w w1 w2 : World} (h : Below w.heap.size w w1) (k : Below w1.heap.size w1 w2) : Below w.heap.size w w2 := h.trans (k.mono h.size)
theorem blk_new1 (W : World) (a o : Obj) : ((W.alloc a).alloc o).heap[W.heap.size + 1]? = some o := by
  have := blk_new (W.alloc a) o
  rw [show (W.alloc a).heap.size = W.heap.size + 1 by simp] at this; exact this
theorem blk_set3 {w : World} {mb : Nat} {t : Nat} {a b c : Value} (h : w.heap[mb]? = some (.cells #[a, b, c] t (0, 0))) (x y z : Value) : (((w.setCell ⟨mb, 0, none⟩ x).setCell ⟨mb, 1, none⟩ y).setCell ⟨mb, 2, none⟩ z).heap[mb]? = some (.cells #[x, y, z] t (0, 0)) := by
  rw [blk_set (blk_set (blk_set h 0 _) 1 _) 2]; rfl
theorem R_far3 {α : Type} {d : Kd α} {e : Nat} {w : World} {base mb : Nat} {v : Value} {xs : List α} (h : d.R e w base (fun k => k ≠ mb) v xs) (x y z : Value) : d.R e (((w.setCell ⟨mb, 0, none⟩ x).setCell ⟨mb, 1, none⟩ y).setCell ⟨mb, 2, none⟩ z) base (fun k => k ≠ mb) v xs :=
  Kd.R_far (p := ⟨mb, 2, none⟩) (Kd.R_far (p := ⟨mb, 1, none⟩) (Kd.R_far (p := ⟨mb, 0, none⟩) h (fun _ hk => hk) x) (fun _ hk => hk) y) (fun _ hk => hk) z
end Go.Proofs.YtgjghcpaokfniaaGreat
namespace Go.Proofs.YtgjghcpaokfniaaGreat
open Go.RowKit Go.IntWalk Go.Proofs.YtgjghcpaokfniaaGreatW.PrintWords
set_option maxRecDepth 100000 in
theorem htake1_pan (a b : Nat) (va : Value) (n x : Int) (older : List PanicEntry) (w : World) (ha : w.cell? ⟨a, 0, none⟩ = some va) (hfa : w.frozen? ⟨a, 0, none⟩ = false) (hb : w.cell? ⟨b, 0, none⟩ = some (.int .i64 x)) (hfb : w.frozen? ⟨b, 0, none⟩ = false) (hne : a ≠ b) :
    CallsD Tryz.prog 73 #[.pointer (some ⟨a, 0, none⟩), .pointer (some ⟨b, 0, none⟩)] (.panicking ({ v := .iface 24 (.int .i64 n), recovered := false } :: older)) w fun e u' w' =>
      e = .returned (.tuple #[]) ∧ u' = .panicking ({ v := .iface 24 (.int .i64 n), recovered := true } :: older) ∧ w' = (w.setCell ⟨a, 0, none⟩ (.slice none 0 0)).setCell ⟨b, 0, none⟩ (.int .i64 n) := by
  have ta : ∀ (v : Value) (w : World), (Instr.typeAssert (.iface 24 v) 20 24 true).run Tryz.prog w = .ok (.tuple #[v, .bool true]) w := fun v w => by kernel_rfl
  have hne2 : ¬ b = a := fun e => hne e.symm
  refine callsD_of_wpS Tryz.func73 rfl fun c₀ cs hu => ?_
  apply wpS_seq
  apply wpS_region
  simp [wpOpsS, go_sem, recoverD, hu, Tryz.ntmps73, Exit.thenS, ta]
  apply wpS_seq
  apply wpS_region
  simp [wpOpsS, go_sem, Exit.thenS]
  refine wpS_cond (t := true) (by simp [Act.eval, Array.replicate]) ?_
  simp only [if_true]
  apply wpS_region
  have hb2 : (w.setCell ⟨a, 0, none⟩ (.slice none 0 0)).cell? ⟨b, 0, none⟩ = some (.int .i64 x) := by
    rw [World.cell?_setCell_other _ _ _ _ (by simp)]; exact hb
  have hfb2 : (w.setCell ⟨a, 0, none⟩ (.slice none 0 0)).frozen? ⟨b, 0, none⟩ = false := by simp [hfb, go_sem]
  simp [wpOpsS, go_sem, ha, hfa, hb2, hfb2, bodyPostS, results, Tryz.results73]
set_option maxRecDepth 100000 in
theorem htake1_idle (a b : Nat) (w : World) :
    CallsD Tryz.prog 73 #[.pointer (some ⟨a, 0, none⟩), .pointer (some ⟨b, 0, none⟩)] .returning w fun e u' w' => e = .returned (.tuple #[]) ∧ u' = .returning ∧ w' = w := by
  have ta : ∀ (w : World), (Instr.typeAssert .nilIface 20 24 true).run Tryz.prog w = .ok (.tuple #[.int .i64 0, .bool false]) w := fun w => by kernel_rfl
  refine callsD_of_wpS Tryz.func73 rfl fun c₀ cs hu => ?_
  apply wpS_seq
  apply wpS_region
  simp [wpOpsS, go_sem, recoverD, hu, Tryz.ntmps73, Exit.thenS, ta]
  apply wpS_seq
  apply wpS_region
  simp [wpOpsS, go_sem, Exit.thenS]
  refine wpS_cond (t := false) (by simp [Act.eval, Array.replicate]) ?_
  simp only [Bool.false_eq_true, if_false]
  refine wpS_of_wp (wp_skip ?_)
  cases c₀
  simp_all [bodyPostS, results, Tryz.results73]
theorem Only.setNew {S : Nat → Prop} {w w1 : World} (h : Only S w w1) {a : Nat} (ha : w.heap.size ≤ a) (j : Nat) (u : Value) : Only S w (w1.setCell ⟨a, j, none⟩ u) :=
  ⟨h.os, h.tape, h.output, by simp; exact h.size, fun k hk hs => by rw [Below.heap_setCell _ _ _ _ (by show k ≠ a; omega)]; exact h.block k hk hs⟩
def HTakePost (base p : Nat) (ps : List Int) (H : Int × List Int × Nat) (w : World) (e : Ending) (w' : World) : Prop :=
  (H.1 = 0 → ∃ g, e = .returned (.tuple #[.slice (some ⟨g, 0, none⟩) 256 256, .int .i64 0]) ∧ (Kd.int .i64).R 3 w' w.heap.size (fun _ => True) (.slice (some ⟨g, 0, none⟩) 256 256) H.2.1 ∧ H.2.1.length = 256 ∧ RfAt w' base p ps H.2.2) ∧
  (H.1 ≠ 0 → e = .returned (.tuple #[.slice none 0 0, .int .i64 H.1])) ∧ Only (fun k => k = p) w w'
set_option maxRecDepth 100000 in
set_option maxHeartbeats 1000000 in
theorem htake_any (base p r : Nat) (ps : List Int) (at_ : Nat) (w : World) (h : RfAt w base p ps at_) (hps : ∀ x ∈ ps, 0 ≤ x ∧ x < 256) (hl : ps.length ≤ 1000000) (ha : at_ ≤ 8 * ps.length) (h1 : 1 ≤ r) (h12 : r ≤ 12) (hp : p < w.heap.size) :
    Calls Tryz.prog 31 #[.pointer (some ⟨p, 0, none⟩), .int .i64 r] w (HTakePost base p ps (hdrT ps (8 * ps.length) 257 zeros256 0 (2 ^ r) false at_) w) := by
  obtain ⟨P, hP⟩ : ∃ P : Nat, P = 2 ^ r := ⟨_, rfl⟩
  rw [← hP]
  obtain ⟨H, hH⟩ : ∃ H, H = hdrT ps (8 * ps.length) 257 zeros256 0 P false at_ := ⟨_, rfl⟩
  rw [← hH]
  have hPI : (2 : Int) ^ r = (P : Int) := by rw [hP]; simp
  have hPb : 1 ≤ P ∧ P ≤ 4096 := by have := pow_le12 h12; rw [hPI] at this; omega
  have hw1 : IntKind.i64.wrap (2 ^ r) = (P : Int) := by rw [hPI]; exact i64_in _ (by omega)
  obtain ⟨W, hW⟩ : ∃ W, W = (w.alloc (.cells #[.slice none 0 0] 42)).alloc (.cells #[.int .i64 0] 24) := ⟨_, rfl⟩
  have hmf : ∀ (fn : Fn) (first cap : Array Value) (w : World), (Instr.makeFunc fn first cap).run Tryz.prog w = .ok (.func fn first cap) w := fun _ _ _ _ => rfl
  have hr1 : ¬ (r : Int) < 1 := by omega
  have hr2 : ¬ 12 < (r : Int) := by omega
  have hr0 : (0 : Int) ≤ r := by omega
  have HW := Lib.hid hPI
  have hsz : W.heap.size = w.heap.size + 2 := by rw [hW]; simp
  have hba : W.heap[w.heap.size]? = some (.cells #[.slice none 0 0] 42 (0, 0)) := by rw [hW]; exact blk_alloc (blk_new _ _) _
  have hbb : W.heap[w.heap.size + 1]? = some (.cells #[.int .i64 0] 24 (0, 0)) := by rw [hW]; exact blk_new1 _ _ _
  have hWb : Below w.heap.size w W := by rw [hW]; exact ((Below.refl _ _).alloc (Nat.le_refl _) _).alloc (by simp) _
  have HCnt := Lib.hid (hcounts_any base p ps at_ P W (h.below hWb) hps hl ha (by omega) (by omega))
  rw [← hH] at HCnt
  obtain ⟨a, hae⟩ : ∃ a, a = w.heap.size := ⟨_, rfl⟩
  obtain ⟨b, hbe⟩ : ∃ b, b = w.heap.size + 1 := ⟨_, rfl⟩
  rw [← hae] at hba
  rw [← hbe] at hbb
  have HA := Lib.hid (And.intro hae (And.intro hbe (And.intro hsz (And.intro hba (And.intro hbb (And.intro hWb hp))))))
  clear hPI hP hH h hps hl ha hsz hba hbb hWb hp
  go_enter_defers Tryz.func31, Tryz.ntmps31
  go_wp2_with fail
  rw [← hW, ← hbe, ← hae]
  clear hW hae hbe
  refine HCnt.out.mono ?_
  rintro e w1 ⟨c1, c2, c3⟩
  have hab : p ≠ a ∧ p ≠ b ∧ a ≠ b ∧ a < W.heap.size ∧ b < W.heap.size := by obtain ⟨q1, q2, q3, q4, q5, q6, q7⟩ := HA.out; omega
  have hba1 : w1.heap[a]? = some (.cells #[.slice none 0 0] 42 (0, 0)) := by rw [c3.block a hab.2.2.2.1 (fun e => hab.1 e.symm)]; exact HA.out.2.2.2.1
  have hbb1 : w1.heap[b]? = some (.cells #[.int .i64 0] 24 (0, 0)) := by rw [c3.block b hab.2.2.2.2 (fun e => hab.2.1 e.symm)]; exact HA.out.2.2.2.2.1
  have ca : w1.cell? ⟨a, 0, none⟩ = some (.slice none 0 0) := (blk_cell hba1 0).trans rfl
  have cb : w1.cell? ⟨b, 0, none⟩ = some (.int .i64 0) := (blk_cell hbb1 0).trans rfl
  have fa : w1.frozen? ⟨a, 0, none⟩ = false := blk_frozen hba1 0
  have fb : w1.frozen? ⟨b, 0, none⟩ = false := blk_frozen hbb1 0
  have HC3 := Lib.hid (And.intro c3 hab)
  have hne : ¬ a = b := hab.2.2.1
  have hne' : ¬ b = a := fun e => hab.2.2.1 e.symm
  by_cases h0 : H.1 = 0
  · obtain ⟨g, rfl, d1, d2, d3⟩ := c1 h0
    have HD := Lib.hid (And.intro d1 (And.intro d2 (And.intro d3 h0)))
    clear c1 c2 c3 d1 d2 d3 hba1 hbb1
    go_wp2_with fail
    refine leaves_cons (f := 73) (args := #[.pointer (some ⟨a, 0, none⟩), .pointer (some ⟨b, 0, none⟩)]) (by simp) (by simp [go_sem]) ?_
    refine (htake1_idle a b _).mono ?_
    rintro e u' w'' ⟨rfl, rfl, rfl⟩
    have ca2 : (w1.setCell ⟨a, 0, none⟩ (.slice (some ⟨g, 0, none⟩) 256 256)).cell? ⟨a, 0, none⟩ = some (.slice (some ⟨g, 0, none⟩) 256 256) := World.cell?_setCell_same _ _ _ ca
    have cb2 : ((w1.setCell ⟨a, 0, none⟩ (.slice (some ⟨g, 0, none⟩) 256 256)).setCell ⟨b, 0, none⟩ (.int .i64 0)).cell? ⟨b, 0, none⟩ = some (.int .i64 0) := World.cell?_setCell_same _ _ _ (by rw [World.cell?_setCell_other _ _ _ _ (by simp)]; exact cb)
    simp [Leaves, settle, results, Tryz.results31, go_sem, ca2, cb2]
    have ho : Only (fun k => k = p) w w1 := (Only.of_below HA.out.2.2.2.2.2.1).trans HC3.out.1
    refine ⟨fun _ => ⟨g, rfl, ?_, HD.out.2.1, ?_⟩, fun h => absurd HD.out.2.2.2 h, (ho.setNew (by have := HA.out.1; omega) 0 _).setNew (by have := HA.out.2.1; omega) 0 _⟩
    · have hlt := HC3.out.2
      have h1 := Kd.R_bound HD.out.1
      have h2 := Kd.R_far (p := ⟨b, 0, none⟩) (Kd.R_far (p := ⟨a, 0, none⟩) h1 (fun k hk => by show k ≠ a; have := hk.2.1; omega) (.slice (some ⟨g, 0, none⟩) 256 256)) (fun k hk => by show k ≠ b; have := hk.2.1; omega) (.int .i64 0)
      exact Kd.R_mono (Kd.R_lower h2 HA.out.2.2.2.2.2.1.size) (fun _ _ => trivial)
    · have h1 := HA.out.1; have h2 := HA.out.2.1; have h3 := HA.out.2.2.2.2.2.2
      exact (HD.out.2.2.1.far (by omega) 0 _).far (by omega) 0 _
  · obtain rfl := c2 h0
    have HD := Lib.hid h0
    clear c1 c2 c3 hba1 hbb1
    unfold panE
    go_wp2_with fail
    refine leaves_cons (f := 73) (args := #[.pointer (some ⟨a, 0, none⟩), .pointer (some ⟨b, 0, none⟩)]) (by simp) (by simp [go_sem]) ?_
    refine (htake1_pan a b (.slice none 0 0) H.1 0 [] w1 ca fa cb fb hne).mono ?_
    rintro e u' w'' ⟨rfl, rfl, rfl⟩
    have ca2 : (w1.setCell ⟨a, 0, none⟩ (.slice none 0 0)).cell? ⟨a, 0, none⟩ = some (.slice none 0 0) := World.cell?_setCell_same _ _ _ ca
    have cb2 : ((w1.setCell ⟨a, 0, none⟩ (.slice none 0 0)).setCell ⟨b, 0, none⟩ (.int .i64 H.1)).cell? ⟨b, 0, none⟩ = some (.int .i64 H.1) := World.cell?_setCell_same _ _ _ (by rw [World.cell?_setCell_other _ _ _ _ (by simp)]; exact cb)
    simp [Leaves, settle, results, Tryz.results31, go_sem, ca2, cb2]
    refine ⟨fun h => absurd h HD.out, fun _ => rfl, ?_⟩
    have ho : Only (fun k => k = p) w w1 := (Only.of_below HA.out.2.2.2.2.2.1).trans HC3.out.1
    exact (ho.setNew (by have := HA.out.1; omega) 0 _).setNew (by have := HA.out.2.1; omega) 0 _
end Go.Proofs.YtgjghcpaokfniaaGreat
namespace Go.Proofs.YtgjghcpaokfniaaGreat
open Go.RowKit Go.Proofs.YtgjghcpaokfniaaGreatW.PrintWords
open HeapL
def claimN (rest : List Int) (s : Nat) : K3 := ((s : Int), rest.getD s 0, 0)
def candN (rest : List Int) (had : List Bool) (k : Nat) : List K3 := ((List.range k).filter (fun s => !had.getD s false)).map (claimN rest)
def claimT (c q : List Int) (s : Nat) : K3 := ((s : Int), q.getD s 0, (1073741824 - c.getD s 0) * 256 + s)
def candT (c q : List Int) (k : Nat) : List K3 := ((List.range k).filter (fun s => decide (0 < c.getD s 0))).map (claimT c q)
theorem candN_succ (rest : List Int) (had : List Bool) (k : Nat) : candN rest had (k + 1) = if had.getD k false = false then candN rest had k ++ [claimN rest k] else candN rest had k := by
  unfold candN
  have e : [k].filter (fun s => !had.getD s false) = if had.getD k false = false then [k] else [] := by
    rw [List.filter_cons, List.filter_nil]; cases had.getD k false <;> rfl
  rw [List.range_succ, List.filter_append, List.map_append, e]
  split
  · rfl
  · rw [List.map_nil, List.append_nil]
theorem candT_succ (c q : List Int) (k : Nat) : candT c q (k + 1) = if 0 < c.getD k 0 then candT c q k ++ [claimT c q k] else candT c q k := by
  unfold candT
  rw [List.range_succ, List.filter_append, List.map_append, List.filter_cons, List.filter_nil]
  by_cases h : 0 < c.getD k 0
  · rw [if_pos h, if_pos (decide_eq_true h)]; rfl
  · rw [if_neg h, if_neg (by rw [decide_eq_false h]; decide), List.map_nil, List.append_nil]
theorem candN_len (rest : List Int) (had : List Bool) (k : Nat) : (candN rest had k).length ≤ k := by
  unfold candN; rw [List.length_map]; exact Nat.le_trans (List.length_filter_le _ _) (by simp)
theorem candT_len (c q : List Int) (k : Nat) : (candT c q k).length ≤ k := by
  unfold candT; rw [List.length_map]; exact Nat.le_trans (List.length_filter_le _ _) (by simp)
theorem part_at {p : Nat → Bool} {t : Nat} (ht : t < 256) (hp : p t = true) : ((List.range 256).filter p).Perm (t :: (List.range 256).filter (fun s => p s && decide (s ≠ t))) := by
  have hm : t ∈ (List.range 256).filter p := List.mem_filter.2 ⟨List.mem_range.2 ht, hp⟩
  have hn : ((List.range 256).filter p).Nodup := List.Pairwise.filter _ List.nodup_range
  have e : ((List.range 256).filter p).erase t = (List.range 256).filter (fun s => p s && decide (s ≠ t)) := by
    rw [hn.erase_eq_filter, List.filter_filter]
    refine List.filter_congr fun s _ => ?_
    rw [Bool.and_comm]
    congr 1
    by_cases h : s = t <;> simp [h]
  rw [← e]
  exact List.perm_cons_erase hm
theorem need_spec (rest : List Int) (had : List Bool) : ∀ k s, s < k → had.getD s false = false → 0 ≤ needN rest had k ∧ (rest.getD s 0 < rest.getD (needN rest had k).toNat 0 ∨ rest.getD s 0 = rest.getD (needN rest had k).toNat 0 ∧ needN rest had k ≤ s)
  | 0, s, h, _ => by omega
  | k + 1, s, h, hs => by
    have hl := needN_lt rest had k
    simp only [needN]
    by_cases e : s = k
    · subst e
      rw [if_neg (by rw [hs]; decide)]
      by_cases h1 : needN rest had s < 0
      · rw [if_pos h1, Int.toNat_natCast]; exact ⟨by omega, .inr ⟨rfl, Int.le_refl _⟩⟩
      · rw [if_neg h1]
        by_cases h2 : rest.getD s 0 > rest.getD (needN rest had s).toNat 0
        · rw [if_pos h2, Int.toNat_natCast]; exact ⟨by omega, .inr ⟨rfl, Int.le_refl _⟩⟩
        · rw [if_neg h2]; exact ⟨by omega, by omega⟩
    · obtain ⟨i1, i2⟩ := need_spec rest had k s (by omega) hs
      by_cases h0 : had.getD k false = true
      · rw [if_pos h0]; exact ⟨i1, i2⟩
      · rw [if_neg h0, if_neg (by omega)]
        by_cases h2 : rest.getD k 0 > rest.getD (needN rest had k).toNat 0
        · rw [if_pos h2, Int.toNat_natCast]; exact ⟨by omega, .inl (by omega)⟩
        · rw [if_neg h2]; exact ⟨i1, i2⟩
theorem rich_spec (q c : List Int) : ∀ k s, s < k → q.getD s 0 < q.getD (richN q c k) 0 ∨ q.getD s 0 = q.getD (richN q c k) 0 ∧ (c.getD (richN q c k) 0 < c.getD s 0 ∨ c.getD (richN q c k) 0 = c.getD s 0 ∧ s ≤ richN q c k)
  | 0, s, h => by omega
  | k + 1, s, h => by
    have hl := richN_lt q c k
    by_cases e : s = k
    · subst e
      simp only [richN]
      split
      · exact .inr ⟨rfl, .inr ⟨rfl, Nat.le_refl _⟩⟩
      · omega
    · have ih := rich_spec q c k s (by omega)
      simp only [richN]
      split
      · omega
      · exact ih
theorem mem_candN {rest : List Int} {had : List Bool} {x : K3} (h : x ∈ candN rest had 256) : ∃ s, s < 256 ∧ had.getD s false = false ∧ x = claimN rest s := by
  obtain ⟨s, hs, rfl⟩ := List.mem_map.1 h
  obtain ⟨h1, h2⟩ := List.mem_filter.1 hs
  exact ⟨s, List.mem_range.1 h1, by simpa using h2, rfl⟩
theorem candN_mem {rest : List Int} {had : List Bool} {s : Nat} (h : s < 256) (h2 : had.getD s false = false) : claimN rest s ∈ candN rest had 256 :=
  List.mem_map.2 ⟨s, List.mem_filter.2 ⟨List.mem_range.2 h, by show (!had.getD s false) = true; rw [h2]; rfl⟩, rfl⟩
theorem get_of_mem {ys : List K3} {x : K3} (h : x ∈ ys) : ∃ k, k < ys.length ∧ ys.getD k z3 = x := by
  obtain ⟨k, hk, rfl⟩ := List.getElem_of_mem h
  exact ⟨k, hk, by rw [List.getD_eq_getElem?_getD, List.getElem?_eq_getElem hk]; rfl⟩
theorem mem_get {ys : List K3} {k : Nat} (h : k < ys.length) : ys.getD k z3 ∈ ys := by
  rw [List.getD_eq_getElem?_getD, List.getElem?_eq_getElem h]; exact List.getElem_mem _
theorem give_root {rest : List Int} {had : List Bool} {ys : List K3} (hp : ys.Perm (candN rest had 256)) (hh : From lessC z3 ys 0 ys.length) (h0 : 0 < ys.length) :
    ∃ t : Nat, needN rest had 256 = t ∧ t < 256 ∧ had.getD t false = false ∧ ys.getD 0 z3 = claimN rest t := by
  obtain ⟨s, hs, hsf, e⟩ := mem_candN (hp.subset (mem_get h0))
  obtain ⟨n1, n2⟩ := need_spec rest had 256 s hs hsf
  obtain ⟨l1, l2, l3⟩ := needN_lt rest had 256
  obtain ⟨t, ht⟩ : ∃ t : Nat, needN rest had 256 = t := ⟨_, (Int.toNat_of_nonneg n1).symm⟩
  rw [ht] at n1 n2 l2 l3
  rw [Int.toNat_natCast] at n2 l3
  have hf := l3 (by omega)
  obtain ⟨k, hk, ek⟩ := get_of_mem (hp.symm.subset (candN_mem (rest := rest) (show t < 256 by omega) hf))
  have hr := From.root ordC hh (Nat.le_refl _) (fun _ _ => trivial) k hk
  rw [ek, e, lessC_false] at hr
  simp only [claimN, true_and, Int.lt_irrefl, false_or] at hr
  have est : s = t := by omega
  subst est
  exact ⟨s, ht, hs, hf, e⟩
theorem give_rest {rest : List Int} {had : List Bool} {ys zs : List K3} {t : Nat} (hl : had.length = 256) (ht : t < 256) (hf : had.getD t false = false) (hp : ys.Perm (candN rest had 256)) (h : (claimN rest t :: zs).Perm ys) : zs.Perm (candN rest (had.set t true) 256) := by
  have h1 := (part_at (p := fun s => !had.getD s false) ht (by show (!had.getD t false) = true; rw [hf]; rfl)).map (claimN rest)
  have h2 : (claimN rest t :: zs).Perm (claimN rest t :: ((List.range 256).filter (fun s => (!had.getD s false) && decide (s ≠ t))).map (claimN rest)) := (h.trans hp).trans h1
  have h3 := h2.cons_inv
  have e : candN rest (had.set t true) 256 = ((List.range 256).filter (fun s => (!had.getD s false) && decide (s ≠ t))).map (claimN rest) := by
    unfold candN
    congr 1
    refine List.filter_congr fun s hs => ?_
    rw [List.getD_eq_getElem?_getD, List.getElem?_set]
    by_cases e : t = s
    · subst e; rw [if_pos rfl, if_pos (by omega)]; simp
    · rw [if_neg e, ← List.getD_eq_getElem?_getD]
      have : ¬ s = t := fun x => e x.symm
      simp [this]
  rw [e]; exact h3
theorem mem_candT {c q : List Int} {x : K3} (h : x ∈ candT c q 256) : ∃ s, s < 256 ∧ 0 < c.getD s 0 ∧ x = claimT c q s := by
  obtain ⟨s, hs, rfl⟩ := List.mem_map.1 h
  obtain ⟨h1, h2⟩ := List.mem_filter.1 hs
  exact ⟨s, List.mem_range.1 h1, by simpa using h2, rfl⟩
theorem candT_mem {c q : List Int} {s : Nat} (h : s < 256) (h2 : 0 < c.getD s 0) : claimT c q s ∈ candT c q 256 :=
  List.mem_map.2 ⟨s, List.mem_filter.2 ⟨List.mem_range.2 h, decide_eq_true h2⟩, rfl⟩
theorem take_root {c q : List Int} {ys : List K3} (hi : ∀ s, 0 < q.getD s 0 ↔ 0 < c.getD s 0) (hp : ys.Perm (candT c q 256)) (hh : From lessC z3 ys 0 ys.length) (h0 : 0 < ys.length) :
    richN q c 256 < 256 ∧ 0 < c.getD (richN q c 256) 0 ∧ ys.getD 0 z3 = claimT c q (richN q c 256) := by
  obtain ⟨s, hs, hsf, e⟩ := mem_candT (hp.subset (mem_get h0))
  have n2 := rich_spec q c 256 s hs
  have l2 := richN_lt q c 256
  obtain ⟨t, ht⟩ : ∃ t : Nat, t = richN q c 256 := ⟨_, rfl⟩
  rw [← ht] at n2 l2 ⊢
  have hqs := (hi s).2 hsf
  have hct : 0 < c.getD t 0 := (hi t).1 (by omega)
  obtain ⟨k, hk, ek⟩ := get_of_mem (hp.symm.subset (candT_mem (q := q) (show t < 256 by omega) hct))
  have hr := From.root ordC hh (Nat.le_refl _) (fun _ _ => trivial) k hk
  rw [ek, e, lessC_false] at hr
  simp only [claimT] at hr
  have est : s = t := by omega
  subst est
  exact ⟨hs, hct, e⟩
theorem take_rest {c q : List Int} {ys zs us : List K3} {t : Nat} (hl : q.length = 256) (ht : t < 256) (hf : 0 < c.getD t 0) (hp : ys.Perm (candT c q 256)) (h : (claimT c q t :: zs).Perm ys)
    (hu : us.Perm (((t : Int), q.getD t 0 - 1, (1073741824 - c.getD t 0) * 256 + t) :: zs)) : us.Perm (candT c (q.set t (q.getD t 0 - 1)) 256) := by
  have hpa := part_at (p := fun s => decide (0 < c.getD s 0)) ht (decide_eq_true hf)
  have h2 : (claimT c q t :: zs).Perm (claimT c q t :: ((List.range 256).filter (fun s => (decide (0 < c.getD s 0)) && decide (s ≠ t))).map (claimT c q)) := (h.trans hp).trans (hpa.map (claimT c q))
  have h3 := h2.cons_inv
  have h4 := hpa.map (claimT c (q.set t (q.getD t 0 - 1)))
  rw [List.map_cons] at h4
  have e1 : claimT c (q.set t (q.getD t 0 - 1)) t = ((t : Int), q.getD t 0 - 1, (1073741824 - c.getD t 0) * 256 + t) := by
    unfold claimT; rw [getD_set _ _ _ _ (by omega), if_pos rfl]
  have e2 : ((List.range 256).filter (fun s => (decide (0 < c.getD s 0)) && decide (s ≠ t))).map (claimT c (q.set t (q.getD t 0 - 1))) = ((List.range 256).filter (fun s => (decide (0 < c.getD s 0)) && decide (s ≠ t))).map (claimT c q) := by
    refine List.map_congr_left fun s hs => ?_
    have hs2 := (List.mem_filter.1 hs).2
    have : s ≠ t := by simp at hs2; exact hs2.2
    unfold claimT; rw [getD_set _ _ _ _ (by omega), if_neg this]
  rw [e1, e2] at h4
  exact (hu.trans (h3.cons _)).trans h4.symm
end Go.Proofs.YtgjghcpaokfniaaGreat
namespace Go.Proofs.YtgjghcpaokfniaaGreat
open Go.RowKit Go.IntWalk Go.Proofs.YtgjghcpaokfniaaGreatW.PrintWords
open HeapL
structure GvRel (gq c B : Nat) (w : World) (qs : List Int) (p : Nat) (v : Value) (ys : List K3) (wr : World) : Prop where
  q : (Kd.int .i64).R 3 wr B (fun _ => True) (.slice (some ⟨gq, 0, none⟩) 256 c) qs
  h : CKp p B wr v ys
  ne : p ≠ gq ∧ v.ownBlock ≠ some gq
  heap : From lessC z3 ys 0 ys.length
  below : Below B w wr
  pB : B ≤ p
theorem GvRel.start {gq c B : Nat} {w : World} {qs : List Int} {l : Value} {xs : List K3} (hq : (Kd.int .i64).R 3 w B (fun _ => True) (.slice (some ⟨gq, 0, none⟩) 256 c) qs)
    (hl : k3.R 158 w B (fun k => k ≠ gq) l xs) (hB : B ≤ w.heap.size) :
    CKp w.heap.size B (w.alloc (.cells #[l] 156)) l xs ∧ (Kd.int .i64).R 3 (w.alloc (.cells #[l] 156)) B (fun _ => True) (.slice (some ⟨gq, 0, none⟩) 256 c) qs ∧
      w.heap.size ≠ gq ∧ l.ownBlock ≠ some gq ∧ Below B w (w.alloc (.cells #[l] 156)) := by
  have h1 := Kd.R_lt hq gq rfl
  refine ⟨⟨blk_new _ _, Kd.R_alloc (Kd.R_mono (Kd.R_bound hl) (fun k hk => by have := hk.2.2.1; omega)) _⟩, Kd.R_alloc hq _, by omega, fun e => hl.1 gq e rfl, (Below.refl _ _).alloc hB _⟩
theorem GvRel.of_init {gq c B : Nat} {w w1 w2 : World} {qs : List Int} {p : Nat} {v : Value} {ys : List K3} (hq : (Kd.int .i64).R 3 w1 B (fun _ => True) (.slice (some ⟨gq, 0, none⟩) 256 c) qs) (hp : p ≠ gq) (hv : v.ownBlock ≠ some gq) (hb : Below B w w1) (hB : B ≤ p) (hB1 : B ≤ w1.heap.size)
    (h : CKp p B w2 v ys) (hh : From lessC z3 ys 0 ys.length) (ho : Only (fun k => v.ownBlock = some k) w1 w2) : GvRel gq c B w qs p v ys w2 :=
  ⟨flat_only rfl hq ho (fun k hk e => hv (by rw [e, ← hk]; rfl)), h, ⟨hp, hv⟩, hh, hb.trans (ho.below hB1 (fun k e => Kd.R_base h.row k e)), hB⟩
theorem GvRel.popped {gq c B g n cap : Nat} {w w1 w2 : World} {qs : List Int} {p : Nat} {ys zs : List K3} (H : GvRel gq c B w qs p (.slice (some ⟨g, 0, none⟩) (n + 1) cap) ys w1) (hB1 : B ≤ w1.heap.size)
    (h : CKp p B w2 (.slice (some ⟨g, 0, none⟩) n cap) zs) (hh : From lessC z3 zs 0 n) (ho : Only (fun k => k = p ∨ k = g) w1 w2) : GvRel gq c B w qs p (.slice (some ⟨g, 0, none⟩) n cap) zs w2 := by
  have hg : g ≠ gq := fun e => H.ne.2 (by rw [e]; rfl)
  have hn := (Kd.R_reads' h.row).1
  exact ⟨flat_only rfl H.q ho (fun k hk e => by
    have hk' : gq = k := by simpa [Value.ownBlock] using hk
    subst hk'
    rcases e with e | e
    · exact H.ne.1 e.symm
    · exact hg e.symm), h, ⟨H.ne.1, fun e => hg (by simpa [Value.ownBlock] using e)⟩, by rw [← hn]; exact hh,
    H.below.trans (ho.below hB1 (fun k e => by rcases e with e | e; exact e ▸ H.pB; exact e ▸ Kd.R_base h.row g rfl)), H.pB⟩
theorem GvRel.put {gq c B : Nat} {w w1 : World} {qs : List Int} {p : Nat} {v : Value} {ys : List K3} (H : GvRel gq c B w qs p v ys w1) (t : Nat) (y : Int) : GvRel gq c B w (qs.set t y) p v ys (w1.setCell ⟨gq, t, none⟩ (.int .i64 y)) := by
  have ho : Only (fun k => k = gq) w1 (w1.setCell ⟨gq, t, none⟩ (.int .i64 y)) := (Only.refl _ _).set1 _ _
  have hr := Kd.R_putn H.q (t : Int) y
  rw [Int.toNat_natCast] at hr
  refine ⟨hr, ⟨blk_far H.h.blk (p := ⟨gq, t, none⟩) H.ne.1 _, ?_⟩, H.ne, H.heap, H.below.setCell (Kd.R_base H.q gq rfl) _, H.pB⟩
  exact Kd.R_mono (Kd.R_step (Kd.R_tight rfl H.h.row) (fun k hk hlt => ho.block k hlt (fun e => H.ne.2 (by rw [← e]; exact hk.symm)))) (fun k hk => H.h.row.1 k hk.symm)
theorem giveIt_succ {rest : List Int} {m : Nat} {st : List Int × List Bool} {t : Nat} (h : needN rest (giveIt rest m st).2 256 = t) : giveIt rest (m + 1) st = ((giveIt rest m st).1.set t ((giveIt rest m st).1.getD t 0 + 1), (giveIt rest m st).2.set t true) := by
  simp only [giveIt]; rw [h, Int.toNat_natCast]
/-- what holds after so many rounds -/
structure GvNum (rest : List Int) (had : List Bool) (ys : List K3) (k : Nat) (st : List Int × List Bool) : Prop where
  ql : st.1.length = 256
  hl : st.2.length = 256
  rng : ∀ s, 0 ≤ st.1.getD s 0 ∧ st.1.getD s 0 ≤ 8192 + k
  free : freeN st.2 + k = freeN had
  perm : ys.Perm (candN rest st.2 256)
theorem GvNum.some {rest : List Int} {had : List Bool} {ys : List K3} {k : Nat} {st : List Int × List Bool} (h : GvNum rest had ys k st) (hk : k < freeN had) : 0 < ys.length := by
  obtain ⟨s, hs, hf⟩ := free_exists h.hl (by have := h.free; omega)
  exact List.length_pos_of_mem (h.perm.symm.subset (candN_mem hs hf))
theorem GvNum.next {rest : List Int} {had : List Bool} {ys zs : List K3} {k t : Nat} {st : List Int × List Bool} (h : GvNum rest had ys k st) (ht : t < 256) (hf : st.2.getD t false = false) (hz : (claimN rest t :: zs).Perm ys) : GvNum rest had zs (k + 1) (st.1.set t (st.1.getD t 0 + 1), st.2.set t true) := by
  refine ⟨by simp [h.ql], by simp [h.hl], fun s => ?_, ?_, give_rest h.hl ht hf h.perm hz⟩
  · show 0 ≤ (st.1.set t (st.1.getD t 0 + 1)).getD s 0 ∧ (st.1.set t (st.1.getD t 0 + 1)).getD s 0 ≤ 8192 + ((k + 1 : Nat) : Int)
    rw [getD_set _ _ _ _ (by rw [h.ql]; exact ht)]
    have h1 := h.rng t; have h2 := h.rng s
    split <;> omega
  · have := free_set (s := t) (by rw [h.hl]; exact ht) hf
    have := h.free
    show freeN (st.2.set t true) + (k + 1) = _
    omega
theorem cfield0 (a b c : Value) (w : World) : (Instr.field 158 (.agg #[a, b, c]) 0).run Tryz.prog w = .ok a w := by kernel_rfl
def GivePost (gq c B : Nat) (qs' : List Int) (w : World) (e : Ending) (w' : World) : Prop := e = .returned (.tuple #[]) ∧ (Kd.int .i64).R 3 w' B (fun _ => True) (.slice (some ⟨gq, 0, none⟩) 256 c) qs' ∧ Below B w w'
set_option maxRecDepth 100000 in
set_option maxHeartbeats 1000000 in
theorem give_any (gq c B : Nat) (qs : List Int) (l : Value) (rest : List Int) (had : List Bool) (m : Nat) (w : World) (hq : (Kd.int .i64).R 3 w B (fun _ => True) (.slice (some ⟨gq, 0, none⟩) 256 c) qs)
    (hl : k3.R 158 w B (fun k => k ≠ gq) l (candN rest had 256)) (hB : B ≤ w.heap.size) (hqs : qs.length = 256) (hhl : had.length = 256) (hr : ∀ s, 0 ≤ qs.getD s 0 ∧ qs.getD s 0 ≤ 8192) (hm : m ≤ freeN had) (hm2 : m ≤ 4096) :
    Calls Tryz.prog 129 #[.slice (some ⟨gq, 0, none⟩) 256 c, l, .int .i64 m] w (GivePost gq c B (giveIt rest m (qs, had)).1 w) := by
  have HS := Lib.hid (GvRel.start hq hl hB)
  have HM := Lib.hid (And.intro hB (And.intro hqs (And.intro hhl (And.intro hr hm))))
  clear hq hl hB hqs hhl hr hm
  obtain ⟨A, cl, rfl⟩ := Kd.R_slice HS.out.1.row
  have ta := cassertKey
  go_enter Tryz.func129, Tryz.ntmps129
  go_wp2_with fail
  refine (cinit_any _ HS.out.1 (by have := candN_len rest had 256; omega)).mono ?_
  rintro e w2 ⟨rfl, ys, h1, h2, h3, h4⟩
  have HI : Hid (GvRel gq c B w qs w.heap.size (.slice A (candN rest had 256).length cl) ys w2 ∧ GvNum rest had ys 0 (qs, had)) :=
    ⟨GvRel.of_init HS.out.2.1 HS.out.2.2.1 HS.out.2.2.2.1 HS.out.2.2.2.2 HM.out.1 (by simp; have := HM.out.1; omega) h1 h3 h4, ⟨HM.out.2.1, HM.out.2.2.1, fun s => by have := HM.out.2.2.2.1 s; show 0 ≤ qs.getD s 0 ∧ qs.getD s 0 ≤ 8192 + ((0 : Nat) : Int); omega, rfl, h2⟩⟩
  clear h1 h2 h3 h4
  go_wp2_with fail
  go_loopw [9] (fun kv wr => ∃ (k : Nat) (v : Value) (ys : List K3), kv = .int .i64 k ∧ k ≤ m ∧ Hid (GvRel gq c B w (giveIt rest k (qs, had)).1 w.heap.size v ys wr ∧ GvNum rest had ys k (giveIt rest k (qs, had)))) (fun kv _ => m - (intOf kv).toNat)
  case atStart => exact ⟨0, _, ys, rfl, by omega, HI⟩
  case round =>
    obtain ⟨k, v, ys, rfl, hk, H⟩ := hrel
    by_cases hlt : k < m
    · have hpos := H.out.2.some (by have := HM.out.2.2.2.2; omega)
      obtain ⟨g, cap, rfl, -⟩ := Kd.R_form H.out.1.h.row hpos
      obtain ⟨t, ht1, ht2, ht3, ht4⟩ := give_root H.out.2.perm H.out.1.heap hpos
      obtain ⟨n, hn⟩ : ∃ n, ys.length = n + 1 := ⟨ys.length - 1, by omega⟩
      rw [hn] at H
      have hn6 : n ≤ 100000 := by have := H.out.2.perm.length_eq; have := candN_len rest (giveIt rest k (qs, had)).2 256; omega
      have HT := Lib.hid (And.intro ht1 (And.intro ht2 (And.intro ht3 (And.intro ht4 hn))))
      have HBr : Hid (B ≤ wr.heap.size) := Nat.le_trans HM.out.1 H.out.1.below.size
      clear ht1 ht3 ht4 hn hpos
      go_wp2_with fail
      refine (chpop_any ordC _ H.out.1.h hn6 (fun _ _ => trivial) (by have := H.out.1.heap; rw [HT.out.2.2.2.2] at this; exact this)).mono ?_
      rintro e w3 ⟨rfl, zs, h1, h2, h3, h4⟩
      have H3 : Hid (GvRel gq c B w (giveIt rest k (qs, had)).1 w.heap.size (.slice (some ⟨g, 0, none⟩) n cap) zs w3) := GvRel.popped H.out.1 HBr.out h1 h3 h4
      rw [HT.out.2.2.2.1] at h2 ⊢
      have HZ := Lib.hid (GvNum.next H.out.2 ht2 HT.out.2.2.1 h2)
      clear h1 h2 h3 h4
      obtain ⟨hc3, hf3⟩ := ints_cells H3.out.q t ht2
      obtain ⟨hy0, hy1⟩ := H.out.2.rng t
      obtain ⟨y, hy⟩ : ∃ y, y = (giveIt rest k (qs, had)).1.getD t 0 := ⟨_, rfl⟩
      rw [← hy] at hc3 hy0 hy1
      have HY := Lib.hid hy
      have ht256 : (t : Int) < 256 := by omega
      clear hy
      simp only [claimN]
      obtain ⟨z, hz⟩ : ∃ z, z = rest.getD t 0 := ⟨_, rfl⟩
      rw [← hz]
      have fd := cfield0 (.int .i64 t) (.int .i64 z) (.int .i64 0)
      clear hz
      go_wp2_with fail
      go_roundw
      case rel =>
        have hg := giveIt_succ (st := (qs, had)) HT.out.1
        refine ⟨k + 1, .slice (some ⟨g, 0, none⟩) n cap, zs, by go_num, by omega, ?_⟩
        rw [hg, ← HY.out]
        exact ⟨H3.out.put t (y + 1), by rw [HY.out]; exact HZ.out⟩
      case measure => simp [intOf]; omega
    · have hkm : k = m := by omega
      subst hkm
      go_wp2_with fail
      go_end0
      exact ⟨rfl, H.out.1.q, H.out.1.below⟩
end Go.Proofs.YtgjghcpaokfniaaGreat
namespace Go.Proofs.YtgjghcpaokfniaaGreat
open Go.RowKit Go.IntWalk Go.Proofs.YtgjghcpaokfniaaGreatW.PrintWords
open HeapL
structure TkRel (gq cq B : Nat) (W0 : World) (qs : List Int) (p : Nat) (v : Value) (ys : List K3) (wr : World) : Prop where
  q : (Kd.int .i64).R 3 wr B (fun _ => True) (.slice (some ⟨gq, 0, none⟩) 256 cq) qs
  h : CKp p B wr v ys
  ne : p ≠ gq ∧ v.ownBlock ≠ some gq
  below : Below B W0 wr
  pB : B ≤ p
theorem TkRel.start {gq cq B : Nat} {W0 w : World} {qs : List Int} (hq : (Kd.int .i64).R 3 w B (fun _ => True) (.slice (some ⟨gq, 0, none⟩) 256 cq) qs) (hb : Below B W0 w) (hB : B ≤ w.heap.size) :
    TkRel gq cq B W0 qs w.heap.size (.slice none 0 0) [] (w.alloc (.cells #[.slice none 0 0] 156)) := by
  have h1 := Kd.R_lt hq gq rfl
  exact ⟨Kd.R_alloc hq _, ⟨blk_new _ _, Kd.R_nil _ _ _ _ _⟩, ⟨by omega, by simp [Value.ownBlock]⟩, hb.alloc hB _, hB⟩
/-- one more is appended, and the cell is stored -/
theorem TkRel.app {gq cq B : Nat} {W0 W wa : World} {qs : List Int} {p : Nat} {v v1 : Value} {ys zs : List K3} (H : TkRel gq cq B W0 qs p v ys W) (hB : B ≤ W.heap.size) (hr : k3.R 158 wa B (fun k => k ≠ p) v1 zs) (hg : W.grownBy wa v.ownBlock)
    (hat : v1.ownBlock = v.ownBlock ∨ ∃ b, v1.ownBlock = some b ∧ W.heap.size ≤ b) : TkRel gq cq B W0 qs p v1 zs (wa.setCell ⟨p, 0, none⟩ v1) := by
  have hpv : some p ≠ v.ownBlock := fun e => H.h.row.1 p e.symm rfl
  have hgl := Kd.R_lt H.q gq rfl
  have hb1 := blk_grown H.h.blk hg hpv
  have hne1 : v1.ownBlock ≠ some gq := fun e => by
    rcases hat with h | ⟨b, h, hle⟩
    · exact H.ne.2 (by rw [← h]; exact e)
    · rw [h] at e; injection e with e; omega
  have h1 := Kd.R_grown1 H.q rfl hg H.ne.2
  have ho : Only (fun k => k = p) wa (wa.setCell ⟨p, 0, none⟩ v1) := (Only.refl _ _).set1 _ _
  refine ⟨flat_only rfl h1 ho (fun k hk e => H.ne.1 (by rw [← e]; simpa [Value.ownBlock] using hk.symm)), ⟨blk_set hb1 0 _, Kd.R_far (p := ⟨p, 0, none⟩) hr (fun k hk => hk) _⟩, ⟨H.ne.1, hne1⟩, ?_, H.pB⟩
  exact (below_of_grown H.below hg (fun k hk => Kd.R_base H.h.row k hk) hB).setCell H.pB _
theorem GvRel.alloc {gq c B : Nat} {w : World} {qs : List Int} {p : Nat} {v : Value} {ys : List K3} {wr : World} (H : GvRel gq c B w qs p v ys wr) (hB : B ≤ wr.heap.size) (o : Obj) : GvRel gq c B w qs p v ys (wr.alloc o) :=
  ⟨Kd.R_alloc H.q o, H.h.below ((Below.refl _ _).alloc (Nat.le_refl _) o), H.ne, H.heap, H.below.alloc hB o, H.pB⟩
theorem GvRel.far {gq c B : Nat} {w : World} {qs : List Int} {p : Nat} {v : Value} {ys : List K3} {wr : World} (H : GvRel gq c B w qs p v ys wr) {g : Nat} (h1 : g ≠ gq) (h2 : p ≠ g) (h3 : v.ownBlock ≠ some g) (hB : B ≤ g) (j : Nat) (u : Value) : GvRel gq c B w qs p v ys (wr.setCell ⟨g, j, none⟩ u) := by
  have ho : Only (fun k => k = g) wr (wr.setCell ⟨g, j, none⟩ u) := (Only.refl _ _).set1 _ _
  refine ⟨flat_only rfl H.q ho (fun k hk e => h1 (by rw [← e]; simpa [Value.ownBlock] using hk.symm)), ⟨blk_far H.h.blk (p := ⟨g, j, none⟩) h2 _, ?_⟩, H.ne, H.heap, H.below.setCell hB _, H.pB⟩
  exact Kd.R_mono (Kd.R_step (Kd.R_tight rfl H.h.row) (fun k hk hlt => ho.block k hlt (fun e => h3 (by rw [← e]; exact hk.symm)))) (fun k hk => H.h.row.1 k hk.symm)
theorem GvRel.pushed {gq c B : Nat} {w w1 w2 : World} {qs : List Int} {p : Nat} {v v' : Value} {ys zs : List K3} (H : GvRel gq c B w qs p v ys w1) (hB : B ≤ w1.heap.size) (h : CKp p B w2 v' zs) (hh : From lessC z3 zs 0 zs.length)
    (hat : v'.ownBlock = v.ownBlock ∨ ∃ b, v'.ownBlock = some b ∧ w1.heap.size ≤ b) (ho : Only (fun k => k = p ∨ v.ownBlock = some k) w1 w2) : GvRel gq c B w qs p v' zs w2 := by
  have hgl := Kd.R_lt H.q gq rfl
  refine ⟨flat_only rfl H.q ho (fun k hk e => ?_), h, ⟨H.ne.1, fun e => ?_⟩, hh, H.below.trans (ho.below hB (fun k e => ?_)), H.pB⟩
  · have hk' : gq = k := by simpa [Value.ownBlock] using hk
    subst hk'
    rcases e with e | e
    · exact H.ne.1 e.symm
    · exact H.ne.2 e
  · rcases hat with h | ⟨b, h, hle⟩
    · exact H.ne.2 (by rw [← h]; exact e)
    · rw [h] at e; injection e with e; omega
  · rcases e with e | e
    · exact e ▸ H.pB
    · exact Kd.R_base H.h.row k e
theorem takeIt_succ (c : List Int) (m : Nat) (q : List Int) : takeIt c (m + 1) q = (takeIt c m q).set (richN (takeIt c m q) c 256) ((takeIt c m q).getD (richN (takeIt c m q) c 256) 0 - 1) := rfl
def TakeOkay (c q : List Int) (m : Nat) : Prop := ∀ k, k ≤ m → (takeIt c k q).length = 256 ∧ (∀ s, 0 ≤ (takeIt c k q).getD s 0 ∧ (takeIt c k q).getD s 0 ≤ 100000) ∧ ∀ s, 0 < (takeIt c k q).getD s 0 ↔ 0 < c.getD s 0
def TkPost (gq cq B : Nat) (qs' : List Int) (W0 : World) (e : Ending) (w' : World) : Prop := e = .returned (.tuple #[]) ∧ (Kd.int .i64).R 3 w' B (fun _ => True) (.slice (some ⟨gq, 0, none⟩) 256 cq) qs' ∧ Below B W0 w'
set_option maxRecDepth 100000 in
set_option maxHeartbeats 2000000 in
theorem normTake_any (gq cq cc : Nat) (A : Option Addr) (W0 : World) (qs c : List Int) (m : Nat) (w : World) (hq : (Kd.int .i64).R 3 w W0.heap.size (fun _ => True) (.slice (some ⟨gq, 0, none⟩) 256 cq) qs)
    (hc : (Kd.int .i64).C W0 A 256 c) (hb : Below W0.heap.size W0 w) (hcl : c.length = 256) (hcr : ∀ s, 0 ≤ c.getD s 0 ∧ c.getD s 0 ≤ 1073741824) (hok : TakeOkay c qs m) (hm2 : m ≤ 2000000) (hpos : 0 < m → ∃ s, s < 256 ∧ 0 < c.getD s 0) :
    Calls Tryz.prog 130 #[.slice (some ⟨gq, 0, none⟩) 256 cq, .slice A 256 cc, .int .i64 m] w (TkPost gq cq W0.heap.size (takeIt c m qs) W0) := by
  have HQ := Lib.hid hq
  have HC := Lib.hid (And.intro hc (And.intro hcl hcr))
  have HO := Lib.hid hok
  have HP := Lib.hid hpos
  have HB := Lib.hid hb
  have HI : Hid (TkRel gq cq W0.heap.size W0 qs w.heap.size (.slice none 0 0) [] (w.alloc (.cells #[.slice none 0 0] 156))) := TkRel.start hq hb hb.size
  clear hq hc hb hcl hcr hok hpos
  go_enter Tryz.func130, Tryz.ntmps130
  go_wp2_with fail
  go_loopw [12] (fun kv wr => ∃ (k : Nat) (v : Value), kv = .int .i64 k ∧ k ≤ 256 ∧ Hid (TkRel gq cq W0.heap.size W0 qs w.heap.size v (candT c qs k) wr)) (fun kv _ => 256 - (intOf kv).toNat)
  case atStart => exact ⟨0, _, rfl, by omega, HI⟩
  case round =>
    obtain ⟨k, v, rfl, hk, H⟩ := hrel
    by_cases hlt : k < 256
    · obtain ⟨hqc, -⟩ := ints_cells H.out.q k hlt
      obtain ⟨y, hy⟩ : ∃ y, y = qs.getD k 0 := ⟨_, rfl⟩
      rw [← hy] at hqc
      have hy2 := (HO.out 0 (Nat.zero_le _)).2.1 k
      have hyc := (HO.out 0 (Nat.zero_le _)).2.2 k
      simp only [takeIt] at hy2 hyc
      rw [← hy] at hy2 hyc
      obtain ⟨hy0, hy1⟩ := hy2
      have HY := Lib.hid (And.intro hy hyc)
      clear hy hyc
      by_cases hpos : 0 < y
      · obtain ⟨ad, rfl, hcc⟩ := ints_get HC.out.1 k hlt
        obtain ⟨z, hz⟩ : ∃ z, z = c.getD k 0 := ⟨_, rfl⟩
        obtain ⟨hz0, hz1⟩ := HC.out.2.2 k
        rw [← hz] at hcc hz0 hz1
        have hcw := pw_cell_below H.out.below hcc
        have hcw2 : (wr.alloc (.cells #[.int .i64 k, .int .i64 y, .int .i64 (IntKind.i64.wrap (IntKind.i64.wrap (IntKind.i64.wrap (1073741824 - z) * 256) + (k : Int)))] 158)).cell? (ad.add k) = some (.int .i64 z) := pw_cell_below ((Below.refl _ _).alloc (Nat.le_refl _) _) hcw
        have HZ := Lib.hid hz
        have HE : Hid (IntKind.i64.wrap (IntKind.i64.wrap (IntKind.i64.wrap (1073741824 - z) * 256) + (k : Int)) = (1073741824 - z) * 256 + k) := by
          show _ = _
          rw [i64_in (1073741824 - z) (by omega), i64_in ((1073741824 - z) * 256) (by omega), i64_in ((1073741824 - z) * 256 + (k : Int)) (by omega)]
        clear hz hcc
        have hpc := H.out.h.cell
        have hpf := blk_frozen H.out.h.blk 0
        have hpl := blk_lt H.out.h.blk
        have hpn : ¬ w.heap.size = wr.heap.size := by omega
        have hpn' : ¬ wr.heap.size = w.heap.size := by omega
        have hfr : Hid (∀ k, wr.heap.size ≤ k → k ≠ w.heap.size) := fun k hk e => by omega
        have HL : Hid (((candT c qs k).length + 1) * 24 ≤ 140737488355328) := by show _ ≤ _; have := candT_len c qs k; omega
        have HN : Hid (some w.heap.size ≠ v.ownBlock) := fun e => H.out.h.row.1 _ e.symm rfl
        have HBr : Hid (W0.heap.size ≤ wr.heap.size) := H.out.below.size
        go_wp2_with fail
        go_region_law (first | (refine R_append_drew k3 (w0 := W0) (W := wr) W0.heap.size rfl (.tmp 19) (.tmp 31) 156 158 _ 24 rfl Tryz.underlying156 cinfoKey rfl (by decide) (by decide) v (candT c qs k) ((k : Int), y, IntKind.i64.wrap (IntKind.i64.wrap (IntKind.i64.wrap (1073741824 - z) * 256) + (k : Int))) [.int .i64 k, .int .i64 y, .int .i64 (IntKind.i64.wrap (IntKind.i64.wrap (IntKind.i64.wrap (1073741824 - z) * 256) + (k : Int)))] (fun k => k ≠ w.heap.size) (fun _ => False) rfl rfl (k3_mkM _ _ _ _) (fun _ h => h.elim) hfr.out H.out.h.row H.out.below HBr.out HL.out ?_; intro v1 w1 hr1 hb1 hg1 hat1; have hb2 := blk_grown H.out.h.blk hg1 HN.out; have hc2 : w1.cell? ⟨w.heap.size, 0, none⟩ = some v := (blk_cell hb2 0).trans rfl; have hf2 := blk_frozen hb2 0; have HT := Lib.hid (TkRel.app H.out HBr.out hr1 hg1 hat1); obtain ⟨A1, c1, rfl⟩ := Kd.R_slice hr1; simp only [List.length_append, List.length_singleton] at HT; clear hr1 hb1 hg1 hat1) | fail)
        all_goals
          go_wp2_with fail
          go_roundw
          case rel =>
            refine ⟨k + 1, .slice A1 ((candT c qs k).length + 1) c1, by go_num, by omega, ?_⟩
            rw [candT_succ, if_pos (HY.out.2.1 hpos)]
            unfold claimT
            rw [← HY.out.1, ← HZ.out, ← HE.out]
            exact HT.out
          case measure => simp [intOf]; omega
      · go_wp2_with fail
        go_roundw
        case rel =>
          refine ⟨k + 1, v, by go_num, by omega, ?_⟩
          rw [candT_succ, if_neg (fun h => hpos (HY.out.2.2 h))]
          exact H.out
        case measure => simp [intOf]; omega
    · obtain rfl : k = 256 := by omega
      obtain ⟨A1, c1, rfl⟩ := Kd.R_slice H.out.h.row
      have ta := cassertKey
      go_wp2_with fail
      refine (cinit_any _ H.out.h (by have := candT_len c qs 256; omega)).mono ?_
      rintro e w2 ⟨rfl, ys, h1, h2, h3, h4⟩
      have HI2 : Hid (GvRel gq cq W0.heap.size W0 qs w.heap.size (.slice A1 (candT c qs 256).length c1) ys w2 ∧ ys.Perm (candT c qs 256)) :=
        ⟨GvRel.of_init H.out.q H.out.ne.1 H.out.ne.2 H.out.below H.out.pB H.out.below.size h1 h3 h4, h2⟩
      clear h1 h2 h3 h4 H
      go_wp2_with fail
      go_loopw [37] (fun kv wr => ∃ (k : Nat) (v : Value) (ys : List K3), kv = .int .i64 k ∧ k ≤ m ∧ Hid (GvRel gq cq W0.heap.size W0 (takeIt c k qs) w.heap.size v ys wr ∧ ys.Perm (candT c (takeIt c k qs) 256))) (fun kv _ => m - (intOf kv).toNat)
      case atStart => exact ⟨0, _, ys, rfl, by omega, HI2⟩
      case round =>
        obtain ⟨k, v, ys, rfl, hk, H⟩ := hrel
        by_cases hlt : k < m
        · obtain ⟨hql, hqr, hqi⟩ := HO.out k hk
          have hpos : 0 < ys.length := by
            obtain ⟨s, hs, hsp⟩ := HP.out (by omega)
            exact List.length_pos_of_mem (H.out.2.symm.subset (candT_mem hs hsp))
          obtain ⟨g, cap, rfl, -⟩ := Kd.R_form H.out.1.h.row hpos
          obtain ⟨t, ht⟩ : ∃ t, t = richN (takeIt c k qs) c 256 := ⟨_, rfl⟩
          obtain ⟨ht1, ht2, ht3⟩ := take_root hqi H.out.2 H.out.1.heap hpos
          rw [← ht] at ht1 ht2 ht3
          obtain ⟨n, hn⟩ : ∃ n, ys.length = n + 1 := ⟨ys.length - 1, by omega⟩
          rw [hn] at H
          have hn6 : n ≤ 100000 := by have := H.out.2.length_eq; have := candT_len c (takeIt c k qs) 256; omega
          have HT := Lib.hid (And.intro ht (And.intro ht1 (And.intro ht2 (And.intro ht3 hn))))
          have HBr : Hid (W0.heap.size ≤ wr.heap.size) := H.out.1.below.size
          obtain ⟨hy0, hy1⟩ := hqr t
          have HQL := Lib.hid (And.intro hql hqi)
          have hct := (HC.out.2.2 t)
          clear ht ht2 ht3 hn hpos hqr hql hqi
          go_wp2_with fail
          refine (chpop_any ordC _ H.out.1.h hn6 (fun _ _ => trivial) (by have := H.out.1.heap; rw [HT.out.2.2.2.2] at this; exact this)).mono ?_
          rintro e w3 ⟨rfl, zs, h1, h2, h3, h4⟩
          have H3 : Hid (GvRel gq cq W0.heap.size W0 (takeIt c k qs) w.heap.size (.slice (some ⟨g, 0, none⟩) n cap) zs w3) := GvRel.popped H.out.1 HBr.out h1 h3 h4
          rw [HT.out.2.2.2.1] at h2 ⊢
          have HZ := Lib.hid h2
          clear h1 h2 h3 h4
          obtain ⟨hc3, hf3⟩ := ints_cells H3.out.q t ht1
          obtain ⟨y, hy⟩ : ∃ y, y = (takeIt c k qs).getD t 0 := ⟨_, rfl⟩
          have HY := Lib.hid hy
          simp only [claimT]
          rw [← hy] at hc3 hy0 hy1 ⊢
          obtain ⟨z, hz⟩ : ∃ z, z = (1073741824 - c.getD t 0) * 256 + (t : Int) := ⟨_, rfl⟩
          rw [← hz]
          have HZ2 := Lib.hid hz
          clear hy hz
          have hgl : gq < w3.heap.size := Kd.R_lt H3.out.q gq rfl
          have hg1 : ¬ gq = w3.heap.size := by omega
          have hg2 : ¬ w3.heap.size = gq := by omega
          have ht256 : (t : Int) < 256 := by omega
          go_wp2_with fail
          have H4 : Hid (GvRel gq cq W0.heap.size W0 ((takeIt c k qs).set t (y - 1)) w.heap.size (.slice (some ⟨g, 0, none⟩) n cap) zs ((w3.setCell ⟨gq, t, none⟩ (.int .i64 (y - 1))).alloc (.cells #[.int .i64 t, .int .i64 (y - 1), .int .i64 z] 158))) :=
            (H3.out.put t (y - 1)).alloc (H3.out.put t (y - 1)).below.size _
          have hzl : zs.length = n := by have := HZ.out.length_eq; rw [HT.out.2.2.2.2] at this; simpa using this
          refine (chpush_any ordC ((t : Int), y - 1, z) _ H4.out.h H4.out.below.size (by omega) (fun _ _ => trivial) trivial H4.out.heap).mono ?_
          rintro e w5 ⟨rfl, v', us, h1, h2, h3, h4, h5⟩
          have H5 : Hid (GvRel gq cq W0.heap.size W0 (takeIt c (k + 1) qs) w.heap.size v' us w5 ∧ us.Perm (candT c (takeIt c (k + 1) qs) 256)) := by
            have e := takeIt_succ c k qs
            rw [← HT.out.1, ← HY.out] at e
            refine ⟨by rw [e]; exact H4.out.pushed H4.out.below.size h1 h3 h4 h5, ?_⟩
            rw [e, HY.out]
            refine take_rest HQL.out.1 ht1 HT.out.2.2.1 H.out.2 HZ.out ?_
            rw [← HY.out, ← HZ2.out]
            exact h2
          clear h1 h2 h3 h4 h5
          go_wp2_with fail
          go_roundw
          case rel => exact ⟨k + 1, v', us, by go_num, by omega, H5⟩
          case measure => simp [intOf]; omega
        · have hkm : k = m := by omega
          subst hkm
          go_wp2_with fail
          go_end0
          exact ⟨rfl, H.out.1.q, H.out.1.below⟩
theorem normTake_at (gq cq cc : Nat) (A : Option Addr) (W0 : World) (B : Nat) (hB : B = W0.heap.size) (qs c : List Int) (m : Nat) (w : World) (hq : (Kd.int .i64).R 3 w B (fun _ => True) (.slice (some ⟨gq, 0, none⟩) 256 cq) qs)
    (hc : (Kd.int .i64).C W0 A 256 c) (hb : Below B W0 w) (hcl : c.length = 256) (hcr : ∀ s, 0 ≤ c.getD s 0 ∧ c.getD s 0 ≤ 1073741824) (hok : TakeOkay c qs m) (hm2 : m ≤ 2000000) (hpos : 0 < m → ∃ s, s < 256 ∧ 0 < c.getD s 0) :
    Calls Tryz.prog 130 #[.slice (some ⟨gq, 0, none⟩) 256 cq, .slice A 256 cc, .int .i64 m] w (TkPost gq cq B (takeIt c m qs) W0) := by
  subst hB; exact normTake_any gq cq cc A W0 qs c m w hq hc hb hcl hcr hok hm2 hpos
end Go.Proofs.YtgjghcpaokfniaaGreat
namespace Go.Proofs.YtgjghcpaokfniaaGreat
open Go.RowKit Go.IntWalk Go.Proofs.YtgjghcpaokfniaaGreatW.PrintWords Go.Proofs.YtgjghcpaokfniaaGreatW.PrintLast Go.Proofs.YtgjghcpaokfniaaGreatW.PrintMore
set_option maxRecDepth 100000 in
set_option maxHeartbeats 400000 in
theorem many_any (A : Option Addr) (cp : Nat) (c : List Int) (w : World) (hr : (Kd.int .i64).C w A c.length c) (hR : rightC c = true) :
    Calls Tryz.prog 44 #[.slice A c.length cp] w fun e w' => e = .returned (.int .i64 (manyC c)) ∧ w = w' := by
  have hm := hr.2.1
  have HR := Lib.hid (And.intro hr hR)
  clear hr hR
  go_enter Tryz.func44, Tryz.ntmps44
  go_wp2_with fail
  go_loop [3, 8] (fun mv kv => ∃ (k pc : Nat), mv = .int .i64 pc ∧ kv = .int .i64 k ∧ k ≤ c.length ∧ pc ≤ k ∧ Hid (pc = posC c k)) (fun _ kv => c.length - (intOf kv).toNat)
  case atStart => exact ⟨0, 0, rfl, rfl, by omega, by omega, by show _ = _; simp [posC]⟩
  case round =>
    obtain ⟨k, pc, rfl, rfl, hk, hpc, H⟩ := hrel
    by_cases hlt : k < c.length
    · obtain ⟨ad, rfl, hcell⟩ := ints_get HR.out.1 k hlt
      obtain ⟨x, hx⟩ : ∃ x, x = c.getD k 0 := ⟨_, rfl⟩
      rw [← hx] at hcell
      have HX := Lib.hid hx
      clear hx
      by_cases h0 : 0 < x
      · have HP : Hid (pc + 1 = posC c (k + 1)) := by show _ = _; rw [posC_succ _ _ hlt, ← HX.out, if_pos h0, ← H.out]
        go_wp2_with fail
        refine (histRight_any _ _ _ _ HR.out.1).mono ?_
        rintro e w' ⟨rfl, rfl⟩
        rw [HR.out.2]
        go_wp2_with fail
        go_round
        case rel => exact ⟨k + 1, pc + 1, by go_num, by go_num, by omega, by omega, HP⟩
        case measure => simp [intOf]; omega
      · have HP : Hid (pc = posC c (k + 1)) := by show _ = _; rw [posC_succ _ _ hlt, ← HX.out, if_neg h0, ← H.out]; rfl
        go_wp2_with fail
        go_round
        case rel => exact ⟨k + 1, pc, rfl, by go_num, by omega, by omega, HP⟩
        case measure => simp [intOf]; omega
    · obtain rfl : k = c.length := by omega
      have HE : Hid (pc = manyC c) := by
        show _ = _; rw [H.out]; unfold posC manyC; rw [if_pos HR.out.2, List.take_length]
      go_wp2_with fail
      go_ret
      exact ⟨ret_int (by rw [HE.out]), rfl⟩
set_option maxRecDepth 100000 in
theorem ceil_any (n : Nat) (w : World) (h : n ≤ 1000000) : Calls Tryz.prog 91 #[.int .i64 n] w fun e w' => e = .returned (.int .i64 (ceilI n)) ∧ w = w' := by
  by_cases h2 : n < 2
  · have HE : Hid (ceilI n = 0) := by
      show _ = _
      have : n = 0 ∨ n = 1 := by omega
      rcases this with rfl | rfl <;> rfl
    go_enter Tryz.func91, Tryz.ntmps91
    go_wp2_with fail
    go_ret
    exact ⟨ret_int (by rw [HE.out]; rfl), rfl⟩
  · go_enter Tryz.func91, Tryz.ntmps91
    go_wp2_with fail
    refine (width_any _ _ (by omega)).mono ?_
    rintro e w' ⟨rfl, rfl⟩
    go_wp2_with fail
    go_ret
    exact ⟨rfl, rfl⟩
theorem mx_max (a b : Int) : mx a b = max a b := by unfold mx; split <;> omega
theorem mn_min (a b : Int) : mn a b = min a b := by unfold mn; split <;> omega
set_option maxRecDepth 100000 in
theorem greatest_any (first x y : Int) (A : Option Addr) (cp : Nat) (w : World) (hr : (Kd.int .i64).C w A 2 [x, y]) :
    Calls Tryz.prog 89 #[.int .i64 first, .slice A 2 cp] w fun e w' => e = .returned (.int .i64 (mx (mx first x) y)) ∧ w = w' := by
  obtain ⟨ad, rfl, hc⟩ := ints_at hr (by decide)
  have h0 := hc 0 (by decide)
  have h1 := hc 1 (by decide)
  simp only [List.getD_cons_zero, List.getD_cons_succ] at h0 h1
  rw [show ad.add 0 = ad from rfl] at h0
  clear hc hr
  have h2 : w.cell? ⟨ad.block, ad.off + 1, none⟩ = some (.int .i64 y) := by rw [← h1]; simp [Addr.add]
  clear h1
  go_enter Tryz.func89, Tryz.ntmps89
  go_wp2_with fail
  go_loop [0, 9] (fun mv kv => (mv = .int .i64 first ∧ kv = .int .i64 0) ∨ (mv = .int .i64 (max first x) ∧ kv = .int .i64 1) ∨ (mv = .int .i64 (max (max first x) y) ∧ kv = .int .i64 2)) (fun _ kv => 2 - (intOf kv).toNat)
  case atStart => exact .inl ⟨rfl, rfl⟩
  case round =>
    rcases hrel with ⟨rfl, rfl⟩ | ⟨rfl, rfl⟩ | ⟨rfl, rfl⟩
    · go_wp2_with fail
      go_round
      case rel => exact .inr (.inl ⟨rfl, rfl⟩)
      case measure => simp [intOf]
    · go_wp2_with fail
      go_round
      case rel => exact .inr (.inr ⟨by rw [Int.max_assoc], rfl⟩)
      case measure => simp [intOf]
    · go_wp2_with fail
      go_ret
      exact ⟨ret_int (by rw [mx_max, mx_max, Int.max_assoc]), rfl⟩
theorem two_row {W : World} (x y : Int) {ok : Nat → Prop} (hok : ok W.heap.size) (base : Nat) (hb : base ≤ W.heap.size) : (Kd.int .i64).R 3 (W.alloc (.cells #[.int .i64 x, .int .i64 y] 3)) base ok (.slice (some ⟨W.heap.size, 0, none⟩) 2 2) [x, y] := by
  refine ⟨fun k hk => by cases hk; exact hok, [.int .i64 x, .int .i64 y], ⟨rfl, .inr ⟨W.heap.size, 2, #[.int .i64 x, .int .i64 y], by simp, hb, blk_new W _, by simp, by unfold maxLen; omega, rfl, rfl⟩⟩, ?_⟩
  refine Reps.snoc (ps := [x]) (cs := [.int .i64 x]) (p := y) (c := [.int .i64 y]) (Reps.snoc (ps := []) (cs := []) (p := x) (c := [.int .i64 x]) (Reps.none _ _) ?_ rfl) ?_ rfl
  · rfl
  · rfl
set_option maxRecDepth 100000 in
theorem pick_any (n m : Nat) (most : Int) (w : World) (hn : n ≤ 1000000) (hm : m ≤ 1000000) :
    Calls Tryz.prog 43 #[.int .i64 n, .int .i64 m, .int .i64 most] w fun e w' => e = .returned (.int .i64 (pickI n m most)) ∧ Below w.heap.size w w' := by
  have hf := floorI_le n (by omega)
  obtain ⟨f, hf1⟩ : ∃ f, f = floorI (n : Int) := ⟨_, rfl⟩
  rw [← hf1] at hf
  have H := Lib.hid hf1
  clear hf1
  have HC : Hid (∀ W : World, (Kd.int .i64).C (W.alloc (.cells #[.int .i64 5, .int .i64 (ceilI m)] 3)) (some ⟨W.heap.size, 0, none⟩) 2 [5, (ceilI m : Int)]) := fun W => by
    have := two_row (W := W) 5 (ceilI m : Int) (ok := fun _ => True) trivial W.heap.size (Nat.le_refl _)
    exact (Kd.R_reads' this).2.2
  go_enter Tryz.func43, Tryz.ntmps43
  go_wp2_with fail
  refine (floor_any _ _ (by omega)).mono ?_
  rintro e w' ⟨rfl, rfl⟩
  rw [← H.out]
  go_wp2_with fail
  refine (ceil_any _ _ hm).mono ?_
  rintro e w' ⟨rfl, rfl⟩
  go_wp2_with fail
  refine (greatest_any _ _ _ _ _ _ (HC.out _)).mono ?_
  rintro e w' ⟨rfl, rfl⟩
  go_wp2_with fail
  go_ret
  refine ⟨ret_int ?_, (Below.refl _ _).alloc (Nat.le_refl _) _⟩
  unfold pickI
  rw [← H.out, mn_min]
end Go.Proofs.YtgjghcpaokfniaaGreat
namespace Go.Proofs.YtgjghcpaokfniaaGreat
open Go.RowKit Go.IntWalk Go.Proofs.YtgjghcpaokfniaaGreatW.PrintWords
open HeapL
/-- what holds behind the first k symbols -/
structure CnRel (N : Nat) (w0 : World) (c : List Int) (P n : Int) (k : Nat) (v : Value) (S : Int) (w : World) : Prop where
  q : (Kd.int .i64).R 3 w N (fun _ => True) (.slice (some ⟨N, 0, none⟩) 256 256) (qTo c P n k)
  l : k3.R 158 w N (fun b => b ≠ N) v (candN (restL c P n) (hadL c P n) k)
  below : Below N w0 w
  sum : S = (qTo c P n k).sum
  rng : 0 ≤ S ∧ S ≤ 4096 * k
theorem hadL_get (c : List Int) (P n : Int) {k : Nat} (hk : k < 256) : (hadL c P n).getD k false = decide (c.getD k 0 * P / n = 0) := by
  unfold hadL; rw [List.getD_eq_getElem?_getD, List.getElem?_map, List.getElem?_range hk]; rfl
theorem qTo_succ (c : List Int) (P n : Int) {k : Nat} (hk : k < 256) : qTo c P n (k + 1) = (qTo c P n k).set k (q0F c P n k) := (mapR_to (q0F c P n) hk).symm
theorem qTo_at (c : List Int) (P n : Int) {k : Nat} (hk : k < 256) : (qTo c P n k).getD k 0 = 0 := by unfold qTo; rw [mapR_get _ hk, if_neg (by omega)]
theorem qTo_sum (c : List Int) (P n : Int) {k : Nat} (hk : k < 256) : (qTo c P n (k + 1)).sum = (qTo c P n k).sum + q0F c P n k := by
  rw [qTo_succ c P n hk, sum_set _ _ _ (by unfold qTo; rw [mapR_len]; exact hk)]
  have : (qTo c P n k).getD k 0 = 0 := by unfold qTo; rw [mapR_get _ hk, if_neg (by omega)]
  omega
theorem CnRel.next {N : Nat} {w0 wr wr' : World} {c : List Int} {P n : Int} {k : Nat} {v v' : Value} {S y : Int} (H : CnRel N w0 c P n k v S wr) (hk : k < 256) (hq : (Kd.int .i64).R 3 wr' N (fun _ => True) (.slice (some ⟨N, 0, none⟩) 256 256) ((qTo c P n k).set k y))
    (hl : k3.R 158 wr' N (fun b => b ≠ N) v' (candN (restL c P n) (hadL c P n) (k + 1))) (hb : Below N w0 wr') (hy : y = q0F c P n k) (hy2 : 0 ≤ y ∧ y ≤ 4096) : CnRel N w0 c P n (k + 1) v' (S + y) wr' := by
  have hs := H.sum; have hr := H.rng
  refine ⟨by rw [qTo_succ c P n hk, ← hy]; exact hq, hl, hb, by rw [qTo_sum c P n hk, ← hy, hs], by omega, by omega⟩
theorem CnRel.far {N : Nat} {w0 wr : World} {c : List Int} {P n : Int} {k : Nat} {v : Value} {S : Int} (H : CnRel N w0 c P n k v S wr) (j : Nat) (y : Int) :
    (Kd.int .i64).R 3 (wr.setCell ⟨N, j, none⟩ (.int .i64 y)) N (fun _ => True) (.slice (some ⟨N, 0, none⟩) 256 256) ((qTo c P n k).set j y) ∧ k3.R 158 (wr.setCell ⟨N, j, none⟩ (.int .i64 y)) N (fun b => b ≠ N) v (candN (restL c P n) (hadL c P n) k) ∧ Below N w0 (wr.setCell ⟨N, j, none⟩ (.int .i64 y)) := by
  have := Kd.R_putn H.q (j : Int) y
  rw [Int.toNat_natCast] at this
  exact ⟨this, Kd.R_far (p := ⟨N, j, none⟩) H.l (fun k hk => hk) _, H.below.setCell (Nat.le_refl _) _⟩
theorem sum_zero : ∀ {l : List Int}, (∀ x ∈ l, x = 0) → l.sum = 0
  | [], _ => rfl
  | a :: l, h => by rw [List.sum_cons, h a (by simp), sum_zero (fun x hx => h x (by simp [hx]))]; rfl
theorem can_some {c : List Int} {r : Nat} (h : Can c r) : ∃ s, s < 256 ∧ 0 < c.getD s 0 := by
  refine Classical.byContradiction fun hn => ?_
  have : c.sum = 0 := sum_zero (fun x hx => by
    obtain ⟨s, hs, rfl⟩ := List.getElem_of_mem hx
    have h1 := h.nonneg _ hx
    have h2 : ¬ 0 < c.getD s 0 := fun hp => hn ⟨s, by have := h.len; omega, hp⟩
    rw [List.getD_eq_getElem?_getD, List.getElem?_eq_getElem hs] at h2
    simp only [Option.getD_some] at h2
    omega)
  have := h.pos
  omega
set_option maxRecDepth 100000 in
set_option maxHeartbeats 2000000 in
theorem counts_any (A : Option Addr) (cp : Nat) (c : List Int) (r : Nat) (w : World) (hr : (Kd.int .i64).C w A 256 c) (h : Can c r) :
    Calls Tryz.prog 88 #[.slice A 256 cp, .int .i64 r] w (CountsPost c r w) := by
  have HR := Lib.hid hr
  have HC := Lib.hid h
  have hR : rightC c = true := rightC_iff.2 ⟨h.len, h.nonneg, h.le⟩
  have hT : totalC c = c.sum := by unfold totalC; rw [if_pos hR]
  have hM : manyC c ≤ 2 ^ r := by unfold manyC; rw [if_pos hR]; exact h.many
  obtain ⟨n, hn⟩ : ∃ n : Nat, c.sum = n := ⟨c.sum.toNat, by have := h.pos; omega⟩
  have hr' : (Kd.int .i64).C w A c.length c := by rw [h.len]; exact hr
  have HTot := Lib.hid (total_any A cp c w hr')
  rw [hT, hn, h.len] at HTot
  obtain ⟨P, hP⟩ : ∃ P : Nat, 2 ^ r = P := ⟨_, rfl⟩
  have hPI : (2 : Int) ^ r = (P : Int) := by rw [← hP]; simp
  have hPb : 1 ≤ P ∧ P ≤ 4096 := by have := pow_le12 h.r12; rw [hPI] at this; omega
  have HM2 : Hid (∀ W, Below w.heap.size w W → Calls Tryz.prog 44 #[.slice A 256 cp] W fun e w' => e = .returned (.int .i64 (manyC c)) ∧ W = w') := fun W hb => by
    have := many_any A cp c W (Kd.C_below hr' hb) hR
    rw [h.len] at this; exact this
  have HN : Hid (c.sum = n ∧ 2 ^ r = P ∧ (2 : Int) ^ r = (P : Int) ∧ manyC c ≤ P) := ⟨hn, hP, hPI, by omega⟩
  have hn0 : ((n : Int) == 0) = false := by have := h.pos; simp; omega
  have hn1 : 1 ≤ n ∧ n ≤ 1073741824 := by have := h.pos; have := h.le; omega
  have hr1 : decide ((r : Int) < 1) = false := decide_eq_false (by have := h.r1; omega)
  have hr2 : decide (12 < (r : Int)) = false := decide_eq_false (by have := h.r12; omega)
  have hr0 : (0 : Int) ≤ r := by omega
  have hr12 : (r : Int) ≤ 12 := by have := h.r12; omega
  have hw1 : IntKind.i64.wrap (2 ^ r) = (P : Int) := by rw [hPI]; exact i64_in _ (by omega)
  have hmp : decide (P < manyC c) = false := decide_eq_false (by have := HN.out.2.2.2; omega)
  clear hr hr' h hR hT hM hn hP hPI
  have hmi : ∀ w : World, (Instr.makeSlice 42 (.int .i64 256) (.int .i64 256)).run Tryz.prog w = .ok (.slice (some ⟨w.heap.size, 0, none⟩) 256 256) (w.alloc (.cells (madeCells #[.int .i64 0] 256) 3)) := fun w => made_i64 256 (by omega) w
  go_enter Tryz.func88, Tryz.ntmps88
  go_wp2_with fail
  refine HTot.out.mono ?_
  rintro e w1 ⟨rfl, rfl⟩
  go_wp2_with fail
  go_quiet ((go_at_call 44; refine Calls.quiet_of_same ((HM2.out _ (pw_below_drewN (Below.refl _ _) _)).mono fun e w' h => ⟨h.1, h.2.symm⟩)))
  have HB0 : Hid (Below w.heap.size w (w.drewN nq)) := pw_below_drewN (Below.refl _ _) _
  obtain ⟨w1, hw1'⟩ : ∃ w1, w1 = w.drewN nq := ⟨_, rfl⟩
  rw [← hw1'] at HB0 ⊢
  clear hw1'
  obtain ⟨N, hNs⟩ : ∃ N, N = w1.heap.size := ⟨_, rfl⟩
  have HNs := Lib.hid hNs
  have HI : Hid (CnRel N w1 c P n 0 (.slice none 0 0) 0 (w1.alloc (.cells (madeCells #[.int .i64 0] 256) 3))) := by
    refine ⟨?_, ?_, ?_, ?_, by omega⟩
    · rw [(to_zero c P n).1, hNs]; exact arr_row 256 3 w1 _ trivial _ (Nat.le_refl _) (by omega)
    · exact Kd.R_nil _ _ _ _ _
    · rw [hNs]; exact (Below.refl _ _).alloc (Nat.le_refl _) _
    · rw [(to_zero c P n).1]; decide
  go_wp2_with fail
  rw [← hNs]
  obtain ⟨W, hW⟩ : ∃ W, W = w1.alloc (.cells (madeCells #[.int .i64 0] 256) 3) := ⟨_, rfl⟩
  rw [← hW] at HI ⊢
  clear hW hNs hmi hmp
  go_loopw [8, 9, 34] (fun lv sv kv wr => ∃ (k : Nat) (S : Int), sv = .int .i64 S ∧ kv = .int .i64 k ∧ k ≤ 256 ∧ 0 ≤ S ∧ S ≤ 4096 * k ∧ Hid (CnRel N w1 c P n k lv S wr)) (fun _ _ kv _ => 256 - (intOf kv).toNat)
  case atStart => exact ⟨0, 0, rfl, rfl, by omega, by omega, by omega, HI⟩
  case round =>
    obtain ⟨k, S, rfl, rfl, hk, hS0, hS1, H⟩ := hrel
    by_cases hlt : k < 256
    · have hC := Kd.C_below HR.out (HB0.out.trans (H.out.below.mono (by have := HB0.out.size; have := HNs.out; omega)))
      obtain ⟨ad, rfl, hcx⟩ := ints_get hC k (by omega)
      have hcg := HC.out.get k
      have hq0 := HC.out.q0 k
      rw [HN.out.2.2.1, HN.out.1] at hq0
      obtain ⟨x, hx⟩ : ∃ x : Nat, c.getD k 0 = x := ⟨(c.getD k 0).toNat, by omega⟩
      rw [hx] at hcx hcg
      obtain ⟨hq1, hq2⟩ := ints_cells H.out.q k hlt
      rw [qTo_at c P n hlt] at hq1
      obtain ⟨m, hm⟩ : ∃ m : Nat, m = x * P := ⟨_, rfl⟩
      have hxn : x ≤ n := by have := HN.out.1; omega
      have hm42 : m ≤ 4398046511104 := by
        rw [hm]
        calc x * P ≤ 1073741824 * 4096 := Nat.mul_le_mul (by omega) (by omega)
          _ = 4398046511104 := by decide
      have hmI : (x : Int) * (P : Int) = (m : Int) := by rw [hm]; simp
      have hmR : (x : Int) * 2 ^ r = (m : Int) := by rw [HN.out.2.2.1]; exact hmI
      have hdq : (m : Int) / (n : Int) = ((m / n : Nat) : Int) := by simp
      have hrm : (m : Int) % (n : Int) = ((m % n : Nat) : Int) := by simp
      obtain ⟨dq, hdqe⟩ : ∃ dq, dq = m / n := ⟨_, rfl⟩
      obtain ⟨rm, hrme⟩ : ∃ rm, rm = m % n := ⟨_, rfl⟩
      rw [← hdqe] at hdq
      rw [← hrme] at hrm
      have hdb : dq ≤ 4398046511104 := by rw [hdqe]; exact Nat.le_trans (Nat.div_le_self _ _) hm42
      have hn00 : ¬ (n : Int) = 0 := by omega
      have HX := Lib.hid (And.intro hx (And.intro hm (And.intro hdqe (And.intro hrme hq0))))
      have hwm : IntKind.i64.wrap ((x : Int) * 2 ^ r) = (m : Int) := by rw [hmR]; exact i64_in _ (by omega)
      clear hx hm hdqe hrme hC hmR hq0
      obtain ⟨A1, c1, rfl⟩ := Kd.R_slice H.out.l
      have HL0 := Lib.hid (H.out.far k (dq : Int))
      have HQF : Hid (q0F c P n k = if dq = 0 then min (x : Int) 1 else dq) := by
        show _ = _
        unfold q0F
        rw [HX.out.1, hmI, hdq]
        by_cases e : dq = 0
        · rw [if_pos e, if_pos (by omega)]
        · rw [if_neg e, if_neg (by omega)]
      have HHD : Hid ((hadL c P n).getD k false = decide (dq = 0)) := by
        show _ = _
        rw [hadL_get c P n hlt, HX.out.1, hmI, hdq]
        by_cases e : dq = 0
        · rw [decide_eq_true (by omega), decide_eq_true e]
        · rw [decide_eq_false (by omega), decide_eq_false e]
      by_cases hz : 0 < dq
      · have hdq4 : dq ≤ 4096 := by
          have := HX.out.2.2.2.2.2.1
          rw [HQF.out, if_neg (by omega)] at this; omega
        have HSz : Hid (N ≤ (wr.setCell ⟨N, k, none⟩ (.int .i64 (dq : Int))).heap.size) := by show _ ≤ _; have := Kd.R_lt HL0.out.1 N rfl; omega
        have HLn : Hid (((candN (restL c P n) (hadL c P n) k).length + 1) * 24 ≤ 140737488355328) := by show _ ≤ _; have := candN_len (restL c P n) (hadL c P n) k; omega
        have HFr : Hid (∀ j, (wr.setCell ⟨N, k, none⟩ (.int .i64 (dq : Int))).heap.size ≤ j → j ≠ N) := fun j hj e => by have := Kd.R_lt HL0.out.1 N rfl; omega
        have HNe : Hid ((Value.slice A1 (candN (restL c P n) (hadL c P n) k).length c1).ownBlock ≠ some N) := fun e => HL0.out.2.1.1 N e rfl
        have hqg : ((qTo c P n k).set k (dq : Int)).getD k 0 = (dq : Int) := by rw [getD_set _ _ _ _ (by unfold qTo; rw [mapR_len]; omega), if_pos rfl]
        obtain ⟨L, hL⟩ : ∃ L, L = candN (restL c P n) (hadL c P n) k := ⟨_, rfl⟩
        obtain ⟨Q, hQ⟩ : ∃ Q, Q = (qTo c P n k).set k (dq : Int) := ⟨_, rfl⟩
        rw [← hL] at HLn HNe
        have HL1 : Hid (k3.R 158 (wr.setCell ⟨N, k, none⟩ (.int .i64 (dq : Int))) N (fun b => b ≠ N) (.slice A1 L.length c1) L) := by rw [hL]; exact HL0.out.2.1
        have HQ1 : Hid ((Kd.int .i64).R 3 (wr.setCell ⟨N, k, none⟩ (.int .i64 (dq : Int))) N (fun _ => True) (.slice (some ⟨N, 0, none⟩) 256 256) Q) := by rw [hQ]; exact HL0.out.1
        rw [← hQ] at hqg
        have HQG := Lib.hid (And.intro hqg (And.intro hL hQ))
        have HB1 := Lib.hid HL0.out.2.2
        have HH := Lib.hid H.out
        rw [← hL]
        clear hqg hL hQ HL0 H
        go_wp2_with (at_builtin; refine Kd.R_append k3 (w0 := w1) (W := wr.setCell ⟨N, k, none⟩ (.int .i64 (dq : Int))) N rfl (.tmp 53) (.tmp 61) 156 158 _ 24 rfl Tryz.underlying156 cinfoKey rfl (by decide) (by decide) (.slice A1 L.length c1) L ((k : Int), (rm : Int), 0) [.int .i64 k, .int .i64 rm, .int .i64 0] (fun b => b ≠ N) (fun _ => False) rfl (by simp [go_sem]) (k3_mkM _ _ _ _) (fun _ h => h.elim) HFr.out HL1.out HB1.out HSz.out HLn.out ?_; intro v2 w2 hr2 hb2 hg2 hat2; have HQ2 := Lib.hid (Kd.R_grown1 HQ1.out rfl hg2 HNe.out); have hq5 := (ints_cells HQ2.out k hlt).1; rw [HQG.out.1] at hq5; have HR2 := Lib.hid hr2; have HB2 := Lib.hid hb2; clear hr2 hb2 hg2 hat2)
        go_roundw
        case rel =>
          refine ⟨k + 1, S + dq, rfl, by go_num, by omega, by omega, by omega, ?_⟩
          have hq2 := HQ2.out
          rw [HQG.out.2.2] at hq2
          refine HH.out.next hlt hq2 ?_ HB2.out (by rw [HQF.out, if_neg (by omega)]) (by omega)
          rw [candN_succ, if_pos (by rw [HHD.out]; exact decide_eq_false (by omega))]
          have e : claimN (restL c P n) k = ((k : Int), (rm : Int), 0) := by
            unfold claimN restL
            rw [mapR_get _ hlt, HX.out.1, hmI, hrm]
          rw [e, ← HQG.out.2.1]; exact HR2.out
        case measure => simp [intOf]; omega
      · have hz0 : dq = 0 := by omega
        subst hz0
        by_cases hx0 : 0 < x
        · go_wp2_with fail
          go_roundw
          case rel =>
            refine ⟨k + 1, S + 1, by go_num, by go_num, by omega, by omega, by omega, ?_⟩
            have hqq := Kd.R_putn HL0.out.1 (k : Int) (1 : Int)
            rw [Int.toNat_natCast, set_set_same] at hqq
            refine H.out.next hlt hqq ?_ (HL0.out.2.2.setCell (Nat.le_refl _) _) (by rw [HQF.out, if_pos rfl]; omega) (by omega)
            rw [candN_succ, if_neg (by rw [HHD.out]; simp)]
            exact Kd.R_far (p := ⟨N, k, none⟩) HL0.out.2.1 (fun k hk => hk) _
          case measure => simp [intOf]; omega
        · go_wp2_with fail
          go_roundw
          case rel =>
            refine ⟨k + 1, S + 0, by go_num, by go_num, by omega, by omega, by omega, ?_⟩
            refine H.out.next hlt HL0.out.1 ?_ HL0.out.2.2 (by rw [HQF.out, if_pos rfl]; omega) (by omega)
            rw [candN_succ, if_neg (by rw [HHD.out]; simp)]
            exact HL0.out.2.1
          case measure => simp [intOf]; omega
    · obtain rfl : k = 256 := by omega
      obtain ⟨A1, c1, rfl⟩ := Kd.R_slice H.out.l
      have HQ0 : Hid ((Kd.int .i64).R 3 wr N (fun _ => True) (.slice (some ⟨N, 0, none⟩) 256 256) (q0L c P n)) := by rw [← (to_all c P n).1]; exact H.out.q
      have HS : Hid (S = (q0L c P n).sum) := by rw [← (to_all c P n).1]; exact H.out.sum
      have HPP : Hid ((P : Int) = 2 ^ r ∧ (n : Int) = c.sum) := ⟨HN.out.2.2.1.symm, HN.out.1.symm⟩
      have HB1 := Lib.hid H.out.below
      have HL1 := Lib.hid H.out.l
      obtain ⟨M, hM⟩ : ∃ M : Nat, M = giveM c (2 ^ r) c.sum := ⟨_, rfl⟩
      have hMv : max (0 : Int) ((P : Int) - S) = (M : Int) := by
        rw [hM]; unfold giveM; rw [← HPP.out.1, ← HPP.out.2, ← HS.out]; omega
      have hM4 : M ≤ 4096 := by omega
      obtain ⟨T, hT⟩ : ∃ T : Nat, T = (S - P).toNat := ⟨_, rfl⟩
      have hTv : max (0 : Int) (S - (P : Int)) = (T : Int) := by rw [hT]; omega
      have HMT := Lib.hid (And.intro hM hT)
      have hTb : T ≤ 2000000 := by omega
      obtain ⟨L, hL⟩ : ∃ L, L = candN (restL c P n) (hadL c P n) 256 := ⟨_, rfl⟩
      rw [← hL]
      have HLE := Lib.hid hL
      clear hM hT hL H
      go_wp2_with fail
      have hgw0 := give_way HC.out 0 (Nat.zero_le _)
      have hen := HC.out.enough
      rw [← HPP.out.1, ← HPP.out.2] at hgw0 hen
      refine (give_any N 256 N (q0L c P n) (.slice A1 L.length c1) (restL c P n) (hadL c P n) M wr HQ0.out (by rw [HLE.out]; exact HL1.out) (by have := Kd.R_lt HQ0.out N rfl; omega) (mapR_len _) (by simp [hadL])
        (fun s => ⟨(hgw0.2.2.1 s).1, by have := (hgw0.2.2.1 s).2; simp only [giveIt] at this; omega⟩) (by rw [← HS.out] at hen; omega) hM4).mono ?_
      clear hgw0 hen
      rintro e w3 ⟨rfl, hq3, hb3⟩
      obtain ⟨G, hG⟩ : ∃ G, G = (giveIt (restL c P n) M (q0L c P n, hadL c P n)).1 := ⟨_, rfl⟩
      rw [← hG] at hq3
      have H3 := Lib.hid (And.intro hq3 (And.intro hb3 hG))
      clear hq3 hb3 hG hMv
      go_wp2_with fail
      have hge := give_end HC.out
      have hgw := (give_way HC.out M (by rw [← HMT.out.1]; exact Nat.le_refl _)).2.2.2.2.1
      rw [← HMT.out.1, ← HPP.out.1, ← HPP.out.2, ← H3.out.2.2] at hge
      rw [← HPP.out.1, ← HPP.out.2, ← H3.out.2.2, ← HS.out] at hgw
      have hTe : (G.sum - 2 ^ r).toNat = T := by
        rw [← HPP.out.1, hgw]
        have h1 : M = ((P : Int) - S).toNat := by
          have := HMT.out.1; unfold giveM at this; rw [← HPP.out.1, ← HPP.out.2, ← HS.out] at this; exact this
        have h2 := HMT.out.2
        omega
      have HT2 : Hid (TakeOkay c G T) := fun k hk => by
        have := (take_way HC.out hge.1 k (by rw [hTe]; exact hk)).1
        exact ⟨this.len, this.rng, this.iff⟩
      have HNL : Hid (takeIt c T G = normL c r) := by
        show _ = _
        unfold normL
        simp only []
        rw [← HMT.out.1, ← HPP.out.1, ← HPP.out.2, ← H3.out.2.2, HPP.out.1, hTe]
      have HB3 : Hid (Below N w1 w3) := HB1.out.trans H3.out.2.1
      have hcs := HC.out.le
      clear hge hgw
      refine (normTake_at N 256 cp A w1 N HNs.out G c T w3 H3.out.1 (Kd.C_below HR.out HB0.out) HB3.out HC.out.len (fun s => ⟨(HC.out.get s).1, by have := (HC.out.get s).2; omega⟩) HT2.out hTb (fun _ => can_some HC.out)).mono ?_
      rintro e w4 ⟨rfl, hq4, hb4⟩
      have H4 := Lib.hid (And.intro hq4 hb4)
      clear hq4 hb4 hTe
      go_wp2_with fail
      go_ret2
      have hNl : w.heap.size ≤ N := by rw [HNs.out]; exact HB0.out.size
      refine ⟨_, rfl, ?_, HB0.out.trans (H4.out.2.mono hNl)⟩
      rw [← HNL.out]
      exact Kd.R_lower H4.out.1 hNl
end Go.Proofs.YtgjghcpaokfniaaGreat
namespace Go.Proofs.YtgjghcpaokfniaaGreat
open Go.RowKit Go.IntWalk Go.Proofs.YtgjghcpaokfniaaGreatW.PrintWords
def ofR (b : List Int) (one : Bool) : Nat := if one then zeroR b else firstR b
def ofQ (b : List Int) (one : Bool) : List (List Int) := if one then [zeroQ b] else firstL b
theorem ofM_end {w W1 wr : World} {lg : Int} {one : Bool} {qs : List (List Int)} {v : Value} (hb : Below w.heap.size w W1) (hlt : w.heap.size < W1.heap.size) (hk : W1.heap[w.heap.size]? = some (.cells #[.int .i64 0, .bool false, .slice none 0 0] 31 (0, 0))) (hv : kq.R 42 wr W1.heap.size (fun _ => True) v qs) (hw : Below W1.heap.size W1 wr) :
    (((wr.setCell ⟨w.heap.size, 0, none⟩ (.int .i64 lg)).setCell ⟨w.heap.size, 1, none⟩ (.bool one)).setCell ⟨w.heap.size, 2, none⟩ v).heap[w.heap.size]? = some (.cells #[.int .i64 lg, .bool one, v] 31 (0, 0)) ∧
    MadeM lg one qs w (.returned (.agg #[.int .i64 lg, .bool one, v])) (((wr.setCell ⟨w.heap.size, 0, none⟩ (.int .i64 lg)).setCell ⟨w.heap.size, 1, none⟩ (.bool one)).setCell ⟨w.heap.size, 2, none⟩ v) := by
  refine ⟨blk_set3 (blk_below hk hw) _ _ _, _, rfl, ?_, ?_⟩
  · have h1 : kq.R 42 wr w.heap.size (fun k => k ≠ w.heap.size) v qs :=
      Kd.R_mono (Kd.R_lower (Kd.R_bound hv) (Nat.le_of_lt hlt)) (fun k hk => by have := hk.2.1; omega)
    exact Kd.R_mono (R_far3 h1 _ _ _) (fun _ _ => trivial)
  · exact (((hb.trans (hw.mono hb.size)).setCell (Nat.le_refl _) _).setCell (Nat.le_refl _) _).setCell (Nat.le_refl _) _
theorem of_can {b : List Int} {one : Bool} (hb : Bytes b) (hl : b.length ≤ 131072) (h0 : 0 < b.length) : canM (ofR b one) one (ofQ b one) b = true := by
  unfold canM
  rw [decide_eq_true hl, Bool.true_and]
  cases one with
  | true => exact zero_fits hb (by omega) h0
  | false => exact first_fits hb (by omega)
end Go.Proofs.YtgjghcpaokfniaaGreat
namespace Go.Proofs.YtgjghcpaokfniaaGreat
open Go.RowKit Go.IntWalk Go.Proofs.YtgjghcpaokfniaaGreatW.PrintWords
set_option maxRecDepth 100000 in
theorem zero1_any (i : Int) (p : Nat) (v : Value) (w : World) (h : w.cell? ⟨p, 0, none⟩ = some v) :
    Calls Tryz.prog 45 #[.int .i64 i, .pointer (some ⟨p, 0, none⟩)] w fun e w' => e = .returned v ∧ w = w' := by
  go_enter Tryz.func45, Tryz.ntmps45
  go_wp2_with fail
  go_ret
  exact ⟨rfl, rfl⟩
set_option maxRecDepth 100000 in
set_option maxHeartbeats 2000000 in
theorem made1_any (p ch r : Nat) (Ah : Option Addr) (h : List Int) (w : World) (hp : w.heap[p]? = some (.cells #[.slice Ah 256 ch] 42 (0, 0))) (hv : (Kd.int .i64).C w Ah 256 h) (hc : Can h r) (hm : 0 < manyC h) :
    Calls Tryz.prog 42 #[.int .i64 r, .int .i64 1, .func (Fn.func 45) #[] #[.pointer (some ⟨p, 0, none⟩)]] w (MadeM r true [normL h r] w) := by
  obtain ⟨W2, hW2⟩ : ∃ W2, W2 = (w.alloc (.cells #[.int .i64 0, .bool false, .slice none 0 0] 31)).alloc (.cells #[.int .i64 r, .bool true, .slice none 0 0] 31) := ⟨_, rfl⟩
  have hb2 : Below w.heap.size w W2 := by rw [hW2]; exact ((Below.refl w.heap.size w).alloc (Nat.le_refl _) _).alloc (by simp) _
  have hs2 : W2.heap.size = w.heap.size + 2 := by rw [hW2]; simp
  have hm1 : W2.heap[w.heap.size + 1]? = some (.cells #[.int .i64 r, .bool true, .slice none 0 0] 31 (0, 0)) := by rw [hW2]; exact blk_new1 _ _ _
  have hm0 : W2.heap[w.heap.size]? = some (.cells #[.int .i64 0, .bool false, .slice none 0 0] 31 (0, 0)) := by rw [hW2]; exact blk_alloc (blk_new _ _) _
  have HP2 := Lib.hid (blk_below hp hb2)
  have HV2 := Lib.hid (Kd.C_below hv hb2)
  have H2 := Lib.hid (And.intro hb2 (And.intro hs2 (And.intro hm1 hm0)))
  have HC := Lib.hid (And.intro hc hm)
  clear hp hv hb2 hs2 hm1 hm0 hc hm
  go_enter Tryz.func42, Tryz.ntmps42
  go_wp2_with fail
  rw [← hW2]
  clear hW2
  obtain ⟨m0, hm0⟩ : ∃ m0, m0 = w.heap.size := ⟨_, rfl⟩
  have HM0 := Lib.hid hm0
  rw [← hm0] at H2 ⊢
  clear hm0
  obtain ⟨m1, hm1⟩ : ∃ m1, m1 = m0 + 1 := ⟨_, rfl⟩
  have HM1 := Lib.hid hm1
  rw [← hm1] at H2 ⊢
  clear hm1
  go_loopw [16] (fun kv wr => (kv = .int .i64 0 ∧ wr = W2) ∨ (kv = .int .i64 1 ∧ Hid (∃ A1 c1, wr.heap[m1]? = some (.cells #[.int .i64 r, .bool true, .slice A1 1 c1] 31 (0, 0)) ∧ wr.heap[m0]? = some (.cells #[.int .i64 0, .bool false, .slice none 0 0] 31 (0, 0)) ∧ kq.R 42 wr W2.heap.size (fun _ => True) (.slice A1 1 c1) [normL h r] ∧ Below m0 w wr))) (fun kv _ => 1 - (intOf kv).toNat)
  case atStart => exact .inl ⟨rfl, rfl⟩
  case round =>
    rcases hrel with ⟨rfl, rfl⟩ | ⟨rfl, H⟩
    · have hpc : wr.cell? ⟨p, 0, none⟩ = some (.slice Ah 256 ch) := (blk_cell HP2.out 0).trans rfl
      go_wp2_with fail
      refine (zero1_any 0 p (.slice Ah 256 ch) wr hpc).mono ?_
      rintro e w' ⟨rfl, rfl⟩
      go_wp2_with fail
      have hmany := many_any Ah ch h wr (by rw [HC.out.1.len]; exact HV2.out) (rightC_iff.2 ⟨HC.out.1.len, HC.out.1.nonneg, HC.out.1.le⟩)
      rw [HC.out.1.len] at hmany
      refine hmany.mono ?_
      rintro e w' ⟨rfl, rfl⟩
      have hmp : 0 < manyC h := HC.out.2
      clear hmany
      go_wp2_with fail
      refine (counts_any Ah ch h r wr HV2.out HC.out.1).mono ?_
      rintro e w5 ⟨vq, rfl, hq, hb5⟩
      obtain ⟨Aq, cq, rfl⟩ := Kd.R_slice hq
      obtain ⟨ql, hql⟩ : ∃ ql, ql = (normL h r).length := ⟨_, rfl⟩
      have HQ := Lib.hid hq
      rw [← hql] at HQ ⊢
      have HB5 := Lib.hid hb5
      have h15 : w5.heap[m1]? = some (.cells #[.int .i64 r, .bool true, .slice none 0 0] 31 (0, 0)) := blk_below H2.out.2.2.1 hb5
      have H05 := Lib.hid (blk_below H2.out.2.2.2 hb5)
      obtain ⟨⟨ca, cb, cc⟩, fa, fb, fc⟩ := cell3 h15
      have H15 := Lib.hid h15
      have HBB : Hid (Below wr.heap.size wr w5) := hb5
      have HS5 : Hid (wr.heap.size ≤ w5.heap.size) := hb5.size
      have hm1l := blk_lt h15
      have hm1n : ¬ m1 = w5.heap.size := by omega
      have hm1n' : ¬ w5.heap.size = m1 := by omega
      have HL : Hid ((([] : List (List Int)).length + 1) * 24 ≤ 140737488355328) := by show _ ≤ _; simp
      clear hq hb5 h15 hql
      go_wp2_with (at_builtin; refine Kd.R_append kq (w0 := wr) (W := w5) wr.heap.size rfl (.tmp 32) (.tmp 34) 29 42 (.slice none 0 0) 24 rfl Tryz.underlying29 infoInts rfl (by decide) (by decide) (.slice none 0 0) [] (normL h r) [.slice Aq ql cq] (fun _ => True) (fun _ => True) rfl (by simp [go_sem]) ⟨_, rfl, HQ.out⟩ (fun _ _ => ⟨trivial, by simp [Value.ownBlock]⟩) (fun _ _ => trivial) (Kd.R_nil _ _ _ _ _) HBB.out HS5.out HL.out ?_; intro v1 w6 hr6 hb6 hg6 hat6; have h16 := blk_grown H15.out hg6 (by simp [Value.ownBlock]); have H16 := Lib.hid h16; have H06 := Lib.hid (blk_grown H05.out hg6 (by simp [Value.ownBlock])); obtain ⟨⟨da, db, dc⟩, ga, gb, gc⟩ := cell3 h16; obtain ⟨A1, c1, rfl⟩ := Kd.R_slice hr6; have HR6 := Lib.hid hr6; have HB6 := Lib.hid hb6; clear hr6 hb6 hg6 hat6 h16)
      go_roundw
      case rel =>
        have hmm : m0 ≤ wr.heap.size ∧ m1 < wr.heap.size ∧ m0 ≠ m1 := by have := blk_lt H2.out.2.2.1; have := blk_lt H2.out.2.2.2; have := HM1.out; omega
        have h1 := H16.out
        have h0 := H06.out
        refine .inr ⟨rfl, A1, c1, ?_, ?_, ?_, ?_⟩
        · exact blk_set h1 2 _
        · exact blk_far h0 (p := ⟨m1, 2, none⟩) hmm.2.2 _
        · refine Kd.R_mono (Kd.R_far (p := ⟨m1, 2, none⟩) (Kd.R_bound HR6.out) (fun k hk => ?_) _) (fun _ _ => trivial)
          show k ≠ m1
          have := hk.2.1
          omega
        · refine (H2.out.1.trans (HB6.out.mono hmm.1)).setCell ?_ _
          show m0 ≤ m1
          have := HM1.out; omega
      case measure => simp [intOf]
    · obtain ⟨A1, c1, h1, h2, h3, h4⟩ := H.out
      obtain ⟨⟨ca, cb, cc⟩, fa, fb, fc⟩ := cell3 h1
      obtain ⟨⟨da, db, dc⟩, ga, gb, gc⟩ := cell3 h2
      have HH := Lib.hid (And.intro h2 (And.intro h3 h4))
      clear h1 h2 h3 h4 H
      go_wp2_with fail
      have hmm : m0 < W2.heap.size := blk_lt H2.out.2.2.2
      refine bodyPost_ret (results_cell_row (fn := Tryz.f42) (p := 6) (ty := 31) rfl _ _ _ _ _ _ _ rfl (blk_set3 HH.out.1 _ _ _) Tryz.underlying31 rfl sizeModel) rfl ?_
      have hw0 := HM0.out
      subst hw0
      refine ⟨_, rfl, ?_, ((HH.out.2.2.setCell (Nat.le_refl _) _).setCell (Nat.le_refl _) _).setCell (Nat.le_refl _) _⟩
      have h4 : kq.R 42 wr w.heap.size (fun k => k ≠ w.heap.size) (.slice A1 1 c1) [normL h r] := Kd.R_mono (Kd.R_lower (Kd.R_bound HH.out.2.1) (by omega)) (fun k hk => by have := hk.2.1; omega)
      exact Kd.R_mono (R_far3 h4 _ _ _) (fun _ _ => trivial)
theorem load_model {w : World} {g : Nat} {a b c : Value} (hg : w.heap[g]? = some (.cells #[a, b, c] 31 (0, 0))) : (loadVar 31 ⟨g, 0, none⟩).run Tryz.prog w = .ok (.agg #[a, b, c]) w :=
  run_loadVar_row w g _ _ _ _ _ hg Tryz.underlying31 rfl sizeModel
theorem results_row_tmp {fn : Func} {p u : Tmp} {ty : TypeId} (h : fn.results = #[.cell p ty, .tmp u]) (tmps : Array Value) (w : World) (g : Nat) (cs : Array Value)
    (hp : tmps.getD p undef = .pointer (some ⟨g, 0, none⟩)) (hl : (loadVar ty ⟨g, 0, none⟩).run Tryz.prog w = .ok (.agg cs) w) :
    (results fn tmps).run Tryz.prog w = .ok (.tuple #[.agg cs, tmps.getD u undef]) w := by
  have hp' : tmps[p]?.getD undef = .pointer (some ⟨g, 0, none⟩) := by simpa using hp
  simp [results, h, hp', asAddr, hl]
def ZeroPost (b : List Int) (w : World) (e : Ending) (w' : World) : Prop :=
  (b.length = 0 ∧ e = .returned (.tuple #[.agg #[.int .i64 0, .bool false, .slice none 0 0], .int .i64 1]) ∧ Below w.heap.size w w') ∨
  (0 < b.length ∧ ∃ v, e = .returned (.tuple #[.agg #[.int .i64 (zeroR b), .bool true, v], .int .i64 0]) ∧ kq.R 42 w' w.heap.size (fun _ => True) v [zeroQ b] ∧ Below w.heap.size w w')
theorem many_pos {b : List Int} (hb : Bytes b) (hl : b.length ≤ 1000000) (h0 : 0 < b.length) : 0 < manyC (histL b) := by
  rw [manyC_of (hist_right b hb hl)]
  have hx := hb _ (List.getElem_mem h0)
  obtain ⟨s, hs⟩ : ∃ s : Nat, b[0] = (s : Int) := ⟨(b[0]).toNat, by omega⟩
  have hs2 : s < 256 := by omega
  have hp := (hist_pos b hs2).2 (by rw [← hs]; exact List.getElem_mem h0)
  refine List.countP_pos_iff.2 ⟨(histL b).getD s 0, getD_mem (by unfold histL; rw [mapR_len]; exact hs2), by simpa using hp⟩
set_option maxRecDepth 100000 in
set_option maxHeartbeats 1000000 in
theorem modelZero_any (A : Option Addr) (cp : Nat) (b : List Int) (w : World) (hr : (Kd.int .u8).C w A b.length b) (hb : Bytes b) (hl : b.length ≤ 1000000) (h0 : 0 < b.length) :
    Calls Tryz.prog 18 #[.slice A b.length cp] w (ZeroPost b w) := by
  have hne : ((b.length : Int) == 0) = false := by simp; intro e; subst e; simp at h0
  have hne2 : ¬ b = [] := by intro e; subst e; simp at h0
  obtain ⟨W1, hW1⟩ : ∃ W1, W1 = w.alloc (.cells #[.int .i64 0, .bool false, .slice none 0 0] 31) := ⟨_, rfl⟩
  have hb1 : Below w.heap.size w W1 := by rw [hW1]; exact (Below.refl w.heap.size w).alloc (Nat.le_refl _) _
  have hk1 : W1.heap[w.heap.size]? = some (.cells #[.int .i64 0, .bool false, .slice none 0 0] 31 (0, 0)) := by rw [hW1]; exact blk_new _ _
  have HB1 := Lib.hid hb1
  have HK1 := Lib.hid hk1
  have HR := Lib.hid hr
  have HX := Lib.hid (And.intro hb (And.intro hl h0))
  have hZ := zeroR_ok b
  obtain ⟨zr, hzr⟩ : ∃ zr, zr = zeroR b := ⟨_, rfl⟩
  rw [← hzr] at hZ
  have HZ := Lib.hid (And.intro hzr hZ)
  clear hb1 hk1 hr hb hl h0 hZ hzr
  go_enter Tryz.func18, Tryz.ntmps18
  go_wp2_with fail
  rw [← hW1]
  clear hW1
  refine (histOf_any A cp b W1 (Kd.C_below HR.out HB1.out) HX.out.2.1 HX.out.1).mono ?_
  rintro e w2 ⟨v, rfl, hv, hb2⟩
  obtain ⟨Ah, ch, rfl⟩ := Kd.R_slice hv
  have hhl : (histL b).length = 256 := mapR_len _
  have hrd := (Kd.R_reads' hv).2.2
  have hmany := many_any Ah ch (histL b) (w2.alloc (.cells #[.slice Ah 256 ch] 42)) (Kd.C_alloc hrd _) (hist_right b HX.out.1 HX.out.2.1)
  rw [hhl] at hrd hmany ⊢
  have HV := Lib.hid (Kd.C_alloc hrd (.cells #[.slice Ah 256 ch] 42))
  have HMa := Lib.hid hmany
  have HB2 : Hid (Below w.heap.size w w2) := HB1.out.trans (hb2.mono HB1.out.size)
  have HK2 := Lib.hid (blk_below HK1.out hb2)
  clear hv hb2 hrd hmany hhl
  go_wp2_with fail
  have HP3 := Lib.hid (blk_new w2 (.cells #[.slice Ah 256 ch] 42))
  have HB3 : Hid (Below w.heap.size w (w2.alloc (.cells #[.slice Ah 256 ch] 42))) := HB2.out.alloc HB2.out.size _
  have HK3 := Lib.hid (blk_alloc HK2.out (.cells #[.slice Ah 256 ch] 42))
  obtain ⟨w3, hw3⟩ : ∃ w3, w3 = w2.alloc (.cells #[.slice Ah 256 ch] 42) := ⟨_, rfl⟩
  rw [← hw3] at HP3 HB3 HK3 HV HMa ⊢
  obtain ⟨p0, hp0⟩ : ∃ p0, p0 = w2.heap.size := ⟨_, rfl⟩
  rw [← hp0] at HP3 ⊢
  clear hw3 hp0
  refine HMa.out.mono ?_
  rintro e w4 ⟨rfl, rfl⟩
  go_wp2_with fail
  refine (pick_any b.length (manyC (histL b)) 11 _ HX.out.2.1 (by have := manyC_le (histL b); omega)).mono ?_
  rw [HZ.out.2.1]
  rintro e w4 ⟨rfl, hb4⟩
  have HB4 : Hid (Below w.heap.size w w4) := HB3.out.trans (hb4.mono HB3.out.size)
  have HK4 := Lib.hid (blk_below HK3.out hb4)
  have HP4 := Lib.hid (blk_below HP3.out hb4)
  have HV4 := Lib.hid (Kd.C_below HV.out hb4)
  clear hb4
  go_wp2_with fail
  refine (made1_any p0 ch zr Ah (histL b) w4 HP4.out HV4.out (by rw [HZ.out.1]; exact zero_can HX.out.1 HX.out.2.1 HX.out.2.2) (many_pos HX.out.1 HX.out.2.1 HX.out.2.2)).mono ?_
  rintro e w5 ⟨v, rfl, hv, hb5⟩
  obtain ⟨Av, cv, rfl⟩ := Kd.R_slice hv
  obtain ⟨⟨m0, m1, m2⟩, ⟨f0, f1, f2⟩⟩ := cell3 (blk_below HK4.out hb5)
  have HE := Lib.hid (ofM_end (lg := (zr : Nat)) (one := true) HB4.out (blk_lt HK4.out) HK4.out hv hb5)
  clear hv hb5
  go_wp2_with fail
  refine bodyPost_ret (results_row_tmp (fn := Tryz.f18) (p := 2) (u := 3) (ty := 31) rfl _ _ _ _ rfl (load_model HE.out.1)) rfl ?_
  obtain ⟨v2, h1, h2, h3⟩ := HE.out.2
  injection h1 with h1
  injection h1 with h1
  have h1' : Value.slice Av [normL (histL b) zr].length cv = v2 := by
    have := congrArg (fun a : Array Value => a.getD 2 Go.undef) h1
    simpa using this
  refine .inr ⟨HX.out.2.2, Value.slice Av [normL (histL b) zr].length cv, ?_, ?_, h3⟩
  · rw [← HZ.out.1]; rfl
  · rw [← h1'] at h2
    unfold zeroQ; rw [← HZ.out.1]; exact h2
set_option maxRecDepth 100000 in
theorem modelZero_none (A : Option Addr) (cp : Nat) (w : World) : Calls Tryz.prog 18 #[.slice A 0 cp] w (ZeroPost [] w) := by
  have hk1 : (w.alloc (.cells #[.int .i64 0, .bool false, .slice none 0 0] 31)).heap[w.heap.size]? = some (.cells #[.int .i64 0, .bool false, .slice none 0 0] 31 (0, 0)) := blk_new _ _
  have HB : Hid (Below w.heap.size w (w.alloc (.cells #[.int .i64 0, .bool false, .slice none 0 0] 31))) := (Below.refl _ _).alloc (Nat.le_refl _) _
  have HK := Lib.hid hk1
  clear hk1
  go_enter Tryz.func18, Tryz.ntmps18
  go_wp2_with fail
  refine bodyPost_ret (results_row_tmp (fn := Tryz.f18) (p := 2) (u := 3) (ty := 31) rfl _ _ _ _ rfl (load_model HK.out)) rfl ?_
  exact .inl ⟨rfl, rfl, HB.out⟩
end Go.Proofs.YtgjghcpaokfniaaGreat
namespace Go.Proofs.YtgjghcpaokfniaaGreat
open Go.RowKit Go.IntWalk Go.Proofs.YtgjghcpaokfniaaGreatW.PrintWords
theorem results_row_tmp2 {fn : Func} {p u v : Tmp} {ty : TypeId} (h : fn.results = #[.cell p ty, .tmp u, .tmp v]) (tmps : Array Value) (w : World) (g : Nat) (cs : Array Value)
    (hp : tmps.getD p undef = .pointer (some ⟨g, 0, none⟩)) (hl : (loadVar ty ⟨g, 0, none⟩).run Tryz.prog w = .ok (.agg cs) w) :
    (results fn tmps).run Tryz.prog w = .ok (.tuple #[.agg cs, tmps.getD u undef, tmps.getD v undef]) w := by
  have hp' : tmps[p]?.getD undef = .pointer (some ⟨g, 0, none⟩) := by simpa using hp
  simp [results, h, hp', asAddr, hl]
set_option maxRecDepth 100000 in
theorem logRight_any (v : Nat) (w : World) (hv : v < 256) : Calls Tryz.prog 30 #[.int .u8 v] w fun e w' => e = .returned (.bool (decide (5 ≤ v ∧ v ≤ 11))) ∧ w = w' := by
  by_cases h : 5 ≤ v
  · have e : decide (5 ≤ v ∧ v ≤ 11) = decide (v ≤ 11) := by simp [h]
    rw [e]
    go_enter Tryz.func30, Tryz.ntmps30
    go_wp2_with fail
    go_ret
    exact ⟨ret_bool (by simp; omega), rfl⟩
  · have e : decide (5 ≤ v ∧ v ≤ 11) = false := by simp [h]
    rw [e]
    go_enter Tryz.func30, Tryz.ntmps30
    go_wp2_with fail
    go_ret
    exact ⟨rfl, rfl⟩
end Go.Proofs.YtgjghcpaokfniaaGreat
namespace Go.Proofs.YtgjghcpaokfniaaGreat
open Go.RowKit Go.IntWalk Go.Proofs.YtgjghcpaokfniaaGreatW.PrintWords
theorem first_take (ps : List Int) (hps : ∀ x ∈ ps, 0 ≤ x ∧ x < 256) (h : 0 < ps.length) : takeF ps 0 8 = (ps.getD 0 0).toNat ∧ (ps.getD 0 0).toNat < 256 := by
  have hx := hps _ (hd_mem h)
  obtain ⟨y, hy⟩ : ∃ y : Nat, ps.getD 0 0 = y := ⟨(ps.getD 0 0).toNat, by omega⟩
  have hb : BitsAt ps 0 (lowBits y 8) := fun i hi => by
    rw [lowBits_len] at hi
    unfold bitI
    rw [show (0 + i) / 8 = 0 by omega, show (0 + i) % 8 = i by omega, hy, Int.toNat_natCast, lowBits_get _ _ _ hi, bit_toNat]
  have := takeF_low hb (by omega)
  rw [this, hy]; omega
/-- a body that is parted -/
def SplitPost (ps : List Int) (w : World) (e : Ending) (w' : World) : Prop :=
  ((splitM ps).1 = 0 → ∃ vm vp, e = .returned (.tuple #[.agg #[.int .i64 (splitM ps).2.1, .bool true, vm], vp, .int .i64 0]) ∧ kq.R 42 w' w.heap.size (fun _ => True) vm [(splitM ps).2.2.1] ∧ (Kd.int .u8).R 5 w' w.heap.size (fun _ => True) vp (splitM ps).2.2.2) ∧
  ((splitM ps).1 ≠ 0 → e = .returned (.tuple #[.agg #[.int .i64 0, .bool false, .slice none 0 0], .slice none 0 0, .int .i64 (splitM ps).1])) ∧ Below w.heap.size w w'
set_option maxRecDepth 100000 in
set_option maxHeartbeats 2000000 in
theorem split_any (A : Option Addr) (c : Nat) (ps : List Int) (w : World) (hr : (Kd.int .u8).C w A ps.length ps) (hps : ∀ x ∈ ps, 0 ≤ x ∧ x < 256) (hl : ps.length ≤ 1000000) (hc : ps.length ≤ c) (hnil : A = none → c = 0) :
    Calls Tryz.prog 13 #[.slice A ps.length c] w (SplitPost ps w) := by
  obtain ⟨W, hW⟩ : ∃ W, W = w.alloc (.cells #[.int .i64 0, .bool false, .slice none 0 0] 31) := ⟨_, rfl⟩
  have hb1 : Below w.heap.size w W := by rw [hW]; exact (Below.refl _ _).alloc (Nat.le_refl _) _
  have hk1 : W.heap[w.heap.size]? = some (.cells #[.int .i64 0, .bool false, .slice none 0 0] 31 (0, 0)) := by rw [hW]; exact blk_new _ _
  have HB1 := Lib.hid hb1
  have HK1 := Lib.hid hk1
  have HR := Lib.hid (And.intro (Kd.C_below hr hb1) (And.intro hps (And.intro hl (And.intro hc hnil))))
  clear hr hps hl hc hnil hb1 hk1
  go_enter Tryz.func13, Tryz.ntmps13
  go_wp2_with fail
  rw [← hW]
  clear hW
  refine (fnew_any A c ps W HR.out.1 HR.out.2.2.1 HR.out.2.2.2.1 HR.out.2.2.2.2).mono ?_
  rintro e w1 ⟨p, rfl, hp, hrd, hb⟩
  have H1 := Lib.hid (And.intro hp (And.intro hrd hb))
  have HK2 := Lib.hid (blk_below HK1.out hb)
  clear hp hrd hb
  go_wp2_with fail
  refine (ftake_any W.heap.size p ps 0 8 w1 H1.out.2.1 HR.out.2.1 HR.out.2.2.1 (by omega) (by decide)).mono ?_
  rintro e w2 ⟨t1, t2, t3⟩
  have HO2 := Lib.hid t3
  have hnp : w.heap.size ≠ p := by have := H1.out.1; have := blk_lt HK1.out; omega
  have hk3 : w2.heap[w.heap.size]? = some (.cells #[.int .i64 0, .bool false, .slice none 0 0] 31 (0, 0)) := by rw [t3.block _ (blk_lt HK2.out) hnp]; exact HK2.out
  have HK3 := Lib.hid hk3
  have hbW : Below w.heap.size w w2 := (HB1.out.trans (H1.out.2.2.mono HB1.out.size)).trans (t3.below (Nat.le_trans HB1.out.size H1.out.2.2.size) (fun k hk => by have := H1.out.1; have := HB1.out.size; omega))
  have HBW := Lib.hid hbW
  by_cases h0 : ps.length = 0
  · obtain ⟨rfl, hrd⟩ := t2 (by omega)
    have HE : Hid (splitM ps = (3, 0, [], [])) := by show _ = _; unfold splitM; rw [if_pos h0]
    obtain ⟨⟨ca, cb, cc⟩, fa, fb, fc⟩ := cell3 hk3
    clear t1 t2 t3 hrd hk3 hbW
    go_wp2_with fail
    refine bodyPost_ret (results_row_tmp2 (fn := Tryz.f13) (p := 2) (u := 3) (v := 4) (ty := 31) rfl _ _ _ _ rfl (load_model (blk_set3 HK3.out _ _ _))) rfl ?_
    refine ⟨(fun h => by rw [HE.out] at h; cases h), (fun _ => by rw [HE.out]; rfl), ?_⟩
    exact ((HBW.out.setCell (Nat.le_refl _) _).setCell (Nat.le_refl _) _).setCell (Nat.le_refl _) _
  · obtain ⟨rfl, hrd⟩ := t1 (by omega)
    obtain ⟨f1, f2⟩ := first_take ps HR.out.2.1 (by omega)
    rw [f1]
    obtain ⟨v, hv⟩ : ∃ v, v = (ps.getD 0 0).toNat := ⟨_, rfl⟩
    rw [← hv] at f2 ⊢
    have HV := Lib.hid hv
    have HRD := Lib.hid hrd
    clear t1 t2 t3 hrd f1 hv
    by_cases hlog : 5 ≤ v ∧ v ≤ 11
    · have hd := Lib.hid (decide_eq_true hlog)
      obtain ⟨H, hH⟩ : ∃ H, H = hdrT ps (8 * ps.length) 257 zeros256 0 (2 ^ v) false 8 := ⟨_, rfl⟩
      have hpl : p < w2.heap.size := by
        obtain ⟨A2, c2, hb2, -⟩ := HRD.out.ex
        exact blk_lt hb2
      have HTk := Lib.hid (htake_any W.heap.size p v ps 8 w2 HRD.out HR.out.2.1 HR.out.2.2.1 (by omega) (by omega) (by omega) hpl)
      rw [← hH] at HTk
      have hSM : splitM ps = if H.1 ≠ 0 then (H.1, 0, [], []) else if H.2.2 % 8 ≠ 0 ∧ (ps.getD (H.2.2 / 8) 0).toNat / 2 ^ (H.2.2 % 8) ≠ 0 then (4, 0, [], []) else (0, v, H.2.1, ps.drop ((H.2.2 + 7) / 8)) := by
        unfold splitM; rw [if_neg h0, ← HV.out, if_neg (by omega), ← hH]
      have hHe : H.1 = 0 → H.2.2 ≤ 8 * ps.length := fun h => by rw [hH] at h ⊢; exact hdrT_end _ _ _ _ _ _ (by omega) h
      have HS := Lib.hid (And.intro hSM hHe)
      clear hk3 hbW hpl hH hSM hHe
      go_wp2_with fail
      refine (logRight_any v w2 f2).mono ?_
      rw [hd.out]
      rintro e w' ⟨rfl, rfl⟩
      go_wp2_with fail
      refine HTk.out.mono ?_
      rintro e w3 ⟨c1, c2, c3⟩
      have hk4 : w3.heap[w.heap.size]? = some (.cells #[.int .i64 0, .bool false, .slice none 0 0] 31 (0, 0)) := by rw [c3.block _ (blk_lt HK3.out) hnp]; exact HK3.out
      have HK4 := Lib.hid hk4
      have HB4 : Hid (Below w.heap.size w w3) := HBW.out.trans (c3.below HBW.out.size (fun k hk => by have := H1.out.1; have := HB1.out.size; omega))
      by_cases hz : H.1 = 0
      · obtain ⟨g, rfl, d1, d2, d3⟩ := c1 hz
        have HD := Lib.hid (And.intro d1 (And.intro d2 d3))
        have hPd := fpad_any W.heap.size p ps H.2.2 w3 d3 HR.out.2.1 HR.out.2.2.1 (HS.out.2 hz)
        have HPd := Lib.hid hPd
        have HS23 := Lib.hid c3.size
        clear c1 c2 c3 d1 d2 d3 hk4 hPd
        go_wp2_with fail
        refine HPd.out.mono ?_
        rintro e w4 ⟨rfl, p2, p3⟩
        have hk5 : w4.heap[w.heap.size]? = some (.cells #[.int .i64 0, .bool false, .slice none 0 0] 31 (0, 0)) := by rw [p3.block _ (blk_lt HK4.out) hnp]; exact HK4.out
        have HK5 := Lib.hid hk5
        have HB5 : Hid (Below w.heap.size w w4) := HB4.out.trans (p3.below HB4.out.size (fun k hk => by have := H1.out.1; have := HB1.out.size; omega))
        cases hpd : padOk ps H.2.2 with
        | false =>
          have HE : Hid (splitM ps = (4, 0, [], [])) := by
            have := HS.out.1
            rw [if_neg (fun h => h hz)] at this
            unfold padOk at hpd
            rw [if_pos (by have h := of_decide_eq_false hpd; exact Classical.not_not.1 h)] at this; exact this
          obtain ⟨⟨ca, cb, cc⟩, fa, fb, fc⟩ := cell3 hk5
          clear p2 p3 hk5 hpd
          go_wp2_with fail
          refine bodyPost_ret (results_row_tmp2 (fn := Tryz.f13) (p := 2) (u := 3) (v := 4) (ty := 31) rfl _ _ _ _ rfl (load_model (blk_set3 HK5.out _ _ _))) rfl ?_
          refine ⟨(fun h => by rw [HE.out] at h; cases h), (fun _ => by rw [HE.out]; rfl), ?_⟩
          exact ((HB5.out.setCell (Nat.le_refl _) _).setCell (Nat.le_refl _) _).setCell (Nat.le_refl _) _
        | true =>
          have HE : Hid (splitM ps = (0, v, H.2.1, ps.drop ((H.2.2 + 7) / 8))) := by
            have := HS.out.1
            rw [if_neg (fun h => h hz)] at this
            unfold padOk at hpd
            rw [if_neg (of_decide_eq_true hpd)] at this; exact this
          have hpl : p < w2.heap.size := by
            obtain ⟨A2, c2, hb2, -⟩ := HRD.out.ex
            exact blk_lt hb2
          have hq4 : (Kd.int .i64).R 3 w4 w2.heap.size (fun _ => True) (.slice (some ⟨g, 0, none⟩) 256 256) H.2.1 := Kd.R_mono (Kd.R_step (Kd.R_bound HD.out.1) (fun k hk hlt => p3.block k hlt (by have := hk.2.1; omega))) (fun _ _ => trivial)
          have hs24 : w2.heap.size ≤ w4.heap.size := Nat.le_trans HS23.out p3.size
          obtain ⟨w5, hw5⟩ : ∃ w5, w5 = w4.alloc (.cells #[.slice (some ⟨g, 0, none⟩) 256 256] 42) := ⟨_, rfl⟩
          have hb45 : Below w4.heap.size w4 w5 := by rw [hw5]; exact (Below.refl _ _).alloc (Nat.le_refl _) _
          have HQ5 : Hid (kq.R 42 w5 w2.heap.size (fun _ => True) (.slice (some ⟨w4.heap.size, 0, none⟩) 1 1) [H.2.1]) := by show kq.R _ _ _ _ _ _; rw [hw5]; exact Kd.R_mono (kq_one hq4 hs24) (fun _ _ => trivial)
          have HR5 := Lib.hid ((p2 hpd).below hb45)
          have HK6 := Lib.hid (blk_below hk5 hb45)
          have HB6 := Lib.hid (HB5.out.trans (hb45.mono HB5.out.size))
          have HSz : Hid (w.heap.size < w2.heap.size) := by show _ < _; have := blk_lt HK3.out; omega
          have hat := HS.out.2 hz
          have HAT : Hid (8 * ((H.2.2 + 7) / 8) ≤ 8 * ps.length) := by show _ ≤ _; omega
          obtain ⟨s4, hs4⟩ : ∃ s4, s4 = w4.heap.size := ⟨_, rfl⟩
          rw [← hs4] at HQ5
          clear p2 p3 hk5 hpd hq4 hs24 hb45 hpl hat
          go_wp2_with fail
          rw [← hw5, ← hs4]
          clear hw5 hs4
          refine (frest_any W.heap.size p ps _ w5 HR5.out HR.out.2.2.1 HAT.out).mono ?_
          rintro e w6 ⟨vp, rfl, hvp, hb6⟩
          have hk7 := blk_below HK6.out hb6
          have HK7 := Lib.hid hk7
          have HP6 := Lib.hid hvp
          have HQ6 := Lib.hid (Kd.R_below HQ5.out hb6)
          have HB7 := Lib.hid (HB6.out.trans (hb6.mono HB6.out.size))
          have HS5 := Lib.hid (HB6.out.size)
          obtain ⟨⟨ca, cb, cc⟩, fa, fb, fc⟩ := cell3 hk7
          clear hk7 hvp hb6
          go_wp2_with fail
          refine bodyPost_ret (results_row_tmp2 (fn := Tryz.f13) (p := 2) (u := 3) (v := 4) (ty := 31) rfl _ _ _ _ rfl (load_model (blk_set3 HK7.out _ _ _))) rfl ?_
          refine ⟨(fun _ => ?_), (fun h => by rw [HE.out] at h; exact absurd rfl h), ((HB7.out.setCell (Nat.le_refl _) _).setCell (Nat.le_refl _) _).setCell (Nat.le_refl _) _⟩
          rw [HE.out]
          have e8 : (8 * ((H.2.2 + 7) / 8) + 7) / 8 = (H.2.2 + 7) / 8 := by omega
          have hp6 := HP6.out
          rw [e8] at hp6
          have h5 := blk_lt HK6.out
          refine ⟨_, _, rfl, ?_, ?_⟩
          · have h4 : kq.R 42 w6 w.heap.size (fun k => k ≠ w.heap.size) (.slice (some ⟨s4, 0, none⟩) 1 1) [H.2.1] := Kd.R_mono (Kd.R_lower (Kd.R_bound HQ6.out) (by have := HSz.out; omega)) (fun k hk => by have := hk.2.1; have := HSz.out; omega)
            exact Kd.R_mono (R_far3 h4 _ _ _) (fun _ _ => trivial)
          · have h4 : (Kd.int .u8).R 5 w6 w.heap.size (fun k => k ≠ w.heap.size) vp (ps.drop ((H.2.2 + 7) / 8)) := Kd.R_mono (Kd.R_lower (Kd.R_bound hp6) (by omega)) (fun k hk => by have := hk.2.1; omega)
            exact Kd.R_mono (R_far3 h4 _ _ _) (fun _ _ => trivial)
      · obtain rfl := c2 hz
        have HE : Hid (splitM ps = (H.1, 0, [], [])) := by have := HS.out.1; rw [if_pos hz] at this; exact this
        obtain ⟨⟨ca, cb, cc⟩, fa, fb, fc⟩ := cell3 hk4
        have hzb : (H.1 == 0) = false := beq_eq_false_iff_ne.2 hz
        have hzn : (H.1 != 0) = true := by simp [hz]
        clear c1 c2 c3 hk4
        go_wp2_with fail
        refine bodyPost_ret (results_row_tmp2 (fn := Tryz.f13) (p := 2) (u := 3) (v := 4) (ty := 31) rfl _ _ _ _ rfl (load_model (blk_set3 HK4.out _ _ _))) rfl ?_
        refine ⟨(fun h => by rw [HE.out] at h; exact absurd h hz), (fun _ => by rw [HE.out]; rfl), ?_⟩
        exact ((HB4.out.setCell (Nat.le_refl _) _).setCell (Nat.le_refl _) _).setCell (Nat.le_refl _) _
    · have HE : Hid (splitM ps = (13, 0, [], [])) := by show _ = _; unfold splitM; rw [if_neg h0, ← HV.out, if_pos (by omega)]
      have hd := Lib.hid (decide_eq_false hlog)
      obtain ⟨⟨ca, cb, cc⟩, fa, fb, fc⟩ := cell3 hk3
      clear hk3 hbW hlog
      go_wp2_with fail
      refine (logRight_any v w2 f2).mono ?_
      rw [hd.out]
      rintro e w' ⟨rfl, rfl⟩
      go_wp2_with fail
      refine bodyPost_ret (results_row_tmp2 (fn := Tryz.f13) (p := 2) (u := 3) (v := 4) (ty := 31) rfl _ _ _ _ rfl (load_model (blk_set3 HK3.out _ _ _))) rfl ?_
      refine ⟨(fun h => by rw [HE.out] at h; cases h), (fun _ => by rw [HE.out]; rfl), ?_⟩
      exact ((HBW.out.setCell (Nat.le_refl _) _).setCell (Nat.le_refl _) _).setCell (Nat.le_refl _) _
end Go.Proofs.YtgjghcpaokfniaaGreat
namespace Go.Proofs.YtgjghcpaokfniaaGreat
open Go.RowKit Go.IntWalk Go.Proofs.YtgjghcpaokfniaaGreatW.PrintWords
theorem wr_new (w : World) : WrVal (w.alloc (.cells #[.slice none 0 0, .int .i64 0] 123)) w.heap.size w.heap.size (.slice none 0 0) [] := ⟨blk_new _ _, Kd.R_nil _ _ _ _ _⟩
theorem PutRel.bel {base p : Nat} {v0 : Value} {bs : List Bool} {w0 w w' : World} (h : PutRel base p v0 bs w w') (hb : Below w0.heap.size w0 w) (hp : w0.heap.size ≤ p) (hv : ∀ k, v0.ownBlock = some k → w0.heap.size ≤ k) : Below w0.heap.size w0 w' := by
  obtain ⟨_, _, _, ho⟩ := h
  exact hb.trans (ho.below hb.size (fun k hk => by
    rcases hk with hk | hk
    · exact hk ▸ hp
    · exact hv k hk))
set_option maxRecDepth 100000 in
theorem hcost_any (cp r : Nat) (A : Option Addr) (q : List Int) (w : World) (hr : (Kd.int .i64).C w A 256 q) (hn : Nrm q r) :
    Calls Tryz.prog 19 #[.slice A 256 cp] w fun e w' => e = .returned (.int .i64 (hdrB q 257 0 (2 ^ r)).length) ∧ Below w.heap.size w w' := by
  have HI := Lib.hid (wr_new w)
  have HB : Hid (Below w.heap.size w (w.alloc (.cells #[.slice none 0 0, .int .i64 0] 123))) := (Below.refl _ _).alloc (Nat.le_refl _) _
  have HR := Lib.hid (And.intro hr hn)
  clear hr hn
  go_enter Tryz.func19, Tryz.ntmps19
  go_wp2_with fail
  refine (bitwNew_any w).mono ?_
  rintro e w1 ⟨rfl, rfl⟩
  obtain ⟨W, hW⟩ : ∃ W, W = w.alloc (.cells #[.slice none 0 0, .int .i64 0] 123) := ⟨_, rfl⟩
  rw [← hW] at HI HB ⊢
  clear hW
  go_wp2_with fail
  refine (hput_any w.heap.size w.heap.size cp r A (.slice none 0 0) [] q w W HI.out HB.out.size (by simp) HR.out.1 HB.out (Nat.le_refl _) (Nat.le_refl _) HR.out.2).mono ?_
  rintro e w2 ⟨rfl, hp⟩
  have HB2 : Hid (Below w.heap.size w w2) := hp.bel HB.out (Nat.le_refl _) (fun k hk => by simp [Value.ownBlock] at hk)
  obtain ⟨v, m1, _, _⟩ := hp
  have HM := Lib.hid m1
  clear m1
  go_wp2_with fail
  refine (bitwBits_any _ _ _ _ _ HM.out).mono ?_
  rintro e w3 ⟨rfl, rfl⟩
  go_wp2_with fail
  go_ret
  exact ⟨rfl, HB2.out⟩
def HeadPost (r : Nat) (q : List Int) (w : World) (e : Ending) (w' : World) : Prop := ∃ v, e = .returned v ∧ (Kd.int .u8).R 5 w' w.heap.size (fun _ => True) v (packB (headB r q)) ∧ Below w.heap.size w w'
set_option maxRecDepth 100000 in
set_option maxHeartbeats 400000 in
theorem head_any (r c : Nat) (A : Option Addr) (q : List Int) (w : World) (hr : kq.C w A 1 [q]) (hn : Nrm q r) :
    Calls Tryz.prog 22 #[.agg #[.int .i64 r, .bool true, .slice A 1 c]] w (HeadPost r q w) := by
  obtain ⟨W, hW⟩ : ∃ W, W = (w.alloc (.cells #[.int .i64 r, .bool true, .slice A 1 c] 31)).alloc (.cells #[.slice none 0 0, .int .i64 0] 123) := ⟨_, rfl⟩
  have HI := Lib.hid (wr_new (w.alloc (.cells #[.int .i64 r, .bool true, .slice A 1 c] 31)))
  have HB : Hid (Below w.heap.size w W) := by show Below _ _ _; rw [hW]; exact ((Below.refl _ _).alloc (Nat.le_refl _) _).alloc (by simp) _
  have HK : Hid (W.heap[w.heap.size]? = some (.cells #[.int .i64 r, .bool true, .slice A 1 c] 31 (0, 0))) := by show _ = _; rw [hW]; exact blk_alloc (blk_new _ _) _
  have hs : (w.alloc (.cells #[.int .i64 r, .bool true, .slice A 1 c] 31)).heap.size = w.heap.size + 1 := by simp
  have HR := Lib.hid (And.intro hr hn)
  have hr12 := hn.r12
  rw [hs] at HI
  rw [← hW] at HI
  clear hr hn
  obtain ⟨P, hP⟩ : ∃ P, P = w.heap.size + 1 := ⟨_, rfl⟩
  rw [← hP] at HI hs
  have HP := Lib.hid hP
  have HPW : Hid (P ≤ W.heap.size) := by show _ ≤ _; rw [hW, hP]; simp
  clear hP
  go_enter Tryz.func22, Tryz.ntmps22
  go_wp2_with fail
  refine (bitwNew_any _).mono ?_
  rw [← hW, hs]
  clear hW hs
  rintro e w1 ⟨rfl, rfl⟩
  have hk0 := (cell3 HK.out).1
  obtain ⟨ka, kb, kc⟩ := hk0
  go_wp2_with fail
  refine (put_any P P (.slice none 0 0) [] r 8 w1 HI.out HPW.out (by simp) (by omega) (by decide)).mono ?_
  rintro e w2 ⟨rfl, hp⟩
  have HB2 : Hid (Below w.heap.size w w2) := hp.bel HB.out (by have := HP.out; omega) (fun k hk => by simp [Value.ownBlock] at hk)
  obtain ⟨v1, m1, m2, m3⟩ := hp
  have HM := Lib.hid (And.intro m1 (And.intro m2 m3))
  have hk2 : w2.heap[w.heap.size]? = some (.cells #[.int .i64 r, .bool true, .slice A 1 c] 31 (0, 0)) := by
    rw [m3.block _ (blk_lt HK.out) (fun h => by rcases h with h | h; have := HP.out; omega; simp [Value.ownBlock] at h)]; exact HK.out
  clear m1 m2 m3 ka kb kc
  obtain ⟨⟨ka, kb, kc⟩, -⟩ := cell3 hk2
  obtain ⟨ad, Bq, cq, rfl, hcq', -, hCq⟩ := kq_at HR.out.1 0 (by omega)
  have hcq := pw_cell_below HB2.out hcq'
  clear hcq'
  have e0 : ([q] : List (List Int)).getD 0 [] = q := rfl
  rw [e0, HR.out.2.len] at hcq hCq
  have hadd : ad.add 0 = ad := rfl
  rw [hadd] at hcq
  have HQ := Lib.hid hCq
  clear hCq hk2 e0 hadd
  go_wp2_with fail
  refine (hput_any P P cq r Bq v1 ([] ++ lowBits r 8) q w w2 HM.out.1 (Nat.le_trans HPW.out HM.out.2.2.size) (by simp [lowBits_len]) HQ.out HB2.out (by have := HP.out; omega) (by have := HP.out; omega) HR.out.2).mono ?_
  rintro e w3 ⟨rfl, hp⟩
  have HB3 : Hid (Below w.heap.size w w3) := hp.bel HB2.out (by have := HP.out; omega) (fun k hk => by have := Kd.R_base HM.out.1.row k hk; have := HP.out; omega)
  obtain ⟨v2, m1, _, _⟩ := hp
  have HM3 := Lib.hid m1
  clear m1
  have HLn : Hid (([] ++ lowBits r 8 ++ hdrB q 257 0 (2 ^ r)).length ≤ 900000) := by
    show _ ≤ _
    have e2 : (2 : Int) ^ r = ((2 ^ r : Nat) : Int) := by simp
    have h1 := hdrB_len HR.out.2.r12 HR.out.2.len HR.out.2.nn 257 0 (2 ^ r) (by omega) (by rw [List.drop_zero, HR.out.2.sum, e2]) (by rw [Nat.pow_succ]; have := Nat.two_pow_pos r; omega)
    have h2 : (256 - 0) * (r + 3) ≤ 256 * 15 := Nat.mul_le_mul (by omega) (by omega)
    rw [List.nil_append, List.length_append, lowBits_len]; omega
  go_wp2_with fail
  refine (bytes_any _ _ _ _ _ HM3.out HLn.out).mono ?_
  rintro e w4 ⟨v4, rfl, hv4, hb4⟩
  have H4 : Hid ((Kd.int .u8).R 5 w4 w.heap.size (fun _ => True) v4 (packB (headB r q)) ∧ Below w.heap.size w w4) := by
    refine ⟨?_, HB3.out.trans (hb4.mono HB3.out.size)⟩
    have := Kd.R_lower hv4 HB3.out.size
    rw [List.nil_append] at this; exact this
  clear hv4 hb4
  go_wp2_with fail
  go_ret
  exact ⟨v4, rfl, H4.out.1, H4.out.2⟩
end Go.Proofs.YtgjghcpaokfniaaGreat
namespace Go.Proofs.YtgjghcpaokfniaaGreat
open Go.RowKit Go.IntWalk Go.Proofs.YtgjghcpaokfniaaGreatW.PrintWords
/-- a body by one list -/
def body0L (b : List Int) : List Int := packB (headB (zeroR b) (zeroQ b)) ++ packB (encBits (zeroR b : Nat) true [zeroQ b] b ++ [true])
theorem zero_nrm {b : List Int} (hb : Bytes b) (hl : b.length ≤ 1000000) (h0 : 0 < b.length) : Nrm (zeroQ b) (zeroR b) := by
  have h := norm_ok (zero_can hb hl h0)
  have hz := zeroR_ok b
  exact ⟨h.1.len, h.1.nonneg, h.2.1, by omega, by omega⟩
def Enc0Post (b : List Int) (w : World) (e : Ending) (w' : World) : Prop :=
  (b.length = 0 ∧ e = .returned (.tuple #[.slice none 0 0, .int .i64 1]) ∧ Below w.heap.size w w') ∨
  (0 < b.length ∧ ∃ v, e = .returned (.tuple #[v, .int .i64 0]) ∧ (Kd.int .u8).R 5 w' w.heap.size (fun _ => True) v (body0L b) ∧ Below w.heap.size w w')
theorem zeroPost_none {w w' : World} {e : Ending} (h : ZeroPost [] w e w') : e = .returned (.tuple #[.agg #[.int .i64 0, .bool false, .slice none 0 0], .int .i64 1]) ∧ Below w.heap.size w w' := by
  rcases h with ⟨_, h1, h2⟩ | ⟨h, _⟩
  · exact ⟨h1, h2⟩
  · cases h
set_option maxRecDepth 100000 in
theorem encode0_none (A : Option Addr) (cp : Nat) (w : World) : Calls Tryz.prog 10 #[.slice A 0 cp] w (Enc0Post [] w) := by
  have HZ := Lib.hid ((modelZero_none A cp w).mono (fun e w' h => zeroPost_none h))
  go_enter Tryz.func10, Tryz.ntmps10
  go_wp2_with fail
  refine HZ.out.mono ?_
  rintro e w1 ⟨rfl, hb1⟩
  have HB1 := Lib.hid hb1
  clear hb1
  go_wp2_with fail
  go_ret2
  exact .inl ⟨rfl, rfl, HB1.out.alloc HB1.out.size _⟩
set_option maxRecDepth 100000 in
set_option maxHeartbeats 1000000 in
theorem encode0_any (A : Option Addr) (cp : Nat) (b : List Int) (w : World) (hr : (Kd.int .u8).C w A b.length b) (hb : Bytes b) (hl : b.length ≤ 40000) :
    Calls Tryz.prog 10 #[.slice A b.length cp] w (Enc0Post b w) := by
  by_cases h0 : 0 < b.length
  · have HR := Lib.hid (And.intro hr (And.intro hb (And.intro hl h0)))
    have HN := Lib.hid (zero_nrm hb (by omega) h0)
    have HCan : Hid (canM (zeroR b : Nat) true [zeroQ b] b = true) := of_can (one := true) hb (by omega) h0
    have hzero := modelZero_any A cp b w hr hb (by omega) h0
    have HZ := Lib.hid hzero
    obtain ⟨r, hr'⟩ : ∃ r, r = zeroR b := ⟨_, rfl⟩
    obtain ⟨q, hq'⟩ : ∃ q, q = zeroQ b := ⟨_, rfl⟩
    have HRQ := Lib.hid (And.intro hr' hq')
    clear hr hb hl h0 hzero
    go_enter Tryz.func10, Tryz.ntmps10
    go_wp2_with fail
    refine HZ.out.mono ?_
    rintro e w1 (⟨h, _⟩ | ⟨_, v, rfl, hv, hb1⟩)
    · have := HR.out.2.2.2; omega
    obtain ⟨Av, cv, rfl⟩ := Kd.R_slice hv
    rw [← hr']
    rw [← hq'] at hv
    have HV : Hid (kq.C w1 Av 1 [q]) := (Kd.R_reads' hv).2.2
    have HB1 := Lib.hid hb1
    have e1 : ([zeroQ b] : List (List Int)).length = 1 := rfl
    rw [e1]
    clear hv hb1 e1 hr' hq'
    obtain ⟨w2, hw2⟩ : ∃ w2, w2 = w1.alloc (.cells #[.int .i64 r, .bool true, .slice Av 1 cv] 31) := ⟨_, rfl⟩
    have HB2 : Hid (Below w.heap.size w w2) := by show Below _ _ _; rw [hw2]; exact HB1.out.alloc HB1.out.size _
    have HV2 : Hid (kq.C w2 Av 1 [q]) := by show kq.C _ _ _ _; rw [hw2]; exact Kd.C_alloc HV.out _
    have hk2 : w2.heap[w1.heap.size]? = some (.cells #[.int .i64 r, .bool true, .slice Av 1 cv] 31 (0, 0)) := by rw [hw2]; exact blk_new _ _
    have HK2 := Lib.hid hk2
    obtain ⟨mb, hmb⟩ : ∃ mb, mb = w1.heap.size := ⟨_, rfl⟩
    rw [← hmb] at HK2
    clear hk2
    go_wp2_with fail
    rw [← hw2, ← hmb]
    clear hw2 hmb
    refine (encodeL_any (r : Nat) true Av cv [q] A cp b w2 HV2.out (by simp) (Kd.C_below HR.out.1 HB2.out) HR.out.2.1 HR.out.2.2.1).mono ?_
    rintro e w3 ⟨_, h2, hb3⟩
    obtain ⟨vp, rfl, hvp⟩ := h2 (by rw [HRQ.out.1, HRQ.out.2]; exact HCan.out)
    obtain ⟨Ap, cpp, rfl⟩ := Kd.R_slice hvp
    have HB3 : Hid (Below w.heap.size w w3) := HB2.out.trans (hb3.mono HB2.out.size)
    have hk3 := blk_below HK2.out hb3
    have HV3 : Hid (kq.C w3 Av 1 [q]) := Kd.C_below HV2.out hb3
    have HP3 := Lib.hid (Kd.R_reads' hvp).2.2
    have HFit := Lib.hid (encBits_len (can_log (by rw [HRQ.out.1, HRQ.out.2]; exact HCan.out : canM (r : Nat) true [q] b = true)).1 HR.out.2.1)
    obtain ⟨Pl, hPl⟩ : ∃ Pl, Pl = packB (encBits (r : Nat) true [q] b ++ [true]) := ⟨_, rfl⟩
    have HPl := Lib.hid hPl
    rw [← hPl] at HP3 ⊢
    obtain ⟨⟨ka, kb, kc⟩, -⟩ := cell3 hk3
    have HPlen : Hid (Pl.length ≤ 700000) := by
      show _ ≤ _
      rw [hPl, packB_len, List.length_append]
      have := HFit.out; have := HR.out.2.2.1; simp only [List.length_singleton]; omega
    clear h2 hb3 hvp hk3 hPl
    have HKK := Lib.hid (And.intro ka (And.intro kb kc))
    clear ka kb kc
    obtain ⟨ka, kb, kc⟩ := HKK.out
    go_wp2_with fail
    refine (head_any r cv Av q w3 HV3.out (by rw [HRQ.out.1, HRQ.out.2]; exact HN.out)).mono ?_
    rintro e w4 ⟨vh, rfl, hvh, hb4⟩
    obtain ⟨Ah, ch, rfl⟩ := Kd.R_slice hvh
    have HB4 : Hid (Below w.heap.size w w4) := HB3.out.trans (hb4.mono HB3.out.size)
    have HP4 : Hid ((Kd.int .u8).C w4 Ap Pl.length Pl) := Kd.C_below HP3.out hb4
    have HH4 : Hid ((Kd.int .u8).R 5 w4 w.heap.size (fun _ => True) (.slice Ah (packB (headB r q)).length ch) (packB (headB r q))) := Kd.R_lower hvh HB3.out.size
    have HHl : Hid ((packB (headB r q)).length ≤ 10000) := by
      show _ ≤ _
      have hn := HN.out
      rw [← HRQ.out.1, ← HRQ.out.2] at hn
      have e2 : (2 : Int) ^ r = ((2 ^ r : Nat) : Int) := by simp
      have h1 := hdrB_len hn.r12 hn.len hn.nn 257 0 (2 ^ r) (by omega) (by rw [List.drop_zero, hn.sum, e2]) (by rw [Nat.pow_succ]; have := Nat.two_pow_pos r; omega)
      have h2 : (256 - 0) * (r + 3) ≤ 256 * 15 := Nat.mul_le_mul (by omega) (by have := hn.r12; omega)
      rw [packB_len]; unfold headB
      rw [List.length_append, lowBits_len]; omega
    obtain ⟨Hl, hHl⟩ : ∃ Hl, Hl = packB (headB r q) := ⟨_, rfl⟩
    have HHd := Lib.hid hHl
    rw [← hHl] at HH4 HHl ⊢
    have HL : Hid ((Hl.length + Pl.length) * 1 ≤ 140737488355328) := by show _ ≤ _; have := HHl.out; have := HPlen.out; omega
    have HS4 : Hid (w.heap.size ≤ w4.heap.size) := HB4.out.size
    clear hvh hb4 hHl ka kb kc
    go_wp2_with (at_builtin; refine Kd.R_append_rows (Kd.int .u8) (Rr := (Kd.int .u8).K w4) (w0 := w) (W := w4) w.heap.size rfl (.tmp 25) (.tmp 26) 22 5 (.int .u8 0) 1 rfl Tryz.underlying22 infoU8 rfl (by decide) (by decide) (.slice Ah Hl.length ch) Hl Pl Ap Pl.length cpp (fun _ => True) (fun _ => False) rfl rfl HH4.out HP4.out (fun _ _ h => h) (fun _ h => h.elim) (fun _ _ => trivial) HB4.out HS4.out HL.out ?_; intro vi w5 hr5 hb5 hg5 hat5; have HR5 := Lib.hid hr5; have HB5 := Lib.hid hb5; clear hr5 hb5 hg5 hat5)
    go_ret2
    refine .inr ⟨HR.out.2.2.2, _, rfl, ?_, HB5.out⟩
    unfold body0L
    rw [← HRQ.out.1, ← HRQ.out.2, ← HPl.out, ← HHd.out]
    exact HR5.out
  · have hbe : b = [] := List.eq_nil_of_length_eq_zero (by omega)
    subst hbe
    exact encode0_none A cp w
end Go.Proofs.YtgjghcpaokfniaaGreat
namespace Go.Proofs.YtgjghcpaokfniaaGreat
open Go.RowKit Go.IntWalk Go.Proofs.YtgjghcpaokfniaaGreatW.PrintWords
theorem split_ways (ps : List Int) : (∃ k, k ≠ 0 ∧ splitM ps = (k, 0, [], [])) ∨ ∃ r q m, 5 ≤ r ∧ r ≤ 11 ∧ splitM ps = (0, r, q, ps.drop m) := by
  unfold splitM
  by_cases h0 : ps.length = 0
  · rw [if_pos h0]; exact .inl ⟨3, by decide, rfl⟩
  · rw [if_neg h0]
    by_cases h1 : (ps.getD 0 0).toNat < 5 ∨ 11 < (ps.getD 0 0).toNat
    · rw [if_pos h1]; exact .inl ⟨13, by decide, rfl⟩
    · rw [if_neg h1]; dsimp only
      obtain ⟨H, hH⟩ : ∃ H, H = hdrT ps (8 * ps.length) 257 zeros256 0 (2 ^ (ps.getD 0 0).toNat) false 8 := ⟨_, rfl⟩
      rw [← hH]
      by_cases h2 : H.1 ≠ 0
      · rw [if_pos h2]; exact .inl ⟨_, h2, rfl⟩
      · rw [if_neg h2]
        by_cases h3 : H.2.2 % 8 ≠ 0 ∧ (ps.getD (H.2.2 / 8) 0).toNat / 2 ^ (H.2.2 % 8) ≠ 0
        · rw [if_pos h3]; exact .inl ⟨4, by decide, rfl⟩
        · rw [if_neg h3]; exact .inr ⟨_, _, _, by omega, by omega, rfl⟩
theorem split_bytes {ps : List Int} (h : Bytes ps) : Bytes (splitM ps).2.2.2 := by
  rcases split_ways ps with ⟨k, _, e⟩ | ⟨r, q, m, _, _, e⟩
  · rw [e]; intro x hx; cases hx
  · rw [e]; exact fun x hx => h x (List.mem_of_mem_drop hx)
theorem split_len (ps : List Int) : (splitM ps).2.2.2.length ≤ ps.length := by
  rcases split_ways ps with ⟨k, _, e⟩ | ⟨r, q, m, _, _, e⟩
  · rw [e]; simp
  · rw [e]; simp
/-- the parts of a body -/
def SplitYes (r : Nat) (q p : List Int) (w : World) (e : Ending) (w' : World) : Prop :=
  ∃ Am cm Ap cp, e = .returned (.tuple #[.agg #[.int .i64 r, .bool true, .slice Am 1 cm], .slice Ap p.length cp, .int .i64 0]) ∧ kq.R 42 w' w.heap.size (fun _ => True) (.slice Am 1 cm) [q] ∧ (Kd.int .u8).R 5 w' w.heap.size (fun _ => True) (.slice Ap p.length cp) p ∧ Below w.heap.size w w'
theorem split_yes (A : Option Addr) (c : Nat) (ps : List Int) {r : Nat} {q p : List Int} (w : World) (hr : (Kd.int .u8).C w A ps.length ps) (hps : Bytes ps) (hl : ps.length ≤ 1000000) (hc : ps.length ≤ c) (hnil : A = none → c = 0) (h : splitM ps = (0, r, q, p)) :
    Calls Tryz.prog 13 #[.slice A ps.length c] w (SplitYes r q p w) := by
  refine (split_any A c ps w hr hps hl hc hnil).mono ?_
  intro e w' hp
  unfold SplitPost at hp
  rw [h] at hp
  obtain ⟨vm, vp, rfl, hm, hv⟩ := hp.1 rfl
  obtain ⟨Am, cm, rfl⟩ := Kd.R_slice hm
  obtain ⟨Ap, cp, rfl⟩ := Kd.R_slice hv
  exact ⟨Am, cm, Ap, cp, rfl, hm, hv, hp.2.2⟩
theorem split_no (A : Option Addr) (c : Nat) (ps : List Int) {k : Int} (w : World) (hr : (Kd.int .u8).C w A ps.length ps) (hps : Bytes ps) (hl : ps.length ≤ 1000000) (hc : ps.length ≤ c) (hnil : A = none → c = 0) (h : (splitM ps).1 = k) (hk : k ≠ 0) :
    Calls Tryz.prog 13 #[.slice A ps.length c] w (fun e w' => e = .returned (.tuple #[.agg #[.int .i64 0, .bool false, .slice none 0 0], .slice none 0 0, .int .i64 k]) ∧ Below w.heap.size w w') := by
  refine (split_any A c ps w hr hps hl hc hnil).mono ?_
  intro e w' hp
  unfold SplitPost at hp
  rw [h] at hp
  exact ⟨hp.2.1 hk, hp.2.2⟩
/-- what a body tells -/
def dec0M (ps : List Int) (n : Int) : Int × List Int := if (splitM ps).1 ≠ 0 then ((splitM ps).1, []) else decM ((splitM ps).2.1 : Nat) true [(splitM ps).2.2.1] (splitM ps).2.2.2 n
set_option maxRecDepth 100000 in
set_option maxHeartbeats 1000000 in
theorem decode0_any (A : Option Addr) (c : Nat) (ps : List Int) (n : Int) (w : World) (hr : (Kd.int .u8).C w A ps.length ps) (hps : Bytes ps) (hl : ps.length ≤ 1000000) (hc : ps.length ≤ c) (hnil : A = none → c = 0) :
    Calls Tryz.prog 15 #[.slice A ps.length c, .int .i64 n] w (ReadPost (dec0M ps n) w) := by
  obtain ⟨k, r, q, p, hS⟩ : ∃ k r q p, splitM ps = (k, r, q, p) := ⟨_, _, _, _, rfl⟩
  have hpb := split_bytes hps
  have hpl := split_len ps
  rw [hS] at hpb hpl
  by_cases hk : k = 0
  · subst hk
    have HD : Hid (dec0M ps n = decM (r : Nat) true [q] p n) := by show _ = _; unfold dec0M; rw [hS, if_neg (fun h => h rfl)]
    have HS := Lib.hid (split_yes A c ps w hr hps hl hc hnil hS)
    have HP := Lib.hid (And.intro hpb (Nat.le_trans hpl hl))
    rw [HD.out]
    clear hr hps hl hc hnil hS hpb hpl
    go_enter Tryz.func15, Tryz.ntmps15
    go_wp2_with fail
    refine HS.out.mono ?_
    rintro e w1 ⟨Am, cm, Ap, cp, rfl, hm, hv, hb1⟩
    obtain ⟨w2, hw2⟩ : ∃ w2, w2 = w1.alloc (.cells #[.int .i64 r, .bool true, .slice Am 1 cm] 31) := ⟨_, rfl⟩
    have hb2 : Below w1.heap.size w1 w2 := by rw [hw2]; exact (Below.refl _ _).alloc (Nat.le_refl _) _
    have HB2 := Lib.hid (hb1.trans (hb2.mono hb1.size))
    have HM := Lib.hid (Kd.C_below (Kd.R_reads' hm).2.2 hb2)
    have HV := Lib.hid (Kd.C_below (Kd.R_reads' hv).2.2 hb2)
    clear hm hv hb1 hb2
    go_wp2_with fail
    rw [← hw2]
    clear hw2
    refine (decodeL_any r true Am cm [q] Ap cp p n w2 HM.out (by simp) HV.out HP.out.1 HP.out.2).mono ?_
    rintro e w3 ⟨⟨v, rfl, hv⟩, hb3⟩
    have H3 := Lib.hid (And.intro hv hb3)
    clear hv hb3
    go_wp2_with fail
    go_ret2
    exact ⟨⟨v, rfl, Kd.R_lower H3.out.1 HB2.out.size⟩, HB2.out.trans (H3.out.2.mono HB2.out.size)⟩
  · have HD : Hid (dec0M ps n = (k, [])) := by show _ = _; unfold dec0M; rw [hS, if_pos hk]
    have HS := Lib.hid (split_no A c ps w hr hps hl hc hnil (by rw [hS]) hk)
    have hkb : (k == 0) = false := beq_eq_false_iff_ne.2 hk
    have hkn : (k != 0) = true := by simp [hk]
    rw [HD.out]
    clear hr hps hl hc hnil hS hpb hpl
    go_enter Tryz.func15, Tryz.ntmps15
    go_wp2_with fail
    refine HS.out.mono ?_
    rintro e w1 ⟨rfl, hb1⟩
    have HB1 := Lib.hid hb1
    clear hb1
    go_wp2_with fail
    go_ret2
    exact ⟨⟨_, rfl, Kd.R_nil _ _ _ _ _⟩, HB1.out.alloc HB1.out.size _⟩
/-- bytes that are told, or none -/
def Told (k : Int) (y : List Int) (w : World) (e : Ending) (w' : World) : Prop :=
  ∃ A c, e = .returned (.tuple #[.slice A y.length c, .int .i64 k]) ∧ (Kd.int .u8).R 5 w' w.heap.size (fun _ => True) (.slice A y.length c) y ∧ Below w.heap.size w w'
theorem ReadPost.told {k : Int} {y : List Int} {w : World} {e : Ending} {w' : World} (h : ReadPost (k, y) w e w') : Told k y w e w' := by
  obtain ⟨⟨v, rfl, hv⟩, hb⟩ := h
  obtain ⟨A, c, rfl⟩ := Kd.R_slice hv
  exact ⟨A, c, rfl, hv, hb⟩
theorem decode0_told (A : Option Addr) (c : Nat) (ps : List Int) (n : Int) {k : Int} {y : List Int} (w : World) (hr : (Kd.int .u8).C w A ps.length ps) (hps : Bytes ps) (hl : ps.length ≤ 1000000) (hc : ps.length ≤ c) (hnil : A = none → c = 0) (h : dec0M ps n = (k, y)) :
    Calls Tryz.prog 15 #[.slice A ps.length c, .int .i64 n] w (Told k y w) := by
  have := decode0_any A c ps n w hr hps hl hc hnil
  rw [h] at this
  exact this.mono fun e w' hp => hp.told
theorem encode0_told (A : Option Addr) (cp : Nat) (b : List Int) (w : World) (hr : (Kd.int .u8).C w A b.length b) (hb : Bytes b) (hl : b.length ≤ 40000) (h0 : 0 < b.length) :
    Calls Tryz.prog 10 #[.slice A b.length cp] w (Told 0 (body0L b) w) := by
  refine (encode0_any A cp b w hr hb hl).mono ?_
  rintro e w' (⟨h, _⟩ | ⟨_, v, rfl, hv, hbl⟩)
  · omega
  · obtain ⟨A1, c1, rfl⟩ := Kd.R_slice hv
    exact ⟨A1, c1, rfl, hv, hbl⟩
/-- what is encoded is parted, and decoded -/
theorem split_body0 {b : List Int} (hb : Bytes b) (hl : b.length ≤ 40000) (h0 : 0 < b.length) : splitM (body0L b) = (0, zeroR b, zeroQ b, packB (encBits (zeroR b : Nat) true [zeroQ b] b ++ [true])) := by
  have hn := zero_nrm hb (by omega) h0
  have hz := zeroR_ok b
  exact split_enc (by omega) (by omega) hn.len hn.nn (by rw [hn.sum])
theorem body0L_bytes (b : List Int) : Bytes (body0L b) := fun x hx => by
  unfold body0L at hx
  rcases List.mem_append.1 hx with h | h
  · exact packB_bytes _ x h
  · exact packB_bytes _ x h
theorem body0L_len {b : List Int} (hb : Bytes b) (hl : b.length ≤ 40000) (h0 : 0 < b.length) : 0 < (body0L b).length ∧ (body0L b).length ≤ 710000 := by
  have hn := zero_nrm hb (by omega) h0
  have HCan : canM (zeroR b : Nat) true [zeroQ b] b = true := of_can (one := true) hb (by omega) h0
  have hF := encBits_len (can_log HCan).1 hb
  have e2 : (2 : Int) ^ zeroR b = ((2 ^ zeroR b : Nat) : Int) := by simp
  have h1 := hdrB_len hn.r12 hn.len hn.nn 257 0 (2 ^ zeroR b) (by omega) (by rw [List.drop_zero, hn.sum, e2]) (by rw [Nat.pow_succ]; have := Nat.two_pow_pos (zeroR b); omega)
  have h2 : (256 - 0) * (zeroR b + 3) ≤ 256 * 15 := Nat.mul_le_mul (by omega) (by have := hn.r12; omega)
  unfold body0L
  rw [List.length_append, packB_len, packB_len]
  unfold headB
  rw [List.length_append, lowBits_len, List.length_append, List.length_singleton]
  omega
end Go.Proofs.YtgjghcpaokfniaaGreat
namespace Go.Proofs.YtgjghcpaokfniaaGreat
open Go.RowKit
theorem aw0_r : zeroR [7, 7, 7] = 5 := by decide +kernel
theorem aw0_q : zeroQ [7, 7, 7] = awQ := by decide +kernel
theorem aw0_enc : body0L [7, 7, 7] = [5, 192, 3, 2, 0, 4] := by
  unfold body0L
  rw [aw0_r, aw0_q]
  decide +kernel
theorem aw0_split : splitM [5, 192, 3, 2, 0, 4] = (0, 5, awQ, [0, 4]) := by decide +kernel
theorem aw0_dec : dec0M [5, 192, 3, 2, 0, 4] 3 = (0, [7, 7, 7]) := by decide +kernel
end Go.Proofs.YtgjghcpaokfniaaGreat
namespace Go.Proofs.YtgjghcpaokfniaaGreat
open Go.RowKit Go.IntWalk Go.Proofs.YtgjghcpaokfniaaGreatW.PrintWords
/-- a row that is written out -/
theorem row_lit (κ : IntKind) (e : TypeId) (W : World) (base : Nat) (ok : Nat → Prop) (hok : ok W.heap.size) (hb : base ≤ W.heap.size) (xs : List Int) (hl : xs.length ≤ 1000000) : (Kd.int κ).R e (W.alloc (.cells (xs.map (Value.int κ)).toArray e)) base ok (.slice (some ⟨W.heap.size, 0, none⟩) xs.length xs.length) xs := by
  refine Kd.R_of_own (h1 := fun _ => rfl) ⟨by simp [encs], .inr ⟨W.heap.size, xs.length, _, rfl, hb, blk_new W _, Nat.le_refl _, by unfold maxLen; omega, by simp, ?_⟩⟩ (fun k hk => by cases hk; exact hok)
  rw [Nat.mul_one, show (xs.map (Value.int κ)).toArray.toList = encs (Value.int κ) xs from rfl, List.take_of_length_le (by rw [encs_length]; exact Nat.le_refl _)]
end Go.Proofs.YtgjghcpaokfniaaGreat
namespace Go.Proofs.YtgjghcpaokfniaaGreat
open Go.RowKit Go.IntWalk Go.Proofs.YtgjghcpaokfniaaGreatW.PrintWords
/-- a model in a variable of the call's own -/
structure MAt (mb : Nat) (lg : Int) (one : Bool) (A : Option Addr) (c : Nat) (qs : List (List Int)) (w : World) : Prop where
  blk : w.heap[mb]? = some (.cells #[.int .i64 lg, .bool one, .slice A qs.length c] 31 (0, 0))
  row : kq.C w A qs.length qs
theorem MAt.later {mb : Nat} {lg : Int} {one : Bool} {A : Option Addr} {c : Nat} {qs : List (List Int)} {w w' : World} (h : MAt mb lg one A c qs w) (hb : Below w.heap.size w w') : MAt mb lg one A c qs w' := ⟨blk_below h.blk hb, Kd.C_below h.row hb⟩
theorem MAt.new {lg : Int} {one : Bool} {A : Option Addr} {c : Nat} {qs : List (List Int)} {w w0 : World} (h : kq.R 42 w w0.heap.size (fun _ => True) (.slice A qs.length c) qs) : MAt w.heap.size lg one A c qs (w.alloc (.cells #[.int .i64 lg, .bool one, .slice A qs.length c] 31)) :=
  ⟨blk_new _ _, Kd.C_alloc (Kd.R_reads' h).2.2 _⟩
end Go.Proofs.YtgjghcpaokfniaaGreat
namespace Go.Proofs.YtgjghcpaokfniaaGreat
open Go.RowKit Go.IntWalk Go.Proofs.YtgjghcpaokfniaaGreatW.PrintWords
/-- bytes that a slice holds -/
structure BSl (w : World) (A : Option Addr) (c : Nat) (p : List Int) : Prop where
  row : (Kd.int .u8).C w A p.length p
  cap : p.length ≤ c
  nil : A = none → c = 0
  by' : Bytes p
theorem BSl.below {w w' : World} {A : Option Addr} {c : Nat} {p : List Int} (h : BSl w A c p) (hb : Below w.heap.size w w') : BSl w' A c p := ⟨Kd.C_below h.row hb, h.cap, h.nil, h.by'⟩
theorem BSl.of {w : World} {A : Option Addr} {c n base : Nat} {p : List Int} {ok : Nat → Prop} (h : (Kd.int .u8).R 5 w base ok (.slice A n c) p) (hp : Bytes p) : BSl w A c p := by
  obtain ⟨e, h2, h3⟩ := Kd.R_reads' h
  refine ⟨h3, by omega, fun ha => ?_, hp⟩
  obtain ⟨_, inner, ⟨_, ho⟩, _⟩ := h
  rcases ho with ⟨h4, _⟩ | ⟨g, cap, cur, h4, _⟩
  · cases h4; rfl
  · rw [ha] at h4; cases h4
theorem Told.out {k : Int} {y : List Int} {w : World} {e : Ending} {w' : World} (h : Told k y w e w') (hy : Bytes y) : ∃ A c, e = .returned (.tuple #[.slice A y.length c, .int .i64 k]) ∧ BSl w' A c y ∧ Below w.heap.size w w' := by
  obtain ⟨A, c, he, hr, hb⟩ := h
  exact ⟨A, c, he, BSl.of hr hy, hb⟩
theorem lit_row {w : World} (xs : List Int) (hx : Bytes xs) (hl : xs.length ≤ 1000000) : BSl (w.alloc (.cells (xs.map (Value.int .u8)).toArray 5)) (some ⟨w.heap.size, 0, none⟩) xs.length xs :=
  BSl.of (row_lit .u8 5 w w.heap.size (fun _ => True) trivial (Nat.le_refl _) xs hl) hx
theorem BSl.str {w : World} {A : Option Addr} {c : Nat} {p : List Int} (h : BSl w A c p) : (convert 22 9 (.slice A p.length c)).run Tryz.prog w = .ok (.string (strOfNums p)) w :=
  Kd.C_string Tryz.underlying22 Tryz.underlying5 Tryz.underlying9 h.row
theorem b777 : Bytes [7, 7, 7] := by intro x hx; simp at hx; omega
theorem bx777 : Bytes [5, 192, 3, 2, 0, 4] := by intro x hx; simp at hx; omega
set_option maxRecDepth 100000 in
set_option maxHeartbeats 1000000 in
theorem awake18_any (w : World) : Calls Tryz.prog 9 #[] w (Ret (.bool true) w) := by
  obtain ⟨w1, hw1⟩ : ∃ w1, w1 = w.alloc (.cells #[.int .u8 7, .int .u8 7, .int .u8 7] 5) := ⟨_, rfl⟩
  have HB1 : Hid (Below w.heap.size w w1) := by show Below _ _ _; rw [hw1]; exact (Below.refl _ _).alloc (Nat.le_refl _) _
  have HS1 : Hid (BSl w1 (some ⟨w.heap.size, 0, none⟩) 3 [7, 7, 7]) := by show BSl _ _ _ _; rw [hw1]; exact lit_row [7, 7, 7] b777 (by decide)
  go_enter Tryz.func9, Tryz.ntmps9
  go_wp2_with fail
  rw [← hw1]
  clear hw1
  have h2 := encode0_told (some ⟨w.heap.size, 0, none⟩) 3 [7, 7, 7] w1 HS1.out.row b777 (by decide) (by decide)
  rw [aw0_enc] at h2
  refine h2.mono ?_
  clear h2
  intro e w2 h2
  obtain ⟨A2, c2, rfl, hs2, hb2⟩ := h2.out bx777
  have HB2 := Lib.hid (below_tr HB1.out hb2)
  have HB12 := Lib.hid hb2
  have HS2 := Lib.hid hs2
  clear h2 hs2 hb2
  go_wp2_with fail
  refine (decode0_told _ _ _ 3 w2 HS2.out.row bx777 (by decide) HS2.out.cap HS2.out.nil aw0_dec).mono ?_
  intro e w3 h3
  obtain ⟨A3, c3, rfl, hs3, hb3⟩ := h3.out b777
  have HB3 := Lib.hid (below_tr HB2.out hb3)
  have HB23 := Lib.hid hb3
  have HS3 := Lib.hid hs3
  clear h3 hs3 hb3
  go_wp2_with fail
  refine (split_yes _ _ _ w3 (HS2.out.below HB23.out).row bx777 (by decide) HS2.out.cap HS2.out.nil aw0_split).mono ?_
  rintro e w4 ⟨Am, cm, Ap, cp, rfl, hm, hv, hb4⟩
  have HM := Lib.hid (MAt.new (lg := 5) (one := true) (qs := [awQ]) hm)
  have hs4 : BSl w4 Ap cp [0, 4] := BSl.of hv (by intro x hx; simp at hx; omega)
  obtain ⟨w5, hw5⟩ : ∃ w5, w5 = w4.alloc (.cells #[.int .i64 5, .bool true, .slice Am 1 cm] 31) := ⟨_, rfl⟩
  have hb45 : Below w4.heap.size w4 w5 := by rw [hw5]; exact (Below.refl _ _).alloc (Nat.le_refl _) _
  have HB5 := Lib.hid (below_tr (below_tr HB3.out hb4) hb45)
  have h35 := below_tr hb4 hb45
  have h25 := below_tr HB23.out h35
  have h15 := below_tr HB12.out h25
  have v1 : (convert 22 9 (.slice (some ⟨w.heap.size, 0, none⟩) 3 3)).run Tryz.prog w5 = .ok (.string ⟨#[7, 7, 7]⟩) w5 := (HS1.out.below h15).str
  have v2 : (convert 22 9 (.slice A2 6 c2)).run Tryz.prog w5 = .ok (.string ⟨#[5, 192, 3, 2, 0, 4]⟩) w5 := (HS2.out.below h25).str
  have v3 : (convert 22 9 (.slice A3 3 c3)).run Tryz.prog w5 = .ok (.string ⟨#[7, 7, 7]⟩) w5 := (HS3.out.below h35).str
  have v4 : (convert 22 9 (.slice Ap 2 cp)).run Tryz.prog w5 = .ok (.string ⟨#[0, 4]⟩) w5 := (hs4.below hb45).str
  have hm2 := HM.out.blk
  rw [show w4.alloc (.cells #[.int .i64 5, .bool true, .slice Am ([awQ] : List (List Int)).length cm] 31) = w5 from hw5.symm] at hm2
  obtain ⟨⟨m0, m1, m2⟩, _⟩ := cell3 hm2
  clear hm hv hb4 hb45 h35 h25 h15 hs4 hm2
  subst hw5
  go_wp2_with fail
  go_ret
  exact ⟨rfl, HB5.out⟩
end Go.Proofs.YtgjghcpaokfniaaGreat
namespace Go.Proofs.YtgjghcpaokfniaaGreat
open Go.RowKit Go.Proofs.YtgjghcpaokfniaaGreat.PRef Go.Proofs.YtgjghcpaokfniaaGreatW.PrintWords Go.Proofs.YtgjghcpaokfniaaGreatW.PrintLast Go.Proofs.YtgjghcpaokfniaaGreatW.PrintMore
/-- a number's words -/
def digs (n : Nat) : List Int := if h : n = 0 then [] else ((n % 65536 : Nat) : Int) :: digs (n / 65536)
termination_by n
decreasing_by omega
theorem digs_zero : digs 0 = [] := by rw [digs]; simp
theorem digs_pos {n : Nat} (h : 0 < n) : digs n = ((n % 65536 : Nat) : Int) :: digs (n / 65536) := by
  rw [digs]; exact dif_neg (by omega)
theorem digs_one : digs 1 = [1] := by rw [digs_pos (by omega)]; simp [digs_zero]
theorem tmod_nat (t : Nat) : Int.tmod (t : Int) 65536 = ((t % 65536 : Nat) : Int) := by rw [Int.tmod_eq_emod_of_nonneg (by omega)]; simp
theorem tdiv_nat (t : Nat) (h : t ≤ 1000000000000) : wrap64 (Int.tdiv (t : Int) 65536) = ((t / 65536 : Nat) : Int) := by
  rw [Int.tdiv_eq_ediv_of_nonneg (by omega), w64 (by omega)]; simp
theorem times_num (x f c y : Nat) (hy : y = x * f) (h : y ≤ 100000000000) (hc : c ≤ 100000) : wrap64 (wrap64 ((x : Int) * f) + c) = ((y + c : Nat) : Int) := by
  have e : (x : Int) * f = (y : Int) := by rw [hy]; simp
  have i1 : wrap64 (y : Int) = y := w64 (by omega)
  have i2 : wrap64 ((y : Int) + c) = (y : Int) + c := w64 (by omega)
  rw [e, i1, i2]; simp
theorem times_val (v f c x t : Nat) (hx : x = v % 65536) (ht : t = x * f + c) : v * f + c = 65536 * (v / 65536 * f) + t := by
  have hvd : v = 65536 * (v / 65536) + x := by omega
  rw [ht]
  calc v * f + c = (65536 * (v / 65536) + x) * f + c := by rw [← hvd]
    _ = 65536 * (v / 65536 * f) + (x * f + c) := by rw [Nat.add_mul, Nat.mul_assoc]; omega
theorem times_rest : ∀ (m n : Nat) (out : List Int), n ≤ m → out.length + n ≤ 1000000000 → Ev (fun k => puncheonref17_times.l1 k out (n : Int)) (out ++ digs n) := by
  intro m
  induction m with
  | zero =>
    intro n out hn _
    obtain rfl : n = 0 := by omega
    refine Ev.step (fun k => (show puncheonref17_times.l1 (k + 1) out _ = _ by simp only [puncheonref17_times.l1]; rw [if_neg (by omega)])) ?_
    rw [digs_zero, List.append_nil]; exact Ev.now _
  | succ m ih =>
    intro n out hn hl
    by_cases h0 : n = 0
    · subst h0
      refine Ev.step (fun k => (show puncheonref17_times.l1 (k + 1) out _ = _ by simp only [puncheonref17_times.l1]; rw [if_neg (by omega)])) ?_
      rw [digs_zero, List.append_nil]; exact Ev.now _
    · have c1 : (n : Int) > 0 := by omega
      have c2 : out.length < 17592186044416 := by omega
      refine Ev.step (fun k => (show puncheonref17_times.l1 (k + 1) out _ = _ by simp only [puncheonref17_times.l1]; rw [if_pos c1, if_pos c2, tmod_nat n, tdiv_nat n (by clear c1 c2 ih; omega)])) ?_
      have := ih (n / 65536) (out ++ [((n % 65536 : Nat) : Int)]) (by omega) (by rw [List.length_append, List.length_singleton]; omega)
      rw [digs_pos (by omega), show out ++ ((n % 65536 : Nat) : Int) :: digs (n / 65536) = (out ++ [((n % 65536 : Nat) : Int)]) ++ digs (n / 65536) by simp]
      exact this
set_option maxHeartbeats 400000 in
theorem times_loop (a : List Int) (f : Nat) (hf : 0 < f) (hf2 : f ≤ 100000) (hl : a.length ≤ 1000000) : ∀ (d i v c : Nat) (out : List Int), i + d = a.length → a.drop i = digs v → c ≤ f → out.length = i → Ev (fun k => puncheonref17_times.l0 k a f out c i) (out ++ digs (v * f + c)) := by
  intro d
  induction d with
  | zero =>
    intro i v c out hi hv hc ho
    refine Ev.step (fun k => (show puncheonref17_times.l0 (k + 1) a f out c i = _ by simp only [puncheonref17_times.l0]; rw [if_neg (by omega)])) ?_
    have h0 : v = 0 := by
      by_cases e : v = 0
      · exact e
      · rw [digs_pos (by omega), List.drop_of_length_le (by omega)] at hv; cases hv
    subst h0
    rw [Nat.zero_mul, Nat.zero_add]
    exact times_rest c c out (Nat.le_refl _) (by omega)
  | succ d ih =>
    intro i v c out hi hv hc ho
    have hlt : i < a.length := by omega
    have hv0 : 0 < v := by
      by_cases e : v = 0
      · subst e; rw [digs_zero, List.drop_eq_nil_iff] at hv; omega
      · omega
    rw [digs_pos hv0, List.drop_eq_getElem_cons hlt] at hv
    obtain ⟨g1, g2⟩ := List.cons.inj hv
    have hrd : rd a (i : Int) = ((v % 65536 : Nat) : Int) := by rw [rd_nat, List.getD_eq_getElem?_getD, List.getElem?_eq_getElem hlt, Option.getD_some, g1]
    obtain ⟨x, hx⟩ : ∃ x, x = v % 65536 := ⟨_, rfl⟩
    have hx2 : x < 65536 := by rw [hx]; exact Nat.mod_lt _ (by omega)
    have hxf : x * f ≤ 65535 * f := Nat.mul_le_mul_right f (by omega)
    rw [← hx] at hrd
    obtain ⟨t, ht⟩ : ∃ t, t = x * f + c := ⟨_, rfl⟩
    have htb : t ≤ 1000000000000 := by omega
    have htf : t / 65536 ≤ f := by omega
    have hval := times_val v f c x t hx ht
    have b1 : x * f ≤ 100000000000 := by omega
    have b2 : c ≤ 100000 := by omega
    have c1 : (i : Int) < (a.length : Int) := by omega
    have c2 : (0 : Int) ≤ i := by omega
    have c3 : out.length < 17592186044416 := by omega
    have b4 : i ≤ 1000000000 := by omega
    have hstep : ∀ k, puncheonref17_times.l0 (k + 1) a f out c i = puncheonref17_times.l0 k a f (out ++ [((t % 65536 : Nat) : Int)]) ((t / 65536 : Nat) : Int) ((i + 1 : Nat) : Int) := by
      intro k
      simp only [puncheonref17_times.l0]
      rw [if_pos c1, if_pos c2, if_pos c3, hrd, times_num x f c _ rfl b1 b2, ← ht, tmod_nat t, tdiv_nat t htb, wS i b4]
    refine Ev.step hstep ?_
    clear hstep hrd b1 b2 c1 c2 c3 b4 hxf ht hx
    have := ih (i + 1) (v / 65536) (t / 65536) (out ++ [((t % 65536 : Nat) : Int)]) (by omega) g2 htf (by rw [List.length_append, List.length_singleton]; omega)
    have hpos : 0 < v * f + c := by have := Nat.mul_pos hv0 hf; omega
    have h1 : (v * f + c) % 65536 = t % 65536 := by rw [hval]; omega
    have h2 : (v * f + c) / 65536 = v / 65536 * f + t / 65536 := by rw [hval]; omega
    rw [digs_pos hpos, h1, h2, show out ++ ((t % 65536 : Nat) : Int) :: digs (v / 65536 * f + t / 65536) = (out ++ [((t % 65536 : Nat) : Int)]) ++ digs (v / 65536 * f + t / 65536) by simp]
    exact this
theorem refTimes_eq (n f : Nat) (hf : 0 < f) (hf2 : f ≤ 100000) (hl : (digs n).length ≤ 1000000) : Ev (fun k => puncheonref17_times.f k (digs n) f) (digs (n * f)) := by
  have := times_loop (digs n) f hf hf2 hl (digs n).length 0 n 0 [] (by omega) (by simp) (by omega) rfl
  rw [Nat.add_zero, List.nil_append] at this
  exact this
end Go.Proofs.YtgjghcpaokfniaaGreat
namespace Go.Proofs.YtgjghcpaokfniaaGreat
open Go.RowKit Go.Proofs.YtgjghcpaokfniaaGreat.PRef Go.Proofs.YtgjghcpaokfniaaGreatW.PrintWords Go.Proofs.YtgjghcpaokfniaaGreatW.PrintLast Go.Proofs.YtgjghcpaokfniaaGreatW.PrintMore
/-- what words tell -/
def valW : List Int → Int
  | [] => 0
  | a :: l => a + 65536 * valW l
def WordsL (l : List Int) : Prop := ∀ x ∈ l, 0 ≤ x ∧ x < 65536
theorem digs_words : ∀ (m n : Nat), n ≤ m → WordsL (digs n) ∧ valW (digs n) = n := by
  intro m
  induction m with
  | zero =>
    intro n h
    obtain rfl : n = 0 := by omega
    rw [digs_zero]; exact ⟨(fun x hx => by cases hx), rfl⟩
  | succ m ih =>
    intro n h
    by_cases h0 : n = 0
    · subst h0; rw [digs_zero]; exact ⟨(fun x hx => by cases hx), rfl⟩
    · obtain ⟨h1, h2⟩ := ih (n / 65536) (by omega)
      rw [digs_pos (by omega)]
      refine ⟨fun x hx => ?_, ?_⟩
      · rcases List.mem_cons.1 hx with e | e
        · rw [e]; omega
        · exact h1 x e
      · simp only [valW]; rw [h2]; omega
/-- with the same words from i + 1 on, the i-th decides -/
theorem val_cmp : ∀ (i : Nat) (a b : List Int) (ha : WordsL a) (hb : WordsL b), i < a.length → i < b.length → a.drop (i + 1) = b.drop (i + 1) → (a.getD i 0 > b.getD i 0 → valW a > valW b) := by
  intro i
  induction i with
  | zero =>
    intro a b ha hb h1 h2 hd hg
    cases a with
    | nil => simp at h1
    | cons x a =>
      cases b with
      | nil => simp at h2
      | cons y b =>
        simp only [List.drop_succ_cons, List.drop_zero, List.getD_cons_zero] at hd hg
        subst hd
        simp only [valW]; omega
  | succ i ih =>
    intro a b ha hb h1 h2 hd hg
    cases a with
    | nil => simp at h1
    | cons x a =>
      cases b with
      | nil => simp at h2
      | cons y b =>
        simp only [List.drop_succ_cons, List.getD_cons_succ] at hd hg
        have := ih a b (fun z hz => ha z (List.mem_cons_of_mem _ hz)) (fun z hz => hb z (List.mem_cons_of_mem _ hz)) (by simpa using h1) (by simpa using h2) hd hg
        have h3 := ha x (List.mem_cons_self ..)
        have h4 := hb y (List.mem_cons_self ..)
        simp only [valW]; omega
/-- fewer words, a smaller number -/
theorem digs_len : ∀ (k n m : Nat), (digs n).length ≤ k → (digs n).length < (digs m).length → n < m := by
  intro k
  induction k with
  | zero =>
    intro n m h1 h2
    by_cases h0 : n = 0
    · subst h0
      by_cases h3 : m = 0
      · subst h3; omega
      · omega
    · rw [digs_pos (by omega)] at h1; simp at h1
  | succ k ih =>
    intro n m h1 h2
    by_cases h3 : m = 0
    · subst h3; rw [digs_zero] at h2; simp at h2
    · by_cases h0 : n = 0
      · omega
      · rw [digs_pos (n := n) (by omega)] at h1 h2
        rw [digs_pos (n := m) (by omega)] at h2
        simp only [List.length_cons] at h1 h2
        have := ih (n / 65536) (m / 65536) (by omega) (by omega)
        omega
theorem above_loop (a b : List Int) (ha : WordsL a) (hb : WordsL b) (hl : a.length = b.length) (hl2 : a.length ≤ 1000000) : ∀ i, i ≤ a.length → a.drop i = b.drop i → Ev (fun k => puncheonref17_above.l0 k a b ((i : Int) - 1)) (decide (valW b < valW a)) := by
  intro i
  induction i with
  | zero =>
    intro _ hd
    rw [List.drop_zero, List.drop_zero] at hd
    subst hd
    refine Ev.step (fun k => (show puncheonref17_above.l0 (k + 1) a a _ = _ by simp only [puncheonref17_above.l0]; rw [if_neg (by omega)])) ?_
    rw [decide_eq_false (by omega)]; exact Ev.now _
  | succ i ih =>
    intro hi hd
    have c1 : (((i + 1 : Nat) : Int) - 1) ≥ 0 := by omega
    have c2 : (((i + 1 : Nat) : Int) - 1) < (a.length : Int) := by omega
    have c3 : (((i + 1 : Nat) : Int) - 1) < (b.length : Int) := by omega
    have e0 : (((i + 1 : Nat) : Int) - 1) = (i : Int) := by omega
    rw [e0] at c1 c2 c3 ⊢
    have hla : i < a.length := by omega
    have hlb : i < b.length := by omega
    have w1 : wrap64 ((i : Int) - 1) = (i : Int) - 1 := w64 (by omega)
    by_cases e : a.getD i 0 = b.getD i 0
    · refine Ev.step (fun k => (show puncheonref17_above.l0 (k + 1) a b _ = _ by simp only [puncheonref17_above.l0]; rw [if_pos c1, if_pos c1, if_pos c2, if_pos c3, rd_nat, rd_nat, if_pos e, w1])) ?_
      refine ih (by omega) ?_
      rw [List.drop_eq_getElem_cons hla, List.drop_eq_getElem_cons hlb, hd]
      rw [List.getD_eq_getElem?_getD, List.getD_eq_getElem?_getD, List.getElem?_eq_getElem hla, List.getElem?_eq_getElem hlb] at e
      simp only [Option.getD_some] at e
      rw [e]
    · refine Ev.step (fun k => (show puncheonref17_above.l0 (k + 1) a b _ = _ by simp only [puncheonref17_above.l0]; rw [if_pos c1, if_pos c1, if_pos c2, if_pos c3, rd_nat, rd_nat, if_neg e])) ?_
      have e2 : decide (a.getD i 0 > b.getD i 0) = decide (valW b < valW a) := by
        by_cases h : a.getD i 0 > b.getD i 0
        · rw [decide_eq_true h, decide_eq_true (val_cmp i a b ha hb hla hlb hd h)]
        · have := val_cmp i b a hb ha hlb hla hd.symm (by omega)
          rw [decide_eq_false h, decide_eq_false (by omega)]
      rw [e2]; exact Ev.now _
theorem refAbove_eq (n m : Nat) (hl : (digs n).length ≤ 1000000) : Ev (fun k => puncheonref17_above.f k (digs n) (digs m)) (decide (m < n)) := by
  obtain ⟨a1, a2⟩ := digs_words n n (Nat.le_refl _)
  obtain ⟨b1, b2⟩ := digs_words m m (Nat.le_refl _)
  by_cases h : (digs n).length = (digs m).length
  · have w1 : wrap64 (((digs n).length : Int) - 1) = ((digs n).length : Int) - 1 := w64 (by omega)
    have c1 : ((digs n).length : Int) = ((digs m).length : Int) := by omega
    refine Ev.congr (fun k => (show puncheonref17_above.f k (digs n) (digs m) = _ by unfold puncheonref17_above.f; rw [if_pos c1, w1])) ?_
    have := above_loop (digs n) (digs m) a1 b1 h hl (digs n).length (Nat.le_refl _) (by rw [List.drop_length, h, List.drop_length])
    rw [a2, b2] at this
    have e : decide ((m : Int) < n) = decide (m < n) := by simp
    rw [e] at this; exact this
  · have c1 : ¬ ((digs n).length : Int) = ((digs m).length : Int) := by omega
    refine Ev.congr (fun k => (show puncheonref17_above.f k (digs n) (digs m) = _ by unfold puncheonref17_above.f; rw [if_neg c1])) ?_
    have e : decide (((digs n).length : Int) > ((digs m).length : Int)) = decide (m < n) := by
      by_cases h2 : (digs m).length < (digs n).length
      · rw [decide_eq_true (by omega), decide_eq_true (digs_len _ m n (Nat.le_refl _) h2)]
      · have := digs_len _ n m (Nat.le_refl _) (by omega)
        rw [decide_eq_false (by omega), decide_eq_false (by omega)]
    rw [e]; exact Ev.now _
end Go.Proofs.YtgjghcpaokfniaaGreat
namespace Go.Proofs.YtgjghcpaokfniaaGreat
theorem countP_lt {p : Nat → Bool} {K : Nat} (h : ∀ j, p j = true → j < K) (N : Nat) : (List.range N).countP p ≤ K := by
  induction N with
  | zero => simp
  | succ N ih =>
    rw [List.range_succ, List.countP_append]
    by_cases e : p N = true
    · have h1 := List.countP_le_length (p := p) (l := List.range N)
      rw [List.length_range] at h1
      have h2 := h N e
      simp [e]; omega
    · simp [e]; exact ih
theorem countP_ge {p : Nat → Bool} {K : Nat} (h : ∀ j, j < K → p j = true) (N : Nat) (hN : K ≤ N) : K ≤ (List.range N).countP p := by
  induction N with
  | zero => omega
  | succ N ih =>
    rw [List.range_succ, List.countP_append]
    by_cases e : K ≤ N
    · have := ih e; omega
    · have hK : K = N + 1 := by omega
      have h1 : (List.range N).countP p = (List.range N).length := List.countP_eq_length.2 (fun x hx => h x (by rw [List.mem_range] at hx; omega))
      rw [h1, List.length_range]
      simp [h N (by omega)]; omega
/-- another symbol's key that is no more than (c + d) / c -/
def lowP (c d s : Int) (x : K3) : Bool := decide (x.2.2 ≠ s ∧ x.1 * c ≤ (c + d) * x.2.1)
theorem low_keys (c d s n : Int) (t : Nat) (hc : 0 < c) (hd : 0 ≤ d) (hn : 0 ≤ n) : c * ((keysOf n t).countP (lowP c d s) : Nat) ≤ d * n + (if 0 < n then c else 0) := by
  by_cases h0 : 0 < n
  · rw [if_pos h0]
    unfold keysOf
    rw [List.countP_map]
    have hdn : 0 ≤ d * n := Int.mul_nonneg hd hn
    have hK := countP_lt (p := lowP c d s ∘ fun (j : Nat) => (n + j, n, (t : Int))) (K := (d * n / c).toNat + 1) (fun j hj => by
      simp only [Function.comp, lowP, decide_eq_true_eq] at hj
      have h2 : (j : Int) * c ≤ d * n := by
        have := hj.2
        rw [Int.add_mul, Int.add_mul, Int.mul_comm n c] at this; omega
      have h3 : (j : Int) ≤ d * n / c := (Int.le_ediv_iff_mul_le hc).2 h2
      omega) n.toNat
    have h4 : c * (d * n / c) ≤ d * n := Int.mul_ediv_self_le (by omega)
    have h5 : 0 ≤ d * n / c := Int.ediv_nonneg hdn (by omega)
    have h6 : ((List.range n.toNat).countP (lowP c d s ∘ fun (j : Nat) => (n + j, n, (t : Int))) : Int) ≤ d * n / c + 1 := by omega
    have h7 := Int.mul_le_mul_of_nonneg_left h6 (by omega : 0 ≤ c)
    rw [Int.mul_add] at h7; omega
  · rw [keysOf_none h0, if_neg h0]
    have : n = 0 := by omega
    subst this; simp
theorem low_self (c d n : Int) (t : Nat) : (keysOf n t).countP (lowP c d t) = 0 := by
  rw [List.countP_eq_zero]
  intro x hx
  unfold keysOf at hx
  rw [List.mem_map] at hx
  obtain ⟨j, _, rfl⟩ := hx
  simp [lowP]
theorem low_all {q : List Int} (hq : ∀ x ∈ q, 0 ≤ x) {s : Nat} (_ : s < q.length) {d : Int} (hc : 0 < q.getD s 0) (hd : 0 ≤ d) : ∀ k, k ≤ q.length →
    q.getD s 0 * ((allKeys (q.take k)).countP (lowP (q.getD s 0) d s) : Nat) + (if s < k then d * q.getD s 0 + q.getD s 0 else 0) ≤ d * (q.take k).sum + q.getD s 0 * (posC q k : Nat) := by
  intro k
  induction k with
  | zero => intro _; simp [allKeys, posC]
  | succ k ih =>
    intro hk
    have h1 := ih (by omega)
    have hn : 0 ≤ q.getD k 0 := by
      rw [List.getD_eq_getElem?_getD, List.getElem?_eq_getElem (by omega)]; exact hq _ (List.getElem_mem _)
    have hsum : (q.take (k + 1)).sum = (q.take k).sum + q.getD k 0 := by
      rw [List.take_succ_eq_append_getElem (by omega), List.sum_append, List.getD_eq_getElem?_getD, List.getElem?_eq_getElem (by omega)]; simp
    rw [allKeys_take (by omega), List.countP_append, hsum, posC_succ q k (by omega)]
    have e1 : q.getD s 0 * (((allKeys (q.take k)).countP (lowP (q.getD s 0) d s) + (keysOf (q.getD k 0) k).countP (lowP (q.getD s 0) d s) : Nat) : Int) = q.getD s 0 * ((allKeys (q.take k)).countP (lowP (q.getD s 0) d s) : Nat) + q.getD s 0 * ((keysOf (q.getD k 0) k).countP (lowP (q.getD s 0) d s) : Nat) := by rw [Int.natCast_add, Int.mul_add]
    have e2 : q.getD s 0 * ((posC q k + (if 0 < q.getD k 0 then 1 else 0) : Nat) : Int) = q.getD s 0 * (posC q k : Nat) + (if 0 < q.getD k 0 then q.getD s 0 else 0) := by
      split
      · rw [Int.natCast_add, Int.mul_add]; simp
      · simp
    have e3 : d * ((q.take k).sum + q.getD k 0) = d * (q.take k).sum + d * q.getD k 0 := Int.mul_add _ _ _
    rw [e1, e2, e3]
    by_cases h : s = k
    · subst h
      rw [low_self, if_pos (by omega), if_pos hc]
      rw [if_neg (by omega)] at h1
      rw [show ((0 : Nat) : Int) = 0 from rfl, Int.mul_zero]; omega
    · have h2 := low_keys (q.getD s 0) d s (q.getD k 0) k hc hd hn
      by_cases h3 : s < k
      · rw [if_pos h3] at h1; rw [if_pos (by omega)]; omega
      · rw [if_neg h3] at h1; rw [if_neg (by omega)]; omega
def symP (s : Int) (x : K3) : Bool := decide (x.2.2 = s)
theorem posN_take (l : List Int) (s : Int) : ∀ k, k ≤ l.length → (posN l s k).length = (l.take k).countP (fun x => decide (x = s)) := by
  intro k
  induction k with
  | zero => intro _; simp [posN_zero]
  | succ k ih =>
    intro h
    have e : l.getD k (-1) = l[k] := by rw [List.getD_eq_getElem?_getD, List.getElem?_eq_getElem (by omega), Option.getD_some]
    rw [List.take_succ_eq_append_getElem (by omega), List.countP_append]
    by_cases h1 : l.getD k (-1) = s
    · rw [posN_hit h1, List.length_append, ih (by omega)]; rw [e] at h1; simp [h1]
    · rw [posN_miss h1, ih (by omega)]; rw [e] at h1; simp [h1]
theorem posN_at (l : List Int) (s : Int) : ∀ (k d : Nat), d < (posN l s k).length → ∃ P : Nat, (posN l s k).getD d 0 = P ∧ P < k ∧ l.getD P (-1) = s ∧ (posN l s P).length = d := by
  intro k
  induction k with
  | zero => intro d h; simp [posN_zero] at h
  | succ k ih =>
    intro d h
    by_cases h1 : l.getD k (-1) = s
    · rw [posN_hit h1] at h ⊢
      by_cases h2 : d < (posN l s k).length
      · obtain ⟨P, e1, e2, e3, e4⟩ := ih d h2
        refine ⟨P, ?_, by omega, e3, e4⟩
        rw [← e1, List.getD_eq_getElem?_getD, List.getElem?_append_left h2, ← List.getD_eq_getElem?_getD]
      · rw [List.length_append, List.length_singleton] at h
        have hd : d = (posN l s k).length := by omega
        refine ⟨k, ?_, by omega, h1, hd.symm⟩
        rw [List.getD_eq_getElem?_getD, hd, List.getElem?_append_right (Nat.le_refl _)]; simp
    · rw [posN_miss h1] at h ⊢
      obtain ⟨P, e1, e2, e3, e4⟩ := ih d h
      exact ⟨P, e1, by omega, e3, e4⟩
/-- how many keys lie before a symbol's d-th -/
theorem rank_le {q : List Int} (hq : Good q) {s : Nat} (hs : s < q.length) (hc : 0 < q.getD s 0) {P : Nat} (hP : P < (orderL q).length) (hsym : (symsL q).getD P (-1) = (s : Int)) :
    q.getD s 0 * (P : Int) + (posN (symsL q) s P).length * q.getD s 0 + q.getD s 0 ≤ q.getD s 0 * (posN (symsL q) s P).length + (posN (symsL q) s P).length * q.sum + q.getD s 0 * (posC q q.length : Nat) := by
  obtain ⟨c, hcc⟩ : ∃ c, c = q.getD s 0 := ⟨_, rfl⟩
  obtain ⟨l, hl⟩ : ∃ l, l = orderL q := ⟨_, rfl⟩
  have hperm := orderL_perm hq
  have hsort := orderL_sorted hq
  rw [← hl] at hP hperm hsort
  have hgood : ∀ x ∈ l, GK x := fun x hx => allKeys_good hq x (hperm.mem_iff.1 hx)
  have hmem := mem_allKeys.1 (hperm.mem_iff.1 (List.getElem_mem hP))
  have hsy : (symsL q).getD P (-1) = l[P].2.2 := by
    unfold symsL; rw [← hl, List.getD_eq_getElem?_getD, List.getElem?_map, List.getElem?_eq_getElem hP]; rfl
  rw [hsy] at hsym
  obtain ⟨s', e, hs', he, hx⟩ := hmem
  have hss : s' = s := by rw [hx] at hsym; exact Int.ofNat.inj hsym
  subst hss
  rw [← hcc] at he hx hc ⊢
  have hkey := hgood _ (List.getElem_mem hP)
  -- those before are no more
  have hbef : ∀ x ∈ l.take P, leK x l[P] := by
    intro x hx'
    rw [List.mem_take_iff_getElem] at hx'
    obtain ⟨i, hi, rfl⟩ := hx'
    exact List.pairwise_iff_getElem.1 hsort i P (by omega) hP (by omega)
  have haft : ∀ x ∈ l.drop P, leK l[P] x := by
    intro x hx'
    rw [List.mem_drop_iff_getElem] at hx'
    obtain ⟨i, hi, rfl⟩ := hx'
    by_cases h0 : i = 0
    · subst h0; exact leK_refl hkey
    · exact List.pairwise_iff_getElem.1 hsort P (P + i) hP (by omega) (by omega)
  obtain ⟨d, hd⟩ : ∃ d, d = (posN (symsL q) s' P).length := ⟨_, rfl⟩
  have hdc : d = (l.take P).countP (symP s') := by
    rw [hd, posN_take _ _ _ (by unfold symsL; rw [← hl, List.length_map]; omega)]
    unfold symsL
    rw [← hl, ← List.map_take, List.countP_map]; rfl
  rw [← hd]
  -- d' of the symbol's keys are less
  have hed : e ≤ d := by
    have h1 : e ≤ (allKeys q).countP (fun x => decide (x.2.2 = (s' : Int) ∧ x.1 < c + e)) := by
      have h2 : e ≤ (keysOf c s').countP (fun x => decide (x.2.2 = (s' : Int) ∧ x.1 < c + e)) := by
        unfold keysOf
        rw [List.countP_map]
        exact countP_ge (fun j hj => by simp [Function.comp]; omega) _ (by omega)
      have h3 : ∀ k, s' < k → k ≤ q.length → e ≤ (allKeys (q.take k)).countP (fun x => decide (x.2.2 = (s' : Int) ∧ x.1 < c + e)) := by
        intro k
        induction k with
        | zero => intro h; omega
        | succ k ih =>
          intro h4 h5
          rw [allKeys_take (by omega), List.countP_append]
          by_cases h6 : s' = k
          · subst h6; rw [← hcc]; omega
          · have := ih (by omega) (by omega); omega
      have := h3 q.length hs' (Nat.le_refl _)
      rw [List.take_length] at this; exact this
    rw [← hperm.countP_eq, ← List.take_append_drop P l, List.countP_append] at h1
    have h2 : (l.drop P).countP (fun x => decide (x.2.2 = (s' : Int) ∧ x.1 < c + e)) = 0 := by
      rw [List.countP_eq_zero]
      intro x hx'
      have h3 := haft x hx'
      have hxl : x ∈ l := List.mem_of_mem_drop hx'
      have h4 := (lessK_false (hgood x hxl) hkey).1 h3
      obtain ⟨t, f, _, hf, hxe⟩ := mem_allKeys.1 (hperm.mem_iff.1 hxl)
      simp only [decide_eq_true_eq]
      rintro ⟨h5, h6⟩
      rw [hxe] at h5 h6 h4
      rw [hx] at h4
      have ht : t = s' := Int.ofNat.inj h5
      subst ht
      rw [← hcc] at h4 h6
      simp only at h4 h6
      have h7 : (c + e) * c ≤ (c + f) * c := by omega
      have := Int.le_of_mul_le_mul_right h7 hc
      omega
    rw [h2] at h1
    have h3 : (l.take P).countP (fun x => decide (x.2.2 = (s' : Int) ∧ x.1 < c + e)) ≤ (l.take P).countP (symP s') := List.countP_mono_left (fun x _ h => by simp only [symP, decide_eq_true_eq] at h ⊢; exact h.1)
    omega
  -- the others
  have hoth : P - d ≤ (allKeys q).countP (lowP c e s') := by
    rw [← hperm.countP_eq, ← List.take_append_drop P l, List.countP_append]
    have h1 := List.length_eq_countP_add_countP (symP s') (l := l.take P)
    rw [List.length_take, ← hdc] at h1
    have h2 : (l.take P).countP (fun a => decide ¬(symP s') a = true) ≤ (l.take P).countP (lowP c e s') := List.countP_mono_left (fun x hx' h => by
      simp only [symP, decide_eq_true_eq] at h
      have h3 := (lessK_false hkey (hgood x (List.mem_of_mem_take hx'))).1 (hbef x hx')
      rw [hx] at h3
      simp only at h3
      simp only [lowP, decide_eq_true_eq]
      exact ⟨h, by omega⟩)
    omega
  have hall := low_all hq.nonneg hs' (by rw [← hcc]; exact hc) (d := (e : Int)) (by omega) q.length (Nat.le_refl _)
  rw [List.take_length, if_pos hs', ← hcc] at hall
  have hsm : c ≤ q.sum := by rw [hcc]; exact le_sum hq.nonneg (getD_mem hs')
  have m1 := Int.mul_le_mul_of_nonneg_right (show (e : Int) ≤ d by omega) (show 0 ≤ q.sum - c by omega)
  rw [Int.mul_sub, Int.mul_sub] at m1
  have m2 := Int.mul_le_mul_of_nonneg_left (show (P : Int) ≤ d + ((allKeys q).countP (lowP c e s') : Nat) by omega) (show 0 ≤ c by omega)
  rw [Int.mul_add] at m2
  omega
/-- a place is no further on than the count has grown, but for one place a symbol -/
theorem place_bound {q : List Int} (hl : logC q ≠ 0) {s : Nat} (hs : s < 256) {i : Nat} (h1 : cntC q s ≤ i) (h2 : i < 2 * cntC q s) :
    (cntC q s : Int) * (2 ^ logC q + (placesC q s).getD (i - cntC q s) 0) ≤ i * (2 ^ logC q + (posC q q.length : Nat) - 1) := by
  have hq := good_of_log hl
  have hc := cnt_eq hq s
  have hlen : (placesC q s).length = cntC q s := rfl
  obtain ⟨P, e1, e2, e3, e4⟩ := posN_at (symsL q) s (symsL q).length (i - cntC q s) (by have : (posN (symsL q) s (symsL q).length).length = cntC q s := rfl; omega)
  have e1' : (placesC q s).getD (i - cntC q s) 0 = P := e1
  have hge := hq.get s
  have hol : (symsL q).length = (orderL q).length := by unfold symsL; rw [List.length_map]
  have hsl : s < q.length := by rw [hq.len]; exact hs
  have hr := rank_le hq hsl (by omega) (P := P) (by omega) e3
  have hsum : q.sum = 2 ^ logC q := by
    have h3 := logT_pow hl
    have hr : rightC q = true := rightC_iff.2 ⟨hq.len, hq.nonneg, by have := hq.sum; omega⟩
    have h4 : totalC q = q.sum := by unfold totalC; rw [if_pos hr]
    rw [← h4]; exact h3
  have hM0 : 1 ≤ posC q q.length := by
    unfold posC
    rw [List.take_length]
    exact List.countP_pos_iff.2 ⟨q.getD s 0, getD_mem hsl, by simp only [decide_eq_true_eq]; omega⟩
  rw [e4, hsum] at hr
  rw [e1']
  obtain ⟨c, hcd⟩ : ∃ c, c = q.getD s 0 := ⟨_, rfl⟩
  rw [← hcd] at hr hc
  have hcc : (cntC q s : Int) = c := by omega
  obtain ⟨d, hd⟩ : ∃ d, i = cntC q s + d := ⟨i - cntC q s, by omega⟩
  obtain ⟨S, hS⟩ : ∃ S : Int, S = 2 ^ logC q := ⟨_, rfl⟩
  obtain ⟨M, hM⟩ : ∃ M : Int, M = (posC q q.length : Nat) := ⟨_, rfl⟩
  rw [← hS, ← hM] at hr ⊢
  rw [show i - cntC q s = d by omega] at hr
  rw [hd, Int.natCast_add, hcc]
  have m1 := Int.mul_le_mul_of_nonneg_left (show 1 ≤ M by omega) (show (0 : Int) ≤ d by omega)
  have m2 := Int.mul_comm c d
  rw [Int.mul_add, Int.add_mul, Int.mul_sub, Int.mul_sub, Int.mul_add, Int.mul_add]
  omega
theorem step_cheap {q : List Int} {x : Int} {s : Nat} (hl : logC q ≠ 0) (hx : 0 ≤ x ∧ x < 2 ^ logC q) (hs : s < 256) (hc : 0 < cntC q s) :
    (cntC q s : Int) * 2 ^ stepOut q x s * (2 ^ logC q + stepNext q x s) ≤ (2 ^ logC q + x) * (2 ^ logC q + (posC q q.length : Nat) - 1) := by
  obtain ⟨H, hW⟩ := step_nums hl hx hc
  have hb := place_bound hl hs H.ge H.lt
  have hn : stepNext q x s = (placesC q s).getD (wholeC q x / 2 ^ stepOut q x s - cntC q s) 0 := rfl
  rw [← hn] at hb
  obtain ⟨i, hi⟩ : ∃ i, i = wholeC q x / 2 ^ stepOut q x s := ⟨_, rfl⟩
  rw [← hi] at hb H
  obtain ⟨T, hT⟩ : ∃ T : Nat, T = 2 ^ stepOut q x s := ⟨_, rfl⟩
  have hTI : (2 : Int) ^ stepOut q x s = (T : Int) := by rw [hT]; simp
  have hWe := H.eq
  rw [← hT] at hWe
  rw [hTI, ← hW]
  obtain ⟨K, hK⟩ : ∃ K : Int, K = 2 ^ logC q + (posC q q.length : Nat) - 1 := ⟨_, rfl⟩
  rw [← hK] at hb ⊢
  have hK0 : 0 ≤ K := by
    have : (2 : Int) ^ logC q = ((2 ^ logC q : Nat) : Int) := by simp
    have := Nat.two_pow_pos (logC q)
    omega
  have h1 := Int.mul_le_mul_of_nonneg_right hb (show (0 : Int) ≤ T by omega)
  have h2 : (i : Int) * T ≤ wholeC q x := by
    have : (wholeC q x : Int) = ((i * T + stepLow q x s : Nat) : Int) := by rw [← hWe]
    rw [this, Int.natCast_add, Int.natCast_mul]; omega
  have h3 := Int.mul_le_mul_of_nonneg_right h2 hK0
  have e1 : (cntC q s : Int) * T * (2 ^ logC q + stepNext q x s) = (cntC q s : Int) * (2 ^ logC q + stepNext q x s) * T := by ac_rfl
  have e2 : (i : Int) * K * T = i * T * K := by ac_rfl
  rw [e1]; rw [e2] at h1
  exact Int.le_trans h1 h3
/-- the product of the counts; of what bounds it -/
def xT (one : Bool) (qs : List (List Int)) : Int → List Int → Int
  | _, [] => 1
  | last, c :: z => (cntC (qOf one qs last) c : Int) * xT one qs c z
def yT (S : Int) (one : Bool) (qs : List (List Int)) : Int → List Int → Int
  | _, [] => 1
  | last, c :: z => (S + (posC (qOf one qs last) (qOf one qs last).length : Nat) - 1) * yT S one qs c z
theorem xT_nonneg (one : Bool) (qs : List (List Int)) : ∀ (z : List Int) (last : Int), 0 ≤ xT one qs last z
  | [], _ => by simp [xT]
  | c :: z, last => by simp only [xT]; exact Int.mul_nonneg (by omega) (xT_nonneg one qs z c)
theorem yT_nonneg (S : Int) (hS : 1 ≤ S) (one : Bool) (qs : List (List Int)) : ∀ (z : List Int) (last : Int), 0 ≤ yT S one qs last z
  | [], _ => by simp [yT]
  | c :: z, last => by simp only [yT]; exact Int.mul_nonneg (by omega) (yT_nonneg S hS one qs z c)
theorem cheapT {lg : Int} {one : Bool} {qs : List (List Int)} : ∀ (z : List Int) (last : Int) (i : Nat), fitT lg one qs last z →
    xT one qs last z * 2 ^ (encT one qs last i z).2.length * ((2 ^ lg.toNat + (encT one qs last i z).1.1) * (2 ^ lg.toNat + (encT one qs last i z).1.2)) ≤ 2 ^ lg.toNat * 2 ^ lg.toNat * yT (2 ^ lg.toNat) one qs last z := by
  intro z
  induction z with
  | nil => intro last i _; simp [xT, yT, encT]
  | cons c z ih =>
    intro last i hf
    have hfz := hf.2
    obtain ⟨h1, h2, h3, h4, h5⟩ := hf.1
    have hI := ih c (i + 1) hfz
    have hR := encT_range z c (i + 1) hfz
    have hY := yT_nonneg (2 ^ lg.toNat) (by have : (2 : Int) ^ lg.toNat = ((2 ^ lg.toNat : Nat) : Int) := by simp
                                            have := Nat.two_pow_pos lg.toNat
                                            omega) one qs z c
    have hX := xT_nonneg one qs z c
    have e : lg.toNat = logC (qOf one qs last) := by omega
    obtain ⟨s, hs⟩ : ∃ s : Nat, c = s := ⟨c.toNat, by omega⟩
    subst hs
    simp only [encT, xT, yT, List.length_append]
    obtain ⟨r, hr⟩ : ∃ r, r = encT one qs (s : Int) (i + 1) z := ⟨_, rfl⟩
    rw [← hr] at hI hR ⊢
    obtain ⟨x, hxx⟩ : ∃ x, x = pick2 (i % 2) r.1.1 r.1.2 := ⟨_, rfl⟩
    rw [← hxx]
    have hx : 0 ≤ x ∧ x < 2 ^ logC (qOf one qs last) := by
      rw [hxx, ← e]; unfold pick2; split
      · exact hR.1
      · exact hR.2
    have hst := step_cheap h1 hx (s := s) (by omega) h5
    rw [← e] at hst
    obtain ⟨S, hS⟩ : ∃ S : Int, S = 2 ^ lg.toNat := ⟨_, rfl⟩
    have hS1 : 1 ≤ S := by
      have : (2 : Int) ^ lg.toNat = ((2 ^ lg.toNat : Nat) : Int) := by simp
      have := Nat.two_pow_pos lg.toNat
      omega
    rw [← hS] at hI hR hst hY ⊢
    rw [lowBits_len, Int.pow_add]
    obtain ⟨C, hC⟩ : ∃ C : Int, C = cntC (qOf one qs last) s := ⟨_, rfl⟩
    obtain ⟨N, hN⟩ : ∃ N : Int, N = 2 ^ stepOut (qOf one qs last) x s := ⟨_, rfl⟩
    obtain ⟨y, hy⟩ : ∃ y, y = stepNext (qOf one qs last) x s := ⟨_, rfl⟩
    obtain ⟨K, hK⟩ : ∃ K, K = S + (posC (qOf one qs last) (qOf one qs last).length : Nat) - 1 := ⟨_, rfl⟩
    obtain ⟨L, hL⟩ : ∃ L : Int, L = 2 ^ r.2.length := ⟨_, rfl⟩
    have hL0 : 0 ≤ L := by rw [hL]; exact Int.pow_nonneg (by omega)
    rw [← hC, ← hN, ← hy, ← hK] at hst ⊢
    rw [← hL] at hI ⊢
    have hK0 : 0 ≤ K := by omega
    have hI2 := Int.mul_le_mul_of_nonneg_right hI hK0
    have big : ∀ o : Int, 0 ≤ o → (S + r.1.1) * (S + r.1.2) = (S + x) * (S + o) → C * xT one qs s z * (L * N) * ((S + y) * (S + o)) ≤ S * S * (K * yT S one qs s z) := by
      intro o ho hso
      rw [hso] at hI2
      have hst2 := Int.mul_le_mul_of_nonneg_left hst (Int.mul_nonneg (Int.mul_nonneg hX hL0) (show 0 ≤ S + o by omega))
      have e1 : xT one qs s z * L * (S + o) * (C * N * (S + y)) = C * xT one qs s z * (L * N) * ((S + y) * (S + o)) := by ac_rfl
      have e2 : xT one qs s z * L * (S + o) * ((S + x) * K) = xT one qs s z * L * ((S + x) * (S + o)) * K := by ac_rfl
      have e3 : S * S * yT S one qs s z * K = S * S * (K * yT S one qs s z) := by ac_rfl
      rw [e1, e2] at hst2
      rw [e3] at hI2
      exact Int.le_trans hst2 hI2
    unfold set2
    by_cases ht : i % 2 = 0
    · rw [if_pos ht]
      have hx2 : x = r.1.1 := by rw [hxx]; unfold pick2; rw [if_pos ht]
      exact big r.1.2 hR.2.1 (by rw [hx2])
    · rw [if_neg ht]
      have hx2 : x = r.1.2 := by rw [hxx]; unfold pick2; rw [if_neg ht]
      have := big r.1.1 hR.1.1 (by rw [hx2]; exact Int.mul_comm _ _)
      rw [Int.mul_comm (S + r.1.1) (S + y)]; exact this
theorem cheap_law {lg : Int} {one : Bool} {qs : List (List Int)} {b : List Int} (h : canM lg one qs b = true) (hb : Bytes b) (h0 : 0 < b.length) :
    (encBits lg one qs b).length = (encT one qs 0 0 b).2.length + 2 * lg.toNat ∧ xT one qs 0 b * 2 ^ (encT one qs 0 0 b).2.length ≤ yT (2 ^ lg.toNat) one qs 0 b := by
  refine ⟨by rw [encBits_encT, List.length_append, List.length_append, lowBits_len, lowBits_len]; omega, ?_⟩
  have hf := (can_log h).1
  have hft := fits_fitT hf hb b.length (Nat.le_refl _)
  rw [Nat.sub_self, List.drop_zero, show ctxI b ((0 : Nat) : Int) = 0 from ctx_zero b h0] at hft
  have hc := cheapT b 0 0 hft
  have hR := encT_range b 0 0 hft
  have hX := xT_nonneg one qs b 0
  obtain ⟨S, hS⟩ : ∃ S : Int, S = 2 ^ lg.toNat := ⟨_, rfl⟩
  have hS1 : 1 ≤ S := by
    have : (2 : Int) ^ lg.toNat = ((2 ^ lg.toNat : Nat) : Int) := by simp
    have := Nat.two_pow_pos lg.toNat
    omega
  rw [← hS] at hc hR ⊢
  obtain ⟨X, hXe⟩ : ∃ X : Int, X = xT one qs 0 b * 2 ^ (encT one qs 0 0 b).2.length := ⟨_, rfl⟩
  have hX0 : 0 ≤ X := by rw [hXe]; exact Int.mul_nonneg hX (Int.pow_nonneg (by omega))
  rw [← hXe] at hc ⊢
  have h1 : S * S ≤ (S + (encT one qs 0 0 b).1.1) * (S + (encT one qs 0 0 b).1.2) := Int.mul_le_mul (by omega) (by omega) (by omega) (by omega)
  have h2 := Int.mul_le_mul_of_nonneg_left h1 hX0
  have h3 := Int.le_trans h2 hc
  rw [Int.mul_comm X] at h3
  exact Int.le_of_mul_le_mul_left h3 (Int.mul_pos (by omega) (by omega))
end Go.Proofs.YtgjghcpaokfniaaGreat
namespace Go.Proofs.YtgjghcpaokfniaaGreat
open Go.RowKit Go.IntWalk Go.Proofs.YtgjghcpaokfniaaGreat.PRef Go.Proofs.YtgjghcpaokfniaaGreatW.PrintWords Go.Proofs.YtgjghcpaokfniaaGreatW.PrintLast Go.Proofs.YtgjghcpaokfniaaGreatW.PrintMore
theorem refMany12_loop (c : List Int) (hl : c.length ≤ 1000000) : ∀ (d i : Nat), i + d = c.length → Ev (fun k => puncheonref12_Many.l0 k c (posC c i : Int) (i : Int)) ((posC c c.length : Nat) : Int) := by
  intro d
  induction d with
  | zero =>
    intro i hi
    refine Ev.step (fun k => (show puncheonref12_Many.l0 (k + 1) c _ (i : Int) = _ by simp only [puncheonref12_Many.l0]; rw [if_neg (by omega)])) ?_
    rw [show i = c.length by omega]; exact Ev.now _
  | succ d ih =>
    intro i hi
    have hlt : i < c.length := by omega
    have hs := posC_succ c i hlt
    have hle := posC_le c i
    have c1 : (i : Int) < (c.length : Int) := by omega
    have c2 : (0 : Int) ≤ i := by omega
    have c3 : i ≤ 1000000000 := by omega
    have c4 : posC c i ≤ 1000000000 := by omega
    by_cases e : c.getD i 0 > 0
    · refine Ev.step (fun k => (show puncheonref12_Many.l0 (k + 1) c _ (i : Int) = _ by simp only [puncheonref12_Many.l0]; rw [if_pos c1, if_pos c2, rd_nat, if_pos e, wS i c3, wS (posC c i) c4])) ?_
      rw [if_pos (by omega)] at hs
      rw [← hs]; exact ih (i + 1) (by omega)
    · refine Ev.step (fun k => (show puncheonref12_Many.l0 (k + 1) c _ (i : Int) = _ by simp only [puncheonref12_Many.l0]; rw [if_pos c1, if_pos c2, rd_nat, if_neg e, wS i c3])) ?_
      rw [if_neg (by omega)] at hs
      have := ih (i + 1) (by omega)
      rw [hs] at this; exact this
theorem refMany12_eq (c : List Int) (hl : c.length ≤ 1000000) : Ev (fun k => puncheonref12_Many.f k c) ((posC c c.length : Nat) : Int) := by
  have := refMany12_loop c hl c.length 0 (by omega)
  have e : posC c 0 = 0 := by simp [posC]
  rw [e] at this
  exact this
section
variable (A : Option Addr) (cp : Nat) (w : World)
theorem rMany12_any (c : List Int) (hr : (Kd.int .i64).C w A c.length c) (hc : c.length ≤ cp) (hl : c.length ≤ 1000000) : Calls Tryz.prog 52 #[.slice A c.length cp] w (Ret (.int .i64 (posC c c.length : Nat)) w) := by
  obtain ⟨k, hk⟩ := (refMany12_eq c hl).rounds
  exact (puncheonref12_Many.calls k A cp c _ w hr hc hk).mono fun e w' h => ⟨h.1, h.2.below⟩
theorem rTimes_any (n f : Nat) (hf : 0 < f) (hf2 : f ≤ 100000) (hl : (digs n).length ≤ 1000000) (hr : (Kd.int .i64).C w A (digs n).length (digs n)) (hc : (digs n).length ≤ cp) : Calls Tryz.prog 49 #[.slice A (digs n).length cp, .int .i64 f] w (MadeI (digs (n * f)) w) := by
  obtain ⟨k, hk⟩ := (refTimes_eq n f hf hf2 hl).rounds
  exact (puncheonref17_times.calls k A cp (digs n) f _ w hr hc hk)
theorem rAbove_any (n m : Nat) (B : Option Addr) (cb : Nat) (hl : (digs n).length ≤ 1000000) (hr : (Kd.int .i64).C w A (digs n).length (digs n)) (hc : (digs n).length ≤ cp) (hb : (Kd.int .i64).C w B (digs m).length (digs m)) (hcb : (digs m).length ≤ cb) : Calls Tryz.prog 53 #[.slice A (digs n).length cp, .slice B (digs m).length cb] w (Ret (.bool (decide (m < n))) w) := by
  obtain ⟨k, hk⟩ := (refAbove_eq n m hl).rounds
  exact (puncheonref17_above.calls k A cp (digs n) B cb (digs m) _ w hr hc hb hcb hk).mono fun e w' h => ⟨h.1, h.2.below⟩
end
end Go.Proofs.YtgjghcpaokfniaaGreat
namespace Go.Proofs.YtgjghcpaokfniaaGreat
open Go.RowKit Go.IntWalk Go.Proofs.YtgjghcpaokfniaaGreatW.PrintWords
set_option maxRecDepth 100000 in
set_option maxHeartbeats 2000000 in
theorem rRightT_any (lg : Int) (one : Bool) (A : Option Addr) (c : Nat) (qs : List (List Int)) (w : World) (hr : kq.C w A qs.length qs) (h : rightM lg one qs = true) (h1 : one = true → 0 < (qs.getD 0 []).length) :
    Calls Tryz.prog 84 #[.agg #[.int .i64 lg, .bool one, .slice A qs.length c]] w (Ret (.bool true) w) := by
  obtain ⟨W1, hW1⟩ : ∃ W1, W1 = w.alloc (.cells #[.int .i64 lg, .bool one, .slice A qs.length c] 31) := ⟨_, rfl⟩
  have HB := Lib.hid ((Below.refl w.heap.size w).alloc (Nat.le_refl _) (.cells #[.int .i64 lg, .bool one, .slice A qs.length c] 31))
  have hk1 : W1.heap[w.heap.size]? = some (.cells #[.int .i64 lg, .bool one, .slice A qs.length c] 31 (0, 0)) := by rw [hW1]; exact blk_new _ _
  have HR : Hid (kq.C W1 A qs.length qs) := Lib.hid (by rw [hW1]; exact Kd.C_alloc hr _)
  rw [← hW1] at HB
  obtain ⟨l1, l2, l3, l4⟩ := right_len h
  have HL := Lib.hid (And.intro h1 (And.intro l3 l4))
  have HK := Lib.hid hk1
  have hn : Hid (qs.length ≤ 256) := Lib.hid (by rw [l3]; split <;> omega)
  have d1 : decide (lg < 1) = false := decide_eq_false (by omega)
  have d2 : decide (12 < lg) = false := decide_eq_false (by omega)
  have hd0 : (one = true ∧ qs.length = 1) ∨ (one = false ∧ qs.length = 256) := by cases one <;> simp_all
  obtain ⟨⟨m0, m1, m2⟩, _⟩ := cell3 hk1
  clear hr h h1 l1 l2 l3 l4 hk1
  obtain ⟨n, hnn⟩ : ∃ n, n = qs.length := ⟨_, rfl⟩
  rw [← hnn] at hd0 hn m2 HR HK ⊢
  rw [show (Obj.cells #[.int .i64 lg, .bool one, .slice A qs.length c] 31) = Obj.cells #[.int .i64 lg, .bool one, .slice A n c] 31 by rw [hnn]] at hW1
  have HN := Lib.hid hnn
  clear hnn
  have hcut : ∀ (o : Bool) (q1 q2 : Bool), True := fun _ _ _ => trivial
  have HF : one = true → ∀ i, i < n → (qs.getD i []).length ≠ 0 := fun e i hi => by
    rcases hd0 with ⟨_, e2⟩ | ⟨e1, _⟩
    · have := HL.out.1 e
      rw [show i = 0 by omega]; omega
    · rw [e] at e1; cases e1
  have HF' := Lib.hid HF
  clear HF
  have d3 : one = true → ((n : Int) != 1) = false := fun e => by rcases hd0 with ⟨_, e2⟩ | ⟨e1, _⟩ <;> simp_all
  have d4 : one = false → ((n : Int) != 256) = false := fun e => by rcases hd0 with ⟨e1, _⟩ | ⟨_, e2⟩ <;> simp_all
  have main : ∀ o : Bool, one = o → Calls Tryz.prog 84 #[.agg #[.int .i64 lg, .bool one, .slice A n c]] w (Ret (.bool true) w) := by
    intro o ho
    subst ho
    cases one
    all_goals
      first | have d5 := d3 rfl | have d5 := d4 rfl
      clear d3 d4 hd0 hcut
      go_enter Tryz.func84, Tryz.ntmps84
      go_wp2_with fail
      rw [← hW1]
      clear hW1 m0 m1 m2
      go_loopw [3] (fun kv wr => ∃ (i : Nat), kv = .int .i64 i ∧ i ≤ n ∧ Hid (Below W1.heap.size W1 wr)) (fun kv _ => n - (intOf kv).toNat)
      case atStart => exact ⟨0, rfl, by omega, Lib.hid (Below.refl _ _)⟩
      case round =>
        obtain ⟨i, rfl, hi, H⟩ := hrel
        obtain ⟨⟨m0, m1, m2⟩, _⟩ := cell3 (blk_below HK.out H.out)
        have hn256 := hn.out
        by_cases hlt : i < n
        · obtain ⟨ad, B, cb, rfl, hcell, hcb, hq⟩ := kq_at (Kd.C_below HR.out H.out) i hlt
          have hqs : i < qs.length := by rw [← HN.out]; exact hlt
          have HQL : Hid ((qs.getD i []).length ≠ 0 → (logC (qs.getD i []) : Int) = lg) := Lib.hid (fun e => (HL.out.2.2 _ (by rw [List.getD_eq_getElem?_getD, List.getElem?_eq_getElem hqs]; exact List.getElem_mem hqs) e).2)
          have HFi := fun e => HF'.out e i hlt
          obtain ⟨q, hqq⟩ : ∃ q, q = qs.getD i [] := ⟨_, rfl⟩
          rw [← hqq] at hcell hcb hq HQL HFi
          clear hqq hqs
          have HQ := Lib.hid (And.intro hcb hq)
          have hiI : (i : Int) < (n : Int) := by omega
          by_cases h0 : q.length = 0
          · first
              | exact absurd h0 (HFi (by first | exact True.intro | rfl))
              | (have d6 : ((q.length : Int) == 0) = true := by rw [h0]; rfl
                 clear h0 hlt hcb hq HFi
                 go_wp2_with fail
                 go_roundw
                 case rel => exact ⟨i + 1, by go_num, by omega, H⟩
                 case measure => simp [intOf]; omega)
          · have d6 : ((q.length : Int) == 0) = false := by simp; intro e; subst e; simp at h0
            have d7 : ((logC q : Int) != lg) = false := by simp; exact HQL.out h0
            clear h0 hcb hq HFi
            go_wp2_with fail
            go_region_held3 (fun w' => w'.cell? (ad.add i) = some (.slice B q.length cb) ∧ w'.cell? ⟨w.heap.size, 0, none⟩ = some (.int .i64 lg) ∧ w'.cell? ⟨w.heap.size, 2, none⟩ = some (.slice (some ad) n c)) ((repeat' apply And.intro) <;> first | assumption)
              (first | (go_at_call 65; refine (rLog_any B cb q _ (Kd.C_below HQ.out.2 (by first | exact (Below.refl _ _).drew | exact Below.refl _ _)) HQ.out.1).mono ?_; rintro e w2 ⟨rfl, hb2⟩; have k0 := pw_cell_below (w := wr) ⟨hb2.os, hb2.tape, hb2.output, hb2.size, hb2.block⟩ hcell; have k1 := pw_cell_below (w := wr) ⟨hb2.os, hb2.tape, hb2.output, hb2.size, hb2.block⟩ m0; have k2 := pw_cell_below (w := wr) ⟨hb2.os, hb2.tape, hb2.output, hb2.size, hb2.block⟩ m2; have HV2 := Lib.hid (show Below wr.heap.size wr w2 from ⟨hb2.os, hb2.tape, hb2.output, hb2.size, hb2.block⟩); clear hb2))
            all_goals
              go_wp2_with fail
              go_roundw
              case rel => exact ⟨i + 1, by go_num, by omega, Lib.hid (below_tr H.out HV2.out)⟩
              case measure => simp [intOf]; omega
        · obtain rfl : i = n := by omega
          go_wp2_with fail
          go_ret
          exact ⟨rfl, below_tr HB.out H.out⟩
  exact main one rfl
end Go.Proofs.YtgjghcpaokfniaaGreat
namespace Go.Proofs.YtgjghcpaokfniaaGreat
open Go.RowKit Go.IntWalk Go.Proofs.YtgjghcpaokfniaaGreatW.PrintWords
/-- a list of the model, as it lies -/
def AtPost (q : List Int) (w : World) (e : Ending) (w' : World) : Prop := ∃ (B : Option Addr) (cb : Nat), e = .returned (.slice B q.length cb) ∧ q.length ≤ cb ∧ (Kd.int .i64).C w' B q.length q ∧ Below w.heap.size w w'
set_option maxRecDepth 100000 in
set_option maxHeartbeats 1000000 in
theorem rMAt_any (lg : Int) (one : Bool) (A : Option Addr) (c : Nat) (qs : List (List Int)) (x : Nat) (w : World) (hr : kq.C w A qs.length qs) (h : rightM lg one qs = true) (h1 : one = true → 0 < (qs.getD 0 []).length) (hx : x < 256) :
    Calls Tryz.prog 50 #[.agg #[.int .i64 lg, .bool one, .slice A qs.length c], .int .i64 x] w (AtPost (qs.getD (listI one x) []) w) := by
  obtain ⟨W1, hW1⟩ : ∃ W1, W1 = w.alloc (.cells #[.int .i64 lg, .bool one, .slice A qs.length c] 31) := ⟨_, rfl⟩
  have HB := Lib.hid ((Below.refl w.heap.size w).alloc (Nat.le_refl _) (.cells #[.int .i64 lg, .bool one, .slice A qs.length c] 31))
  have hk1 : W1.heap[w.heap.size]? = some (.cells #[.int .i64 lg, .bool one, .slice A qs.length c] 31 (0, 0)) := by rw [hW1]; exact blk_new _ _
  have HR : Hid (kq.C W1 A qs.length qs) := Lib.hid (by rw [hW1]; exact Kd.C_alloc hr _)
  rw [← hW1] at HB
  have hlen := (right_len h).2.2.1
  have hi : listI one x < qs.length := by rw [hlen]; unfold listI; cases one <;> simp <;> omega
  have HX := Lib.hid (rRightT_any lg one A c qs W1 HR.out h h1)
  have HK := Lib.hid hk1
  have d1 : decide ((x : Int) < 0) = false := decide_eq_false (by omega)
  have d2 : decide (255 < (x : Int)) = false := decide_eq_false (by omega)
  obtain ⟨⟨m0, m1, m2⟩, _⟩ := cell3 hk1
  have HI := Lib.hid hi
  obtain ⟨q, hqq⟩ : ∃ q, q = qs.getD (listI one x) [] := ⟨_, rfl⟩
  rw [← hqq]
  have HQQ := Lib.hid hqq
  clear hr h h1 hk1 hlen hi hqq
  go_enter Tryz.func50, Tryz.ntmps50
  go_wp2_with fail
  rw [← hW1]
  go_wp2_with fail
  refine HX.out.mono ?_
  rintro e w2 ⟨rfl, hb2⟩
  obtain ⟨⟨n0, n1, n2⟩, _⟩ := cell3 (blk_below HK.out hb2)
  obtain ⟨ad, B, cb, rfl, hcell, hcb, hq⟩ := kq_at (Kd.C_below HR.out hb2) _ HI.out
  have HB2 := Lib.hid (below_tr HB.out hb2)
  rw [← HQQ.out] at hcell hcb hq
  have HQ := Lib.hid (And.intro hcb hq)
  clear hb2 hcb hq hW1 m0 m1 m2
  cases one
  · have e1 : listI false x = x := rfl
    rw [e1] at hcell HI
    have hiI : (x : Int) < (qs.length : Int) := by have := HI.out; omega
    clear e1
    go_wp2_with fail
    go_ret
    exact ⟨B, cb, rfl, HQ.out.1, HQ.out.2, HB2.out⟩
  · have e1 : listI true x = 0 := rfl
    rw [e1] at hcell HI
    have hiI : (0 : Int) < (qs.length : Int) := by have := HI.out; omega
    have hcell0 : w2.cell? ad = some (.slice B q.length cb) := hcell
    clear e1
    go_wp2_with fail
    go_ret
    exact ⟨B, cb, rfl, HQ.out.1, HQ.out.2, HB2.out⟩
end Go.Proofs.YtgjghcpaokfniaaGreat
namespace Go.Proofs.YtgjghcpaokfniaaGreat
def xP (one : Bool) (qs : List (List Int)) (b : List Int) : Nat → Nat
  | 0 => 1
  | i + 1 => xP one qs b i * cntC (qAt one qs b i) (b.getD i 0)
def yP (S : Nat) (one : Bool) (qs : List (List Int)) (b : List Int) : Nat → Nat
  | 0 => 1
  | i + 1 => yP S one qs b i * (S + posC (qAt one qs b i) (qAt one qs b i).length - 1)
theorem xT_ctx (one : Bool) (qs : List (List Int)) (b : List Int) (i : Nat) : xT one qs (b.getD i 0) (b.drop (i + 1)) = xT one qs (ctxI b ((i + 1 : Nat) : Int)) (b.drop (i + 1)) := by
  by_cases h : i + 1 < b.length
  · rw [ctx_next h]
  · rw [List.drop_of_length_le (by omega)]; rfl
theorem yT_ctx (S : Int) (one : Bool) (qs : List (List Int)) (b : List Int) (i : Nat) : yT S one qs (b.getD i 0) (b.drop (i + 1)) = yT S one qs (ctxI b ((i + 1 : Nat) : Int)) (b.drop (i + 1)) := by
  by_cases h : i + 1 < b.length
  · rw [ctx_next h]
  · rw [List.drop_of_length_le (by omega)]; rfl
theorem xP_all (one : Bool) (qs : List (List Int)) (b : List Int) : ∀ i, i ≤ b.length → (xP one qs b i : Int) * xT one qs (ctxI b ((i : Nat) : Int)) (b.drop i) = xT one qs (ctxI b ((0 : Nat) : Int)) b := by
  intro i
  induction i with
  | zero => intro _; simp [xP]
  | succ i ih =>
    intro h
    have h1 := ih (by omega)
    rw [drop_cons b i (by omega)] at h1
    simp only [xT] at h1
    rw [xT_ctx] at h1
    simp only [xP]
    rw [← h1, Int.natCast_mul, qAt_qOf, Int.mul_assoc]
theorem yP_all (S : Nat) (hS : 1 ≤ S) (one : Bool) (qs : List (List Int)) (b : List Int) : ∀ i, i ≤ b.length → (yP S one qs b i : Int) * yT S one qs (ctxI b ((i : Nat) : Int)) (b.drop i) = yT S one qs (ctxI b ((0 : Nat) : Int)) b := by
  intro i
  induction i with
  | zero => intro _; simp [yP]
  | succ i ih =>
    intro h
    have h1 := ih (by omega)
    rw [drop_cons b i (by omega)] at h1
    simp only [yT] at h1
    rw [yT_ctx] at h1
    simp only [yP]
    have e : ((S + posC (qAt one qs b i) (qAt one qs b i).length - 1 : Nat) : Int) = (S : Int) + (posC (qAt one qs b i) (qAt one qs b i).length : Nat) - 1 := by omega
    rw [← h1, Int.natCast_mul, e, qAt_qOf, Int.mul_assoc]
theorem cheap_end {lg : Int} {one : Bool} {qs : List (List Int)} {b : List Int} (h : canM lg one qs b = true) (hb : Bytes b) (h0 : 0 < b.length) :
    2 ^ (encT one qs 0 0 b).2.length * xP one qs b b.length ≤ yP (2 ^ lg.toNat) one qs b b.length := by
  have h1 := (cheap_law h hb h0).2
  have h2 := xP_all one qs b b.length (Nat.le_refl _)
  have h3 := yP_all (2 ^ lg.toNat) (Nat.two_pow_pos _) one qs b b.length (Nat.le_refl _)
  rw [List.drop_length, show ctxI b ((0 : Nat) : Int) = 0 from ctx_zero b h0] at h2 h3
  simp only [xT, yT, Int.mul_one] at h2 h3
  have e : (((2 ^ lg.toNat : Nat) : Int)) = 2 ^ lg.toNat := by simp
  rw [e] at h3
  rw [← h2, ← h3] at h1
  have h4 : ((2 ^ (encT one qs 0 0 b).2.length * xP one qs b b.length : Nat) : Int) = (xP one qs b b.length : Int) * 2 ^ (encT one qs 0 0 b).2.length := by
    rw [Int.natCast_mul, Int.mul_comm]; simp
  omega
/-- a number below 65536^k has at most k words -/
theorem digs_short : ∀ (k n : Nat), n < 65536 ^ k → (digs n).length ≤ k := by
  intro k
  induction k with
  | zero =>
    intro n h
    have : n = 0 := by simpa using h
    subst this; rw [digs_zero]; simp
  | succ k ih =>
    intro n h
    by_cases h0 : n = 0
    · subst h0; rw [digs_zero]; simp
    · rw [digs_pos (by omega), List.length_cons]
      have : n / 65536 < 65536 ^ k := by
        rw [Nat.div_lt_iff_lt_mul (by omega)]
        rw [Nat.pow_succ] at h; exact h
      have := ih _ this
      omega
theorem xP_short {one : Bool} {qs : List (List Int)} {b : List Int} : ∀ i, (∀ j, j < i → cntC (qAt one qs b j) (b.getD j 0) ≤ 65536) → xP one qs b i ≤ 65536 ^ i := by
  intro i
  induction i with
  | zero => intro _; simp [xP]
  | succ i ih =>
    intro h
    simp only [xP]
    rw [Nat.pow_succ]
    exact Nat.mul_le_mul (ih (fun j hj => h j (by omega))) (h i (by omega))
theorem yP_short {S : Nat} {one : Bool} {qs : List (List Int)} {b : List Int} : ∀ i, (∀ j, j < i → S + posC (qAt one qs b j) (qAt one qs b j).length - 1 ≤ 65536) → yP S one qs b i ≤ 65536 ^ i := by
  intro i
  induction i with
  | zero => intro _; simp [yP]
  | succ i ih =>
    intro h
    simp only [yP]
    rw [Nat.pow_succ]
    exact Nat.mul_le_mul (ih (fun j hj => h j (by omega))) (h i (by omega))
end Go.Proofs.YtgjghcpaokfniaaGreat
namespace Go.Proofs.YtgjghcpaokfniaaGreat
open Go.RowKit Go.IntWalk Go.Proofs.YtgjghcpaokfniaaGreatW.PrintWords
/-- so far: a number in words, in memory of the call's own -/
def NumR (B0 : Nat) (v : Value) (n : Nat) (wr : World) : Prop := (Kd.int .i64).R 3 wr B0 (fun _ => True) v (digs n)
theorem pow_words {n i k : Nat} (h : n ≤ 65536 ^ i) (hk : i + 1 ≤ k) : (digs n).length ≤ k := by
  have : 65536 ^ i < 65536 ^ k := Nat.pow_lt_pow_right (by omega) (by omega)
  exact digs_short k n (by omega)
theorem pow_16 (k : Nat) : (65536 : Nat) ^ k = 2 ^ (16 * k) := by rw [show (65536 : Nat) = 2 ^ 16 by rfl, ← Nat.pow_mul]
theorem two_words {i k : Nat} (h : i < 16 * k) : (digs (2 ^ i)).length ≤ k := by
  refine digs_short k _ ?_
  rw [pow_16]; exact Nat.pow_lt_pow_right (by omega) h
theorem prod_words {bits i x k : Nat} (hx : x ≤ 65536 ^ i) (h : bits + 16 * i < 16 * k) : (digs (2 ^ bits * x)).length ≤ k := by
  refine digs_short k _ ?_
  rw [pow_16] at hx ⊢
  have h1 : 2 ^ bits * x ≤ 2 ^ bits * 2 ^ (16 * i) := Nat.mul_le_mul (Nat.le_refl _) hx
  rw [← Nat.pow_add] at h1
  have h2 : (2 : Nat) ^ (bits + 16 * i) < 2 ^ (16 * k) := Nat.pow_lt_pow_right (by omega) h
  omega
theorem num_reads {B0 n : Nat} {v : Value} {wr : World} (h : NumR B0 v n wr) : ∃ (A : Option Addr) (c : Nat), v = .slice A (digs n).length c ∧ (digs n).length ≤ c ∧ (Kd.int .i64).C wr A (digs n).length (digs n) := by
  obtain ⟨A, c, rfl⟩ := Kd.R_slice h
  exact ⟨A, c, rfl, (Kd.R_reads' h).2⟩
theorem posC_ge (c : List Int) (k : Nat) (hk : 0 < c.getD k 0) : ∀ d, k + 1 + d ≤ c.length → 1 ≤ posC c (k + 1 + d) := by
  intro d
  induction d with
  | zero =>
    intro h
    have := posC_succ c k (by omega)
    rw [if_pos hk] at this; rw [Nat.add_zero]; omega
  | succ d ih =>
    intro h
    have h1 := ih (by omega)
    have := posC_succ c (k + 1 + d) (by omega)
    rw [show k + 1 + (d + 1) = k + 1 + d + 1 by omega]; omega
structure QFacts (lg : Nat) (one : Bool) (qs : List (List Int)) (b : List Int) (i : Nat) : Prop where
  ctx : 0 ≤ ctxI b i ∧ ctxI b i < 256
  len : (qAt one qs b i).length ≤ 1000000
  pos1 : 1 ≤ posC (qAt one qs b i) (qAt one qs b i).length
  pos : posC (qAt one qs b i) (qAt one qs b i).length ≤ 256
  cnt : 0 < cntC (qAt one qs b i) (b.getD i 0) ∧ cntC (qAt one qs b i) (b.getD i 0) ≤ 4096
  get : ∃ k : Nat, b.getD i 0 = k ∧ k < (qAt one qs b i).length ∧ (qAt one qs b i).getD k 0 = cntC (qAt one qs b i) (b.getD i 0)
theorem q_facts {lg : Nat} {one : Bool} {qs : List (List Int)} {b : List Int} (h : fitsM lg one qs b = true) (hb : Bytes b) (i : Nat) (hi : i < b.length) : QFacts lg one qs b i := by
  obtain ⟨h1, h2, h3⟩ := fit_count h hb i hi
  have hx := hb.get i
  obtain ⟨x, hxe⟩ : ∃ x : Nat, b.getD i 0 = x := ⟨(b.getD i 0).toNat, by omega⟩
  have hg := good_of_log h1
  have h5 := cnt_eq hg x
  have hlen : (qAt one qs b i).length = 256 := hg.len
  have hp := posC_le (qAt one qs b i) (qAt one qs b i).length
  have hc := cnt_le h1 (b.getD i 0)
  have hl := (pow_le12 (r := logC (qAt one qs b i)) (logT_le _))
  refine ⟨ctx_range hb i hi, by omega, ?_, by omega, ⟨h3, ?_⟩, x, hxe, by omega, ?_⟩
  · have h6 := (hg.get x).1
    have := posC_ge (qAt one qs b i) x (by rw [hxe] at h3; omega) ((qAt one qs b i).length - (x + 1)) (by omega)
    rw [show x + 1 + ((qAt one qs b i).length - (x + 1)) = (qAt one qs b i).length by omega] at this; exact this
  · have e2 : (2 : Int) ^ logC (qAt one qs b i) = ((2 ^ logC (qAt one qs b i) : Nat) : Int) := by simp
    rw [e2] at hl
    omega
  · have := (hg.get x).1
    rw [hxe]; omega
/-- behind the first loop -/
structure C1 (B0 : Nat) (W3 : World) (xv : Value) (i : Nat) (wr : World) : Prop where
  x : NumR B0 xv (2 ^ i) wr
  below : Below W3.heap.size W3 wr
theorem c1_step {B0 : Nat} {W3 w1 w2 : World} {xv v : Value} {i : Nat} (h : C1 B0 W3 xv i w1) (hB : B0 ≤ w1.heap.size) (hv : (Kd.int .i64).R 3 w2 w1.heap.size (fun _ => True) v (digs (2 ^ i * 2))) (hb : Below w1.heap.size w1 w2) : C1 B0 W3 v (i + 1) w2 :=
  ⟨by unfold NumR; rw [Nat.pow_succ]; exact Kd.R_lower hv hB, below_tr h.below hb⟩
structure C2 (B0 S : Nat) (one : Bool) (qs : List (List Int)) (b : List Int) (bits : Nat) (W3 : World) (xv yv : Value) (i : Nat) (wr : World) : Prop where
  x : NumR B0 xv (2 ^ bits * xP one qs b i) wr
  y : NumR B0 yv (yP S one qs b i) wr
  below : Below W3.heap.size W3 wr
theorem c2_step {B0 S : Nat} {one : Bool} {qs : List (List Int)} {b : List Int} {bits : Nat} {W3 w1 w3 : World} {xv yv v u : Value} {i : Nat} (h : C2 B0 S one qs b bits W3 xv yv i w1)
    (hv : NumR B0 v (2 ^ bits * xP one qs b i * cntC (qAt one qs b i) (b.getD i 0)) w3) (hu : NumR B0 u (yP S one qs b i * (S + posC (qAt one qs b i) (qAt one qs b i).length - 1)) w3) (hb : Below w1.heap.size w1 w3) : C2 B0 S one qs b bits W3 v u (i + 1) w3 :=
  ⟨by unfold xP; rw [← Nat.mul_assoc]; exact hv, hu, below_tr h.below hb⟩
theorem rTimes_n (A : Option Addr) (cp : Nat) (w : World) (n f m : Nat) (hm : m = (digs n).length) (hf : 0 < f) (hf2 : f ≤ 100000) (hl : m ≤ 1000000) (hr : (Kd.int .i64).C w A m (digs n)) (hc : m ≤ cp) : Calls Tryz.prog 49 #[.slice A m cp, .int .i64 f] w (MadeI (digs (n * f)) w) := by
  subst hm; exact rTimes_any A cp w n f hf hf2 hl hr hc
set_option maxRecDepth 100000 in
set_option maxHeartbeats 2000000 in
theorem rCheap_any (g : Nat) (one : Bool) (A B : Option Addr) (c cb bits : Nat) (qs : List (List Int)) (b : List Int) (w : World) (hr : kq.C w A qs.length qs) (hb : (Kd.int .u8).C w B b.length b) (hcb : b.length ≤ cb) (hby : Bytes b) (hcan : canM g one qs b = true) (hl : b.length ≤ 60) (h0 : 0 < b.length) (hbits : bits = (encT one qs 0 0 b).2.length) (hb1 : bits ≤ 1000) (h1 : one = true → 0 < (qs.getD 0 []).length) :
    Calls Tryz.prog 20 #[.agg #[.int .i64 g, .bool one, .slice A qs.length c], .slice B b.length cb, .int .i64 bits] w (Ret (.bool true) w) := by
  obtain ⟨W1, hW1⟩ : ∃ W1, W1 = w.alloc (.cells #[.int .i64 g, .bool one, .slice A qs.length c] 31) := ⟨_, rfl⟩
  have HB := Lib.hid ((Below.refl w.heap.size w).alloc (Nat.le_refl _) (.cells #[.int .i64 g, .bool one, .slice A qs.length c] 31))
  have hk1 : W1.heap[w.heap.size]? = some (.cells #[.int .i64 g, .bool one, .slice A qs.length c] 31 (0, 0)) := by rw [hW1]; exact blk_new _ _
  have HR : Hid (kq.C W1 A qs.length qs) := Lib.hid (by rw [hW1]; exact Kd.C_alloc hr _)
  have HBB : Hid ((Kd.int .u8).C W1 B b.length b) := Lib.hid (by rw [hW1]; exact Kd.C_alloc hb _)
  rw [← hW1] at HB
  have HE := Lib.hid (cheap_end hcan hby h0)
  rw [← hbits, show ((g : Int)).toNat = g by simp] at HE
  have hfit := (can_log hcan).1
  have HX := Lib.hid (And.intro hcb (And.intro hby (And.intro hfit (And.intro hl (And.intro h0 h1)))))
  have HK := Lib.hid hk1
  have hg : g ≤ 12 := by have := (right_len (fits_right hfit)).2.1; omega
  obtain ⟨⟨m0, m1, m2⟩, _⟩ := cell3 hk1
  have HLT := Lib.hid (blk_lt hk1)
  clear hr hb hcb hby hcan hl h0 hbits h1 hk1 hfit
  have hwr : Hid (wrap64 ((2 : Int) ^ g) = ((2 ^ g : Nat) : Int)) := by
    have := pow_le12 hg
    have e : (2 : Int) ^ g = ((2 ^ g : Nat) : Int) := by simp
    exact Lib.hid (by rw [← e]; exact w64 (by omega))
  obtain ⟨W3, hW3⟩ : ∃ W3, W3 = (W1.alloc (.cells #[.int .i64 1] 3)).alloc (.cells #[.int .i64 1] 3) := ⟨_, rfl⟩
  have HB3 : Hid (Below W1.heap.size W1 W3) := Lib.hid (by rw [hW3]; exact below_al (below_al (Below.refl _ _) _) _)
  have hsz : W1.heap.size = w.heap.size + 1 := by rw [hW1]; simp
  have HX0 : Hid (NumR w.heap.size (.slice (some ⟨w.heap.size + 1, 0, none⟩) 1 1) 1 W3) := Lib.hid (by
    unfold NumR
    rw [digs_one, hW3, ← hsz]
    exact Kd.R_alloc (row_lit .i64 3 W1 w.heap.size (fun _ => True) trivial (by have := HB.out.size; omega) [1] (by simp)) _)
  have HY0 : Hid (NumR w.heap.size (.slice (some ⟨w.heap.size + 1 + 1, 0, none⟩) 1 1) 1 W3) := Lib.hid (by
    unfold NumR
    rw [digs_one, hW3, ← hsz]
    have := row_lit .i64 3 (W1.alloc (.cells #[.int .i64 1] 3)) w.heap.size (fun _ => True) trivial (by have := HB.out.size; simp; omega) [1] (by simp)
    simp only [World.size_alloc] at this
    exact this)
  have HSZ := Lib.hid hsz
  clear hsz
  go_enter Tryz.func20, Tryz.ntmps20
  go_wp2_with fail
  rw [← hW1, ← hW3]
  rw [hwr.out]
  clear hW1 hW3 hwr m0 m1 m2
  obtain ⟨gs, hgs⟩ : ∃ gs : Nat, gs = 2 ^ g := ⟨_, rfl⟩
  rw [← hgs] at HE ⊢
  have HGS : Hid (1 ≤ gs ∧ gs ≤ 4096) := by
    have h1 := pow_le12 hg
    have e : (2 : Int) ^ g = ((2 ^ g : Nat) : Int) := by simp
    rw [e] at h1
    rw [hgs]; exact ⟨Nat.one_le_two_pow, by omega⟩
  clear hgs
  have HSW : Hid (w.heap.size ≤ W3.heap.size) := Lib.hid (Nat.le_trans HB.out.size HB3.out.size)
  go_loopw [8, 10] (fun xv kv wr => ∃ (i : Nat), kv = .int .i64 i ∧ i ≤ bits ∧ Hid (C1 w.heap.size W3 xv i wr)) (fun _ kv _ => bits - (intOf kv).toNat)
  case atStart => exact ⟨0, rfl, by omega, Lib.hid ⟨HX0.out, Below.refl _ _⟩⟩
  case round =>
    obtain ⟨i, rfl, hi, H⟩ := hrel
    obtain ⟨Ax, cx, rfl, hcx, hx⟩ := num_reads H.out.x
    have HV := Lib.hid (And.intro hcx hx)
    clear hcx hx
    have hB : Hid (w.heap.size ≤ wr.heap.size) := Lib.hid (Nat.le_trans HSW.out H.out.below.size)
    have hdl : (digs (2 ^ i)).length ≤ 200 := two_words (by omega)
    obtain ⟨n, hn⟩ : ∃ n, n = (digs (2 ^ i)).length := ⟨_, rfl⟩
    rw [← hn] at H hdl ⊢
    have HN := Lib.hid hn
    clear hn
    by_cases hlt : i < bits
    · have hiI : (i : Int) < (bits : Int) := by omega
      go_wp2_with fail
      have hE := rTimes_any Ax cx wr (2 ^ i) 2 (by omega) (by omega) (by rw [← HN.out]; omega) HV.out.2 HV.out.1
      rw [← HN.out] at hE
      refine hE.mono ?_
      clear hE
      rintro e w2 ⟨v, rfl, hv, hb2⟩
      have hC : Hid (C1 w.heap.size W3 v (i + 1) w2) := Lib.hid (c1_step (xv := .slice Ax n cx) H.out hB.out hv hb2)
      clear hv hb2
      go_wp2_with fail
      go_roundw
      case rel => exact ⟨i + 1, by go_num, by omega, hC⟩
      case measure => simp [intOf]; omega
    · obtain rfl : bits = i := by omega
      go_wp2_with fail
      have HX1 := Lib.hid H.out.x
      have HBW := Lib.hid H.out.below
      have hYw : Hid (C2 w.heap.size gs one qs b bits W3 (.slice Ax n cx) (.slice (some ⟨w.heap.size + 1 + 1, 0, none⟩) 1 1) 0 wr) := Lib.hid ⟨by simp only [xP, Nat.mul_one]; exact H.out.x, by simp only [yP]; exact Kd.R_below HY0.out H.out.below, H.out.below⟩
      clear H hlt hi HN hdl HX1 HBW hB HV HX0 HY0
      have hl60 := HX.out.2.2.2.1
      go_loopw [8, 9, 11] (fun xv yv kv wr => ∃ (i : Nat), kv = .int .i64 i ∧ i ≤ b.length ∧ Hid (C2 w.heap.size gs one qs b bits W3 xv yv i wr)) (fun _ _ kv _ => b.length - (intOf kv).toNat)
      case atStart => exact ⟨0, rfl, by omega, hYw⟩
      case round =>
        clear hYw
        obtain ⟨i, rfl, hi, H⟩ := hrel
        by_cases hlt : i < b.length
        · have hF := q_facts HX.out.2.2.1 HX.out.2.1 i hlt
          obtain ⟨bi, hbi, hbl, hbc⟩ := hF.get
          have hxw := prod_words (bits := bits) (k := 200) (i := i) (xP_short (one := one) (qs := qs) (b := b) i (fun j hj => by have := (q_facts HX.out.2.2.1 HX.out.2.1 j (by omega)).cnt.2; omega)) (by omega)
          have hyw := pow_words (k := 61) (i := i) (yP_short (S := gs) (one := one) (qs := qs) (b := b) i (fun j hj => by have := (q_facts HX.out.2.2.1 HX.out.2.1 j (by omega)).pos; have := HGS.out; omega)) (by omega)
          have HW := Lib.hid (And.intro hxw hyw)
          have HC := Lib.hid (fun v u w3 => c2_step (v := v) (u := u) (w3 := w3) H.out)
          obtain ⟨ct, hct⟩ : ∃ ct, ct = cntC (qAt one qs b i) (b.getD i 0) := ⟨_, rfl⟩
          obtain ⟨po, hpo⟩ : ∃ po, po = posC (qAt one qs b i) (qAt one qs b i).length := ⟨_, rfl⟩
          obtain ⟨X, hX⟩ : ∃ X, X = 2 ^ bits * xP one qs b i := ⟨_, rfl⟩
          obtain ⟨Y, hY⟩ : ∃ Y, Y = yP gs one qs b i := ⟨_, rfl⟩
          obtain ⟨x, hx⟩ : ∃ x : Nat, ctxI b i = x := ⟨(ctxI b i).toNat, by have := hF.ctx; omega⟩
          have hx256 : x < 256 := by have := hF.ctx; omega
          have HNX := H.out.x
          have HNY := H.out.y
          rw [← hX] at HNX hxw HW HC
          rw [← hY] at HNY hyw HW HC
          rw [← hct, ← hpo] at HC
          rw [← hct] at hbc
          obtain ⟨q, hq⟩ : ∃ q, q = qAt one qs b i := ⟨_, rfl⟩
          have hq2 : qs.getD (listI one x) [] = q := by rw [hq]; unfold qAt; rw [hx]
          have hF2 := hF.pos
          have hF1 := hF.pos1
          have hF3 := hF.cnt
          have hF4 := hF.len
          rw [← hpo] at hF2 hF1
          rw [← hct] at hF3
          rw [← hq] at hbl hbc hpo hF4
          have HA := rMAt_any (g : Int) one A c qs x
          rw [hq2] at HA
          have HAt := Lib.hid HA
          have HBW := Lib.hid (below_tr HB3.out H.out.below)
          have HCX := Lib.hid (show ∀ W : World, Below wr.heap.size wr W → Calls Tryz.prog 51 #[.slice B b.length cb, .int .i64 i] W (Ret (.int .i64 x) W) from fun W hW => by
            have := rAt_any B cb b W (Kd.C_below HBB.out (below_tr HBW.out hW)) HX.out.1 HX.out.2.1 (by omega) i
            rw [hx] at this; exact this)
          have HAX := Lib.hid (show ∀ W : World, Below wr.heap.size wr W → Calls Tryz.prog 50 #[.agg #[.int .i64 g, .bool one, .slice A qs.length c], .int .i64 x] W (AtPost q W) from fun W hW =>
            HAt.out W (Kd.C_below HR.out (below_tr HBW.out hW)) (fits_right HX.out.2.2.1) HX.out.2.2.2.2.2 hx256)
          have HNXY := Lib.hid (And.intro HNX HNY)
          have HBI := Lib.hid (And.intro hbi hbc)
          have HPO := Lib.hid hpo
          obtain ⟨⟨m0, m1, m2⟩, _⟩ := cell3 (blk_below HK.out HBW.out)
          have hBs : Hid (w.heap.size ≤ wr.heap.size) := Lib.hid (Nat.le_trans HB.out.size HBW.out.size)
          have hbs1 := HGS.out.1
          have hbs2 := HGS.out.2
          have hf1 := hF3.1
          have hf2 := hF3.2
          have hiI : (i : Int) < (b.length : Int) := by omega
          clear HA HAt hq2 hF hct hX hY hx hq HNX HNY hbi hbc hpo H hxw hyw hi hF3
          obtain ⟨Ax, cx, rfl, hcx, hxc⟩ := num_reads HNXY.out.1
          obtain ⟨Ay, cy, rfl, hcy, hyc⟩ := num_reads HNXY.out.2
          have HXC := Lib.hid (And.intro hcx hxc)
          have HYC := Lib.hid (And.intro hcy hyc)
          obtain ⟨nx, hnx⟩ : ∃ nx, nx = (digs X).length := ⟨_, rfl⟩
          obtain ⟨ny, hny⟩ : ∃ ny, ny = (digs Y).length := ⟨_, rfl⟩
          rw [← hnx, ← hny] at HW
          rw [← hnx] at HXC ⊢
          rw [← hny] at HYC ⊢
          have HNN := Lib.hid (And.intro hnx hny)
          clear hcx hxc hcy hyc hnx hny
          go_wp2_with fail
          go_region_held3 (fun w' => w'.cell? ⟨w.heap.size, 0, none⟩ = some (.int .i64 g) ∧ w'.cell? ⟨w.heap.size, 1, none⟩ = some (.bool one) ∧ w'.cell? ⟨w.heap.size, 2, none⟩ = some (.slice A qs.length c)) ((repeat' apply And.intro) <;> first | assumption)
            (first
              | (go_at_call 51; refine (HCX.out _ (Below.refl _ _).drew).mono ?_; rintro e w2 ⟨rfl, hb2⟩; have HV2 := Lib.hid (show Below wr.heap.size wr w2 from ⟨hb2.os, hb2.tape, hb2.output, hb2.size, hb2.block⟩); obtain ⟨k0, k1, k2⟩ := mcells HV2.out (Nat.lt_of_lt_of_le HLT.out HBW.out.size) m0 m1 m2; clear hb2)
              | (go_at_call 50; refine (HAX.out _ HV2.out).mono ?_; rintro e w7 ⟨Bq, cq, rfl, hcq, hqC, hb7⟩; have HV7 := Lib.hid (And.intro hcq (And.intro hqC (below_tr HV2.out hb7))); obtain ⟨l0, l1, l2⟩ := mcells HV7.out.2.2 (Nat.lt_of_lt_of_le HLT.out HBW.out.size) m0 m1 m2; clear hcq hqC hb7))
          have HBC := Lib.hid (Kd.C_below HBB.out (below_tr HBW.out HV7.out.2.2))
          obtain ⟨adb, rfl, hcb0⟩ := ints_get HBC.out i (by omega)
          obtain ⟨adq, rfl, hcq0⟩ := ints_get HV7.out.2.1 bi hbl
          rw [HBI.out.1] at hcb0
          rw [HBI.out.2] at hcq0
          have hcb1 : w7.cell? (adb.add i) = some (.int .u8 (bi : Int)) := hcb0
          have hcq1 : w7.cell? (adq.add bi) = some (.int .i64 (ct : Int)) := hcq0
          have hbiI : (bi : Int) < (q.length : Int) := by omega
          have HN1 := Lib.hid (show nx ≤ 200 ∧ ny ≤ 200 from ⟨HW.out.1, by have := HW.out.2; omega⟩)
          have HTX := Lib.hid (rTimes_n Ax cx w7 X ct nx HNN.out.1 hf1 (by omega) (by have := HN1.out; omega) (Kd.C_below HXC.out.2 HV7.out.2.2) HXC.out.1)
          have HCQ := Lib.hid (And.intro hbl hcq0)
          clear hcb0 hcq0 hbl k0 k1 k2 l0 l1 l2 m0 m1 m2
          go_wp2_with fail
          refine HTX.out.mono ?_
          rintro e w8 ⟨vx, rfl, hvx, hb8⟩
          have HV8 := Lib.hid (And.intro hvx hb8)
          have hB8 := Lib.hid (below_tr HV7.out.2.2 hb8)
          have HMa := Lib.hid (rMany12_any (some adq) cq w8 q (Kd.C_below HV7.out.2.1 hb8) HV7.out.1 hF4)
          rw [← HPO.out] at HMa
          clear hvx hb8
          go_wp2_with fail
          refine HMa.out.mono ?_
          rintro e w9 ⟨rfl, hb9⟩
          have HB9 := Lib.hid (below_tr hB8.out hb9)
          have HV9 := Lib.hid (Kd.R_below HV8.out.1 hb9)
          have HTY := Lib.hid (rTimes_n Ay cy w9 Y (gs + po - 1) ny HNN.out.2 (by omega) (by omega) (by have := HN1.out; omega) (Kd.C_below HYC.out.2 HB9.out) HYC.out.1)
          clear hb9
          go_wp2_with fail
          rw [show ((gs : Int) + (po : Int) - 1) = ((gs + po - 1 : Nat) : Int) by omega]
          refine HTY.out.mono ?_
          rintro e w10 ⟨vy, rfl, hvy, hb10⟩
          have HCC : Hid (C2 w.heap.size gs one qs b bits W3 vx vy (i + 1) w10) := Lib.hid (HC.out vx vy w10 (Kd.R_below (Kd.R_lower HV9.out (Nat.le_trans hBs.out HV7.out.2.2.size)) hb10) (Kd.R_lower hvy (Nat.le_trans hBs.out HB9.out.size)) (below_tr HB9.out hb10))
          clear hvy hb10
          go_wp2_with fail
          go_roundw
          case rel => exact ⟨i + 1, by go_num, by omega, HCC⟩
          case measure => simp [intOf]; omega
        · obtain rfl : i = b.length := by omega
          have hxw := prod_words (bits := bits) (k := 200) (i := b.length) (xP_short (one := one) (qs := qs) (b := b) b.length (fun j hj => by have := (q_facts HX.out.2.2.1 HX.out.2.1 j (by omega)).cnt.2; omega)) (by omega)
          obtain ⟨X, hX⟩ : ∃ X, X = 2 ^ bits * xP one qs b b.length := ⟨_, rfl⟩
          obtain ⟨Y, hY⟩ : ∃ Y, Y = yP gs one qs b b.length := ⟨_, rfl⟩
          have HNX := H.out.x
          have HNY := H.out.y
          have HBW := Lib.hid H.out.below
          rw [← hX, ← hY] at HE
          rw [← hX] at HNX hxw
          rw [← hY] at HNY
          clear H hX hY
          obtain ⟨Ax, cx, rfl, hcx, hxc⟩ := num_reads HNX
          obtain ⟨Ay, cy, rfl, hcy, hyc⟩ := num_reads HNY
          have hE := rAbove_any Ax cx wr X Y Ay cy (by omega) hxc hcx hyc hcy
          rw [decide_eq_false (by have := HE.out; omega)] at hE
          have HA := Lib.hid hE
          clear hE hxc hcx hyc hcy HNX HNY hxw
          go_wp2_with fail
          refine HA.out.mono ?_
          rintro e w2 ⟨rfl, hb2⟩
          have HB2 := Lib.hid hb2
          clear hb2
          go_wp2_with fail
          go_ret
          exact ⟨rfl, below_tr (below_tr (below_tr HB.out HB3.out) HBW.out) HB2.out⟩
end Go.Proofs.YtgjghcpaokfniaaGreat
namespace Go.Proofs.YtgjghcpaokfniaaGreat
open Go.RowKit Go.IntWalk Go.Proofs.YtgjghcpaokfniaaGreatW.PrintWords
theorem encN_len12 {lg : Int} {one : Bool} {qs : List (List Int)} {b : List Int} (h : fitsM lg one qs b = true) (hb : Bytes b) : ∀ k, k ≤ b.length → (encN one qs b k).2.length ≤ 12 * k
  | 0, _ => by simp [encN]
  | k + 1, hk => by
    have ih := encN_len12 h hb k (by omega)
    have hf := fit_count h hb (b.length - 1 - k) (by omega)
    have hr := encN_range h hb k (by omega)
    simp only [encN, List.length_append, lowBits_len]
    have e : lg.toNat = logC (qAt one qs b (b.length - 1 - k)) := by omega
    have hx : ∀ x : Int, 0 ≤ x → x < 2 ^ lg.toNat → stepOut (qAt one qs b (b.length - 1 - k)) x (b.getD (b.length - 1 - k) 0) ≤ 12 := fun x h0 h1 => by
      have h2 := (step_nums (s := b.getD (b.length - 1 - k) 0) hf.1 ⟨h0, by rw [← e]; exact h1⟩ hf.2.2).1.nr
      have h4 : logC (qAt one qs b (b.length - 1 - k)) ≤ 12 := logT_le _
      omega
    have := hx (if (b.length - 1 - k) % 2 = 0 then (encN one qs b k).1.1 else (encN one qs b k).1.2) (by split; exact hr.1; exact hr.2.2.1) (by split; exact hr.2.1; exact hr.2.2.2)
    omega
theorem encBits_len12 {lg : Int} {one : Bool} {qs : List (List Int)} {b : List Int} (h : fitsM lg one qs b = true) (hb : Bytes b) : (encBits lg one qs b).length ≤ 12 * b.length + 24 := by
  have h1 := encN_len12 h hb b.length (Nat.le_refl _)
  have h2 := right_len (fits_right h)
  simp only [encBits, List.length_append, lowBits_len]; omega
end Go.Proofs.YtgjghcpaokfniaaGreat
