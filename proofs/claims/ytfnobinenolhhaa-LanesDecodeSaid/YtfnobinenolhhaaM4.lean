/- Plain: what the printed references of counts answer (right, total, log). -/
import Derived.Test.YtfnobinenolhhaaWApart
import Derived.Test.YtfnobinenolhhaaR1
import Derived.Test.YtfnobinenolhhaaM1
import Derived.Test.YtfnobinenolhhaaWEqStruct
import Derived.Test.YtfnobinenolhhaaWInv
import Derived.Test.YtfnobinenolhhaaWRepsOne
import Derived.Test.YtfnobinenolhhaaWAt
import Derived.Test.YtfnobinenolhhaaWInvWords
import Derived.Test.YtfnobinenolhhaaWFootNe
import Derived.Test.YtfnobinenolhhaaWFoot
import Derived.Test.YtfnobinenolhhaaWShare
import Derived.Test.YtfnobinenolhhaaWWords
import Derived.Test.YtfnobinenolhhaaWFour
import Derived.Test.YtfnobinenolhhaaWMore
import Derived.Test.YtfnobinenolhhaaWArr
import Derived.Test.YtfnobinenolhhaaWQPut
import Derived.Test.YtfnobinenolhhaaWTab
import Derived.Test.YtfnobinenolhhaaWZeros
import Derived.Test.YtfnobinenolhhaaWKept
import Derived.Test.YtfnobinenolhhaaWN
import Derived.Test.YtfnobinenolhhaaWNEv
import Derived.Test.YtfnobinenolhhaaR2
import Derived.Test.YtfnobinenolhhaaWLast
import Derived.Test.YtfnobinenolhhaaWGuard
import Derived.Test.YtfnobinenolhhaaM2
import Derived.Test.YtfnobinenolhhaaM0
import Derived.Deep.LoopGhost
import Derived.Laws.Rows
import Derived.Deep.DeepCutAuto
import Derived.Deep.RegionHeld3
namespace Go.Proofs.Ytfnobinenolhhaa
open Go.RowKit Go.Proofs.Ytfnobinenolhhaa.PRef Go.Proofs.YtfnobinenolhhaaW.PrintWords Go.Proofs.YtfnobinenolhhaaW.PrintLast Go.Proofs.YtfnobinenolhhaaW.PrintMore
theorem rd_nat (xs : List Int) (i : Nat) : rd xs (i : Int) = xs.getD i 0 := rfl
theorem wS (i : Nat) (h : i ≤ 1000000000) : wrap64 ((i : Int) + 1) = ((i + 1 : Nat) : Int) := by rw [w64 (by omega)]; simp
theorem take_snoc_mem {c : List Int} {i : Nat} (h : i < c.length) {P : Int → Prop} (h1 : ∀ x ∈ c.take i, P x) (h2 : P (c.getD i 0)) : ∀ x ∈ c.take (i + 1), P x := by
  intro x hx
  rw [List.take_succ_eq_append_getElem h] at hx
  rcases List.mem_append.1 hx with hx | hx
  · exact h1 x hx
  · rw [List.mem_singleton.1 hx]
    rw [List.getD_eq_getElem?_getD, List.getElem?_eq_getElem h] at h2; exact h2
theorem getD_mem {c : List Int} {i : Nat} (h : i < c.length) : c.getD i 0 ∈ c := by
  rw [List.getD_eq_getElem?_getD, List.getElem?_eq_getElem h]; exact List.getElem_mem h
theorem refRight_loop (c : List Int) (hl : c.length = 256) : ∀ (d i : Nat) (s : Int), i + d = 256 → i ≤ 256 → s = (c.take i).sum → (∀ x ∈ c.take i, 0 ≤ x ∧ x ≤ 1073741824) → 0 ≤ s → s ≤ i * 1073741824 →
    Ev (fun k => puncheonref05_Right.l0 k c s (i : Int)) (rightC c) := by
  intro d
  induction d with
  | zero =>
    intro i s hd hi hs ha h0 h1
    refine Ev.step (fun k => (show puncheonref05_Right.l0 (k + 1) c s (i : Int) = _ by simp only [puncheonref05_Right.l0]; rw [if_neg (by omega)])) ?_
    rw [List.take_of_length_le (by omega)] at hs ha
    have e : rightC c = decide (s ≤ 1073741824) := by
      unfold rightC; rw [hs]; exact decide_eq_decide.2 ⟨fun h => h.2.2, fun h => ⟨hl, fun x hx => (ha x hx).1, h⟩⟩
    rw [e]; exact Ev.now _
  | succ d ih =>
    intro i s hd hi hs ha h0 h1
    have hlt : i < c.length := by omega
    have hts := take_sum hlt
    by_cases hn : c.getD i 0 < 0
    · refine Ev.step (fun k => (show puncheonref05_Right.l0 (k + 1) c s (i : Int) = _ by simp only [puncheonref05_Right.l0]; rw [if_pos (by omega), if_pos (by omega), if_pos (by omega), rd_nat, if_pos hn])) ?_
      have e : rightC c = false := by
        rw [← Bool.not_eq_true, rightC_iff]; intro h
        have := h.2.1 _ (getD_mem hlt); omega
      rw [e]; exact Ev.now _
    · by_cases hb : c.getD i 0 > 1073741824
      · refine Ev.step (fun k => (show puncheonref05_Right.l0 (k + 1) c s (i : Int) = _ by simp only [puncheonref05_Right.l0]; rw [if_pos (by omega), if_pos (by omega), if_pos (by omega), rd_nat, if_neg hn, if_pos hb])) ?_
        have e : rightC c = false := by
          rw [← Bool.not_eq_true, rightC_iff]; intro h
          have := le_sum h.2.1 (getD_mem hlt); omega
        rw [e]; exact Ev.now _
      · refine Ev.step (fun k => (show puncheonref05_Right.l0 (k + 1) c s (i : Int) = _ by simp only [puncheonref05_Right.l0]; rw [if_pos (by omega), if_pos (by omega), if_pos (by omega), rd_nat, if_neg hn, if_neg hb, wS i (by omega), w64 (n := s + c.getD i 0) (by omega)])) ?_
        exact ih (i + 1) _ (by omega) (by omega) (by rw [hts, hs]) (take_snoc_mem hlt ha (by omega)) (by omega) (by omega)
theorem refRight_eq (c : List Int) : Ev (fun k => puncheonref05_Right.f k c) (rightC c) := by
  by_cases hl : c.length = 256
  · refine Ev.congr (fun k => (show puncheonref05_Right.f k c = _ by unfold puncheonref05_Right.f; rw [if_pos (by omega)])) ?_
    exact refRight_loop c hl 256 0 0 (by omega) (by omega) (by simp) (by simp) (by omega) (by omega)
  · refine Ev.congr (fun k => (show puncheonref05_Right.f k c = _ by unfold puncheonref05_Right.f; rw [if_neg (by omega)])) ?_
    have e : rightC c = false := by rw [← Bool.not_eq_true, rightC_iff]; exact fun h => hl h.1
    rw [e]; exact Ev.now _
theorem refTotal_loop (c : List Int) (hr : rightC c = true) : ∀ (d i : Nat) (s : Int), c.length - i = d → i ≤ c.length → s = (c.take i).sum → Ev (fun k => puncheonref05_Total.l0 k c s true (i : Int)) c.sum
  | 0, i, s, hd, hi, hs => by
    refine Ev.step (fun k => (show puncheonref05_Total.l0 (k + 1) c s true (i : Int) = _ by simp only [puncheonref05_Total.l0]; rw [if_neg (by omega)])) ?_
    rw [List.take_of_length_le (by omega)] at hs
    rw [← hs]; exact Ev.now _
  | d + 1, i, s, hd, hi, hs => by
    have hlt : i < c.length := by omega
    have hts := take_sum hlt
    have hR := rightC_iff.1 hr
    have h1 := take_sum_le hR.2.1 (i + 1)
    have h2 : 0 ≤ (c.take (i + 1)).sum := sum_nonneg (fun x hx => hR.2.1 x (List.mem_of_mem_take hx))
    refine Ev.step (fun k => (show puncheonref05_Total.l0 (k + 1) c s true (i : Int) = _ by simp only [puncheonref05_Total.l0]; rw [if_pos (by omega), if_pos trivial, if_pos (by omega), rd_nat, wS i (by omega), w64 (n := s + c.getD i 0) (by omega)])) ?_
    exact refTotal_loop c hr d (i + 1) _ (by omega) (by omega) (by rw [hts, hs])
theorem refTotal_eq (c : List Int) : Ev (fun k => puncheonref05_Total.f k c) (totalC c) := by
  unfold puncheonref05_Total.f
  refine Ev.bind (refRight_eq c) ?_
  unfold totalC
  cases hr : rightC c with
  | true => rw [if_pos rfl]; exact refTotal_loop c hr _ 0 0 rfl (by omega) (by simp)
  | false =>
    rw [if_neg (by decide)]
    refine Ev.step (fun k => (show puncheonref05_Total.l0 (k + 1) c 0 false 0 = some 0 by simp only [puncheonref05_Total.l0]; split <;> simp)) (Ev.now _)
theorem refPower_loop (r : Nat) (hr : r ≤ 30) : ∀ (d i : Nat), r - i = d → i ≤ r → Ev (fun k => puncheonref08_power.l0 k (r : Int) ((2 ^ i : Nat) : Int) (i : Int)) ((2 ^ r : Nat) : Int)
  | 0, i, hd, hi => by
    obtain rfl : i = r := by omega
    exact Ev.step (fun k => (show puncheonref08_power.l0 (k + 1) (i : Int) _ (i : Int) = _ by simp only [puncheonref08_power.l0]; rw [if_neg (by omega)])) (Ev.now _)
  | d + 1, i, hd, hi => by
    have hp : 2 ^ (i + 1) ≤ 2 ^ 30 := Nat.pow_le_pow_right (by omega) (by omega)
    have e : (2 : Int) * ((2 ^ i : Nat) : Int) = ((2 ^ (i + 1) : Nat) : Int) := by rw [Nat.pow_succ]; omega
    have e2 : wrap64 ((2 ^ (i + 1) : Nat) : Int) = ((2 ^ (i + 1) : Nat) : Int) := by
      generalize 2 ^ (i + 1) = P at hp ⊢
      exact w64 (by omega)
    refine Ev.step (fun k => (show puncheonref08_power.l0 (k + 1) (r : Int) _ (i : Int) = _ by simp only [puncheonref08_power.l0]; rw [if_pos (by omega), wS i (by omega), e, e2])) ?_
    exact refPower_loop r hr d (i + 1) (by omega) (by omega)
theorem refPower_eq (r : Nat) (hr : r ≤ 30) : Ev (fun k => puncheonref08_power.f k (r : Int)) ((2 ^ r : Nat) : Int) := by
  unfold puncheonref08_power.f; exact refPower_loop r hr r 0 (by omega) (by omega)
theorem refLog_loop (t : Int) : ∀ (d i : Nat), i + d = 13 → 1 ≤ i → i ≤ 13 → (∀ r, 1 ≤ r → r < i → t ≠ 2 ^ r) → Ev (fun k => puncheonref08_Log.l0 k t (i : Int)) ((logT t : Nat) : Int)
  | 0, i, hd, h1, hi, hn => by
    obtain rfl : i = 13 := by omega
    rw [logT_none (fun r a b => hn r a (by omega))]
    exact Ev.step (fun k => (show puncheonref08_Log.l0 (k + 1) t ((13 : Nat) : Int) = _ by simp only [puncheonref08_Log.l0]; rw [if_neg (by decide)]; rfl)) (Ev.now _)
  | d + 1, i, hd, h1, hi, hn => by
    refine Ev.step (fun k => (show puncheonref08_Log.l0 (k + 1) t (i : Int) = _ by simp only [puncheonref08_Log.l0]; rw [if_pos (by omega)])) ?_
    refine Ev.bind (refPower_eq i (by omega)) ?_
    have e : ((2 ^ i : Nat) : Int) = 2 ^ i := by simp
    by_cases ht : t = 2 ^ i
    · refine Ev.congr (fun k => if_pos (by rw [e]; exact ht)) ?_
      rw [logT_found h1 (by omega) ht]; exact Ev.now _
    · refine Ev.congr (fun k => (if_neg (by rw [e]; exact ht)).trans (by rw [wS i (by omega)])) ?_
      refine refLog_loop t d (i + 1) (by omega) (by omega) (by omega) (fun r a b => ?_)
      by_cases hri : r = i
      · rw [hri]; exact ht
      · exact hn r a (by omega)
theorem refLog_eq (c : List Int) : Ev (fun k => puncheonref08_Log.f k c) ((logC c : Nat) : Int) := by
  unfold puncheonref08_Log.f
  exact Ev.bind (refTotal_eq c) (refLog_loop _ 12 1 (by omega) (by omega) (by omega) (fun r a b => by omega))
end Go.Proofs.Ytfnobinenolhhaa
namespace Go.Proofs.Ytfnobinenolhhaa
open Go.RowKit Go.Proofs.Ytfnobinenolhhaa.PRef Go.Proofs.YtfnobinenolhhaaW.PrintWords Go.Proofs.YtfnobinenolhhaaW.PrintLast Go.Proofs.YtfnobinenolhhaaW.PrintMore
theorem refFloor_loop (n : Nat) (hn : n < 2 ^ 40) : ∀ (d j : Nat), j + d = 41 → (j = 0 ∨ 2 ^ j ≤ n) → Ev (fun k => puncheonref07_Floor.l0 k (n : Int) (j : Int) ((2 ^ (j + 1) : Nat) : Int)) ((floorI n : Nat) : Int) := by
  intro d
  induction d with
  | zero =>
    intro j hj h
    have : 2 ^ 40 ≤ 2 ^ j := Nat.pow_le_pow_right (by omega) (by omega)
    exfalso; omega
  | succ d ih =>
    intro j hj h
    have hp : 2 ^ (j + 2) ≤ 2 ^ 43 := Nat.pow_le_pow_right (by omega) (by omega)
    have e : wrap64 (2 * ((2 ^ (j + 1) : Nat) : Int)) = ((2 ^ (j + 1 + 1) : Nat) : Int) := by
      have : 2 ^ (j + 2) = 2 * 2 ^ (j + 1) := Nat.pow_succ'
      rw [show j + 1 + 1 = j + 2 by omega, this]
      rw [this] at hp
      generalize 2 ^ (j + 1) = P at hp ⊢
      rw [w64 (by omega)]; omega
    by_cases hc : 2 ^ (j + 1) ≤ n
    · refine Ev.step (fun k => (show puncheonref07_Floor.l0 (k + 1) (n : Int) (j : Int) _ = _ by simp only [puncheonref07_Floor.l0]; rw [if_pos (Int.ofNat_le.2 hc), if_pos (by omega), wS j (by omega), e])) ?_
      exact ih (j + 1) (by omega) (.inr hc)
    · refine Ev.step (fun k => (show puncheonref07_Floor.l0 (k + 1) (n : Int) (j : Int) _ = _ by simp only [puncheonref07_Floor.l0]; rw [if_neg (fun h => hc (Int.ofNat_le.1 h))])) ?_
      have ef : floorI (n : Int) = j := by
        rcases Nat.eq_zero_or_pos n with h0 | h0
        · subst h0
          have : j = 0 := by
            rcases h with h | h
            · exact h
            · have := Nat.two_pow_pos j; omega
          rw [this]; rfl
        · have h1 : 2 ^ j ≤ n := by
            rcases h with h | h
            · rw [h, Nat.pow_zero]; exact h0
            · exact h
          unfold floorI widthI
          rw [Int.toNat_natCast, bitLen_of h1 (by omega) (by omega)]; omega
      rw [ef]; exact Ev.now _
theorem refFloor_eq (n : Nat) (hn : n < 2 ^ 40) : Ev (fun k => puncheonref07_Floor.f k (n : Int)) ((floorI n : Nat) : Int) := by
  unfold puncheonref07_Floor.f; exact refFloor_loop n hn 41 0 rfl (.inl rfl)
end Go.Proofs.Ytfnobinenolhhaa
namespace Go.Proofs.Ytfnobinenolhhaa
open Go.RowKit
/-- the first of the counts, what is left, and who has had enough -/
def q0F (c : List Int) (P n : Int) (s : Nat) : Int := if c.getD s 0 * P / n = 0 then min (c.getD s 0) 1 else c.getD s 0 * P / n
/-- counts that can be normalized -/
structure Can (c : List Int) (r : Nat) : Prop where
  len : c.length = 256
  nonneg : ∀ x ∈ c, 0 ≤ x
  pos : 0 < c.sum
  le : c.sum ≤ 1073741824
  r1 : 1 ≤ r
  r12 : r ≤ 12
  many : c.countP (fun x => decide (0 < x)) ≤ 2 ^ r
theorem Can.get {c : List Int} {r : Nat} (h : Can c r) (s : Nat) : 0 ≤ c.getD s 0 ∧ c.getD s 0 ≤ c.sum := by
  by_cases hs : s < c.length
  · exact ⟨h.nonneg _ (getD_mem hs), le_sum h.nonneg (getD_mem hs)⟩
  · rw [List.getD_eq_getElem?_getD, List.getElem?_eq_none (by omega)]; have := h.pos; simp; omega
theorem Can.q0 {c : List Int} {r : Nat} (h : Can c r) (s : Nat) : 0 ≤ q0F c (2 ^ r) c.sum s ∧ q0F c (2 ^ r) c.sum s ≤ 4096 ∧ (0 < q0F c (2 ^ r) c.sum s ↔ 0 < c.getD s 0) ∧ c.getD s 0 * 2 ^ r ≤ (q0F c (2 ^ r) c.sum s + (if c.getD s 0 * 2 ^ r / c.sum = 0 then 0 else 1)) * c.sum := by
  have hg := h.get s
  have hp := h.pos
  have h2 := pow_le12 h.r12
  have hm0 : 0 ≤ c.getD s 0 * 2 ^ r := Int.mul_nonneg hg.1 (by omega)
  have hd0 : 0 ≤ c.getD s 0 * 2 ^ r / c.sum := Int.ediv_nonneg hm0 (by omega)
  have hdm := Int.mul_ediv_add_emod (c.getD s 0 * 2 ^ r) c.sum
  have hml := Int.emod_lt_of_pos (c.getD s 0 * 2 ^ r) hp
  have hmn := Int.emod_nonneg (c.getD s 0 * 2 ^ r) (b := c.sum) (by omega)
  have hle : c.getD s 0 * 2 ^ r / c.sum ≤ 2 ^ r := by
    refine Int.ediv_le_of_le_mul hp ?_
    rw [Int.mul_comm]; exact Int.mul_le_mul_of_nonneg_left hg.2 (by omega)
  unfold q0F
  by_cases e : c.getD s 0 * 2 ^ r / c.sum = 0
  · rw [if_pos e, if_pos e]
    rw [e, Int.mul_zero, Int.zero_add] at hdm
    refine ⟨by omega, by omega, by omega, ?_⟩
    by_cases e2 : c.getD s 0 = 0
    · rw [e2, show min (0 : Int) 1 = 0 by decide]; simp
    · rw [show min (c.getD s 0) 1 = 1 by omega]; omega
  · rw [if_neg e, if_neg e]
    refine ⟨hd0, by omega, ⟨fun _ => ?_, fun _ => by omega⟩, ?_⟩
    · by_cases e2 : c.getD s 0 = 0
      · rw [e2] at e; simp at e
      · omega
    · rw [Int.add_mul, Int.one_mul, Int.mul_comm (c.getD s 0 * 2 ^ r / c.sum)]; omega
end Go.Proofs.Ytfnobinenolhhaa
namespace Go.Proofs.Ytfnobinenolhhaa
open Go.RowKit Go.IntWalk Go.Proofs.Ytfnobinenolhhaa.PRef Go.Proofs.YtfnobinenolhhaaW.PrintWords Go.Proofs.YtfnobinenolhhaaW.PrintLast Go.Proofs.YtfnobinenolhhaaW.PrintMore
section
variable (A : Option Addr) (cp : Nat) (c : List Int) (w : World)
theorem rLog_any (hr : (Kd.int .i64).C w A c.length c) (hc : c.length ≤ cp) : Calls Try.prog 57 #[.slice A c.length cp] w (Ret (.int .i64 (logC c)) w) := by
  obtain ⟨k, hk⟩ := (refLog_eq c).rounds
  exact (puncheonref08_Log.calls k A cp c _ w hr hc hk).mono fun e w' h => ⟨h.1, h.2.below⟩
end
theorem made_i64 (n : Nat) (hn : n ≤ 1000000) (w : World) : (Instr.makeSlice 42 (.int .i64 n) (.int .i64 n)).run Try.prog w = .ok (.slice (some ⟨w.heap.size, 0, none⟩) n n) (w.alloc (.cells (madeCells #[.int .i64 0] n) 3)) := by
  obtain ⟨i0, hi, hzz⟩ := Option.map_eq_some_iff.1 infoInt
  simp only [Prod.mk.injEq] at hzz
  obtain ⟨hz0, hz1, hz2⟩ := hzz
  have hr := run_make (P := Try.prog) w 42 3 i0 (.int .i64 0) Try.underlying42 hi hz0 .i64 .i64 (n : Int) (n : Int) (by omega) (by omega) (by rw [hz2]; omega) (by omega)
  rw [hz1] at hr
  simpa [Value.cells] using hr
theorem made_rowK {α : Type} {enc : α → Value} {h1 : ∀ x, (enc x).oneCell' = true} (z0 : α) (t : TypeId) (hz : (enc z0).cells = #[enc z0]) (n : Nat) (hn : n ≤ 1000000) (W : World) (ok : Nat → Prop) (hok : ok W.heap.size) (base : Nat) (hb : base ≤ W.heap.size) : (Kd.scalar enc h1).R t (W.alloc (.cells (madeCells #[enc z0] n) t)) base ok (.slice (some ⟨W.heap.size, 0, none⟩) n n) (List.replicate n z0) := by
  have hr := Kd.reps_made (R := (Kd.scalar enc h1).M (W.alloc (.cells (madeCells #[enc z0] n) t)) base (fun k => ok k ∧ some k ≠ (Value.slice (some ⟨W.heap.size, 0, none⟩) n n).ownBlock)) (z := enc z0) (size := 1) (z0 := z0) (by rw [hz]; rfl) Nat.one_pos (by rw [hz]; rfl) n
  rw [hz, Nat.mul_one] at hr
  refine ⟨fun k hk => by cases hk; exact hok, _, ⟨?_, .inr ⟨W.heap.size, n, madeCells #[enc z0] n, by simp, hb, blk_new W _, by simp, by unfold maxLen; omega, ?_, ?_⟩⟩, hr⟩
  · simp [size_madeCells]; exact (Nat.mul_one n).symm
  · rw [size_madeCells]; exact (Nat.mul_one n).symm
  · rw [List.length_replicate]; exact List.take_of_length_le (by simp [size_madeCells]; exact Nat.le_of_eq (Nat.mul_one n).symm)
end Go.Proofs.Ytfnobinenolhhaa
namespace Go.Proofs.Ytfnobinenolhhaa
open Go.RowKit Go.IntWalk Go.Proofs.YtfnobinenolhhaaW.PrintWords
/-- a bool's cell -/
theorem bools_cells {e : TypeId} {W : World} {base : Nat} {ok : Nat → Prop} {g n cap : Nat} {xs : List Bool} (h : Kd.bool.R e W base ok (.slice (some ⟨g, 0, none⟩) n cap) xs) (i : Nat) (hi : i < n) :
    W.cell? ⟨g, i, none⟩ = some (.bool (xs.getD i false)) ∧ W.frozen? ⟨g, i, none⟩ = false := by
  obtain ⟨c, hl, hm, hc, hf⟩ := Kd.R_elem h false (i : Int) (by omega) (by omega)
  have hm' : c = [.bool (xs.getD (i : Int).toNat false)] := hm
  subst hm'
  simp only [Int.toNat_natCast] at hc hf
  have e1 : i * Kd.bool.sz + 0 = i := by show i * 1 + 0 = i; omega
  have h1 := hc 0 _ rfl
  have h2 := hf 0
  rw [e1] at h1 h2
  exact ⟨h1, h2⟩
/-- three rows of the call's own, side by side -/
structure Three (N : Nat) (w0 : World) (q r : List Int) (h : List Bool) (w : World) : Prop where
  q : (Kd.int .i64).R 3 w N (fun b => b = N) (.slice (some ⟨N, 0, none⟩) 256 256) q
  r : (Kd.int .i64).R 3 w N (fun b => b = N + 1) (.slice (some ⟨N + 1, 0, none⟩) 256 256) r
  h : Kd.bool.R 4 w N (fun b => b = N + 2) (.slice (some ⟨N + 2, 0, none⟩) 256 256) h
  below : Below N w0 w
theorem Three.later {N : Nat} {w0 w w' : World} {q r : List Int} {h : List Bool} (H : Three N w0 q r h w) (hb : Below w.heap.size w w') : Three N w0 q r h w' :=
  ⟨Kd.R_below H.q hb, Kd.R_below H.r hb, Kd.R_below H.h hb, H.below.trans (hb.mono (by have := (Kd.R_bound H.q).1 N rfl; omega))⟩
theorem Three.cells {N : Nat} {w0 w : World} {q r : List Int} {h : List Bool} (H : Three N w0 q r h w) (k : Nat) (hk : k < 256) :
    (w.cell? ⟨N, k, none⟩ = some (.int .i64 (q.getD k 0)) ∧ w.frozen? ⟨N, k, none⟩ = false) ∧ (w.cell? ⟨N + 1, k, none⟩ = some (.int .i64 (r.getD k 0)) ∧ w.frozen? ⟨N + 1, k, none⟩ = false) ∧ (w.cell? ⟨N + 1 + 1, k, none⟩ = some (.bool (h.getD k false)) ∧ w.frozen? ⟨N + 1 + 1, k, none⟩ = false) :=
  ⟨ints_cells H.q k hk, ints_cells H.r k hk, bools_cells H.h k hk⟩
theorem Three.at_ {N : Nat} {w0 w ww : World} {q r : List Int} {h : List Bool} {A : Option Addr} {c : List Int} (H : Three N w0 q r h ww) (hr : (Kd.int .i64).C w A c.length c) (hb : Below w.heap.size w w0) (hN : w0.heap.size = N) : (Kd.int .i64).C ww A c.length c :=
  Kd.C_below hr (hb.trans (H.below.mono (by have := hb.size; omega)))
end Go.Proofs.Ytfnobinenolhhaa
namespace Go.Proofs.Ytfnobinenolhhaa
open Go.RowKit Go.IntWalk Go.Proofs.YtfnobinenolhhaaW.PrintWords
theorem cell3 {w : World} {mb : Nat} {a b c : Value} {t : Nat} (h : w.heap[mb]? = some (.cells #[a, b, c] t (0, 0))) : (w.cell? ⟨mb, 0, none⟩ = some a ∧ w.cell? ⟨mb, 1, none⟩ = some b ∧ w.cell? ⟨mb, 2, none⟩ = some c) ∧ (w.frozen? ⟨mb, 0, none⟩ = false ∧ w.frozen? ⟨mb, 1, none⟩ = false ∧ w.frozen? ⟨mb, 2, none⟩ = false) :=
  ⟨⟨(blk_cell h 0).trans rfl, (blk_cell h 1).trans rfl, (blk_cell h 2).trans rfl⟩, blk_frozen h 0, blk_frozen h 1, blk_frozen h 2⟩
/-- a row of one list -/
theorem kq_one {w : World} {base : Nat} {v : Value} {q : List Int} (h : (Kd.int .i64).R 3 w base (fun _ => True) v q) (hb : base ≤ w.heap.size) : kq.R 42 (w.alloc (.cells #[v] 42)) base (fun k => base ≤ k) (.slice (some ⟨w.heap.size, 0, none⟩) 1 1) [q] := by
  have hne : ∀ k, v.ownBlock = some k → base ≤ k ∧ k < w.heap.size := fun k hk => ((Kd.R_bound h).1 k hk).2.imp id (fun x => x.1)
  refine ⟨fun k hk => by cases hk; exact hb, [v], ⟨rfl, .inr ⟨w.heap.size, 1, #[v], rfl, hb, blk_new w _, Nat.le_refl _, by unfold maxLen; omega, rfl, rfl⟩⟩, rfl, fun j p hj => ?_⟩
  have hj0 : j = 0 := by
    rcases Nat.eq_zero_or_pos j with e | e
    · exact e
    · rw [List.getElem?_eq_none (by simp; omega)] at hj; cases hj
  subst hj0
  cases hj
  refine ⟨v, rfl, Kd.R_alloc (Kd.R_mono (Kd.R_tight rfl h) (fun k hk => ⟨(hne k hk.symm).1, fun e => ?_⟩)) _⟩
  have := (hne k hk.symm).2
  have h2 : k = w.heap.size := Option.some.inj e
  omega
end Go.Proofs.Ytfnobinenolhhaa
namespace Go.Proofs.Ytfnobinenolhhaa
open Go.RowKit Go.IntWalk Go.Proofs.YtfnobinenolhhaaW.PrintWords
theorem below_al {w w' : World} (h : Below w.heap.size w w') (o : Obj) : Below w.heap.size w (w'.alloc o) := h.alloc h.size o
theorem below_dr {w w' : World} (h : Below w.heap.size w w') : Below w.heap.size w w'.drew := h.drew
theorem below_tr {w w1 w2 : World} (h : Below w.heap.size w w1) (k : Below w1.heap.size w1 w2) : Below w.heap.size w w2 := h.trans (k.mono h.size)
theorem below_st {w w' : World} (h : Below w.heap.size w w') {k o : Nat} (hk : w.heap.size ≤ k) (a : Value) : Below w.heap.size w (w'.setCell ⟨k, o, none⟩ a) := h.setCell hk a
theorem blk_new1 (W : World) (a o : Obj) : ((W.alloc a).alloc o).heap[W.heap.size + 1]? = some o := by
  have := blk_new (W.alloc a) o
  rw [show (W.alloc a).heap.size = W.heap.size + 1 by simp] at this; exact this
theorem blk_dr {w : World} {g : Nat} {o : Obj} (h : w.heap[g]? = some o) : w.drew.heap[g]? = some o := h
end Go.Proofs.Ytfnobinenolhhaa
namespace Go.Proofs.Ytfnobinenolhhaa
open Go.RowKit Go.IntWalk Go.Proofs.YtfnobinenolhhaaW.PrintWords
/-- a row that is written out -/
theorem row_lit (κ : IntKind) (e : TypeId) (W : World) (base : Nat) (ok : Nat → Prop) (hok : ok W.heap.size) (hb : base ≤ W.heap.size) (xs : List Int) (hl : xs.length ≤ 1000000) : (Kd.int κ).R e (W.alloc (.cells (xs.map (Value.int κ)).toArray e)) base ok (.slice (some ⟨W.heap.size, 0, none⟩) xs.length xs.length) xs := by
  refine Kd.R_of_own (h1 := fun _ => rfl) ⟨by simp [encs], .inr ⟨W.heap.size, xs.length, _, rfl, hb, blk_new W _, Nat.le_refl _, by unfold maxLen; omega, by simp, ?_⟩⟩ (fun k hk => by cases hk; exact hok)
  rw [Nat.mul_one, show (xs.map (Value.int κ)).toArray.toList = encs (Value.int κ) xs from rfl, List.take_of_length_le (by rw [encs_length]; exact Nat.le_refl _)]
/-- two lists of bytes, as strings -/
theorem strs_inj {a b : List Int} (ha : Bytes a) (hb : Bytes b) : ((strOfNums a).toList == (strOfNums b).toList) = decide (a = b) := by
  have e : ∀ l : List Int, (strOfNums l).toList = l.map (fun x => UInt8.ofNat x.toNat) := by
    intro l; unfold strOfNums; simp
  rw [e a, e b]
  by_cases h : a = b
  · subst h; simp
  · rw [decide_eq_false h]
    simp only [beq_eq_false_iff_ne, ne_eq]
    intro he
    apply h
    have inj : ∀ (a b : List Int), Bytes a → Bytes b → a.map (fun x => UInt8.ofNat x.toNat) = b.map (fun x => UInt8.ofNat x.toNat) → a = b := by
      intro a
      induction a with
      | nil => intro b _ _ h; cases b with
        | nil => rfl
        | cons y b => simp at h
      | cons x a ih =>
        intro b hxa hyb h
        cases b with
        | nil => simp at h
        | cons y b =>
          rw [List.map_cons, List.map_cons, List.cons.injEq] at h
          have hx := hxa x (by simp)
          have hy := hyb y (by simp)
          have h1 := congrArg UInt8.toNat h.1
          simp only [UInt8.toNat_ofNat'] at h1
          have : x = y := by omega
          rw [this, ih b (fun z hz => hxa z (by simp [hz])) (fun z hz => hyb z (by simp [hz])) h.2]
    exact inj a b ha hb he
theorem aw_facts (w : World) : Hid (
    kq.C ((((w.alloc (.cells ((madeCells #[.int .i64 0] 256).setIfInBounds 7 (.int .i64 32)) 3)).alloc (.cells #[.slice (some ⟨w.heap.size, 0, none⟩) 256 256] 42)).alloc (.cells #[.int .i64 5, .bool true, .slice (some ⟨w.heap.size + 1, 0, none⟩) 1 1] 24)).alloc (.cells #[.int .u8 7, .int .u8 7, .int .u8 7] 5)) (some ⟨w.heap.size + 1, 0, none⟩) 1 [awQ] ∧
    (Kd.int .u8).C ((((w.alloc (.cells ((madeCells #[.int .i64 0] 256).setIfInBounds 7 (.int .i64 32)) 3)).alloc (.cells #[.slice (some ⟨w.heap.size, 0, none⟩) 256 256] 42)).alloc (.cells #[.int .i64 5, .bool true, .slice (some ⟨w.heap.size + 1, 0, none⟩) 1 1] 24)).alloc (.cells #[.int .u8 7, .int .u8 7, .int .u8 7] 5)) (some ⟨w.heap.size + 1 + 1 + 1, 0, none⟩) 3 [7, 7, 7] ∧
    ((((w.alloc (.cells ((madeCells #[.int .i64 0] 256).setIfInBounds 7 (.int .i64 32)) 3)).alloc (.cells #[.slice (some ⟨w.heap.size, 0, none⟩) 256 256] 42)).alloc (.cells #[.int .i64 5, .bool true, .slice (some ⟨w.heap.size + 1, 0, none⟩) 1 1] 24)).alloc (.cells #[.int .u8 7, .int .u8 7, .int .u8 7] 5)).heap[w.heap.size + 1 + 1]? = some (.cells #[.int .i64 5, .bool true, .slice (some ⟨w.heap.size + 1, 0, none⟩) 1 1] 24 (0, 0)) ∧
    Below w.heap.size w ((((w.alloc (.cells ((madeCells #[.int .i64 0] 256).setIfInBounds 7 (.int .i64 32)) 3)).alloc (.cells #[.slice (some ⟨w.heap.size, 0, none⟩) 256 256] 42)).alloc (.cells #[.int .i64 5, .bool true, .slice (some ⟨w.heap.size + 1, 0, none⟩) 1 1] 24)).alloc (.cells #[.int .u8 7, .int .u8 7, .int .u8 7] 5))) := by
  obtain ⟨w1, h1⟩ : ∃ w1, w1 = w.alloc (.cells ((madeCells #[.int .i64 0] 256).setIfInBounds 7 (.int .i64 32)) 3) := ⟨_, rfl⟩
  have s1 : w1.heap.size = w.heap.size + 1 := by rw [h1]; simp
  have hq := made_rowK (enc := Value.int .i64) (h1 := fun _ => rfl) (0 : Int) 3 rfl 256 (by omega) w (fun _ => True) trivial w.heap.size (Nat.le_refl _)
  have hq2 := Kd.R_putn hq (7 : Int) (32 : Int)
  rw [show ((7 : Int)).toNat = 7 from rfl, World.setCell_alloc_new, ← h1, show (List.replicate 256 (0 : Int)).set 7 32 = awQ by decide +kernel] at hq2
  have hb1 : Below w.heap.size w w1 := by rw [h1]; exact (Below.refl _ _).alloc (Nat.le_refl _) _
  have hk := kq_one hq2 hb1.size
  rw [← h1]
  obtain ⟨w2, h2⟩ : ∃ w2, w2 = w1.alloc (.cells #[.slice (some ⟨w.heap.size, 0, none⟩) 256 256] 42) := ⟨_, rfl⟩
  have s2 : w2.heap.size = w.heap.size + 1 + 1 := by rw [h2]; simp [s1]
  rw [← h2] at hk ⊢
  have hb2 : Below w.heap.size w w2 := by rw [h2]; exact hb1.alloc hb1.size _
  rw [s1] at hk
  obtain ⟨w3, h3⟩ : ∃ w3, w3 = w2.alloc (.cells #[.int .i64 5, .bool true, .slice (some ⟨w.heap.size + 1, 0, none⟩) 1 1] 24) := ⟨_, rfl⟩
  have s3 : w3.heap.size = w.heap.size + 1 + 1 + 1 := by rw [h3]; simp [s2]
  have hb3 : Below w.heap.size w w3 := by rw [h3]; exact hb2.alloc hb2.size _
  have hm := blk_new w2 (.cells #[.int .i64 5, .bool true, .slice (some ⟨w.heap.size + 1, 0, none⟩) 1 1] 24)
  have hk3 := Kd.R_alloc hk (.cells #[.int .i64 5, .bool true, .slice (some ⟨w.heap.size + 1, 0, none⟩) 1 1] 24)
  rw [← h3] at hm hk3 ⊢
  rw [s2] at hm
  have hr := row_lit .u8 5 w3 w3.heap.size (fun _ => True) trivial (Nat.le_refl _) [7, 7, 7] (by decide)
  rw [s3] at hr
  exact ⟨(Kd.R_reads' (Kd.R_alloc hk3 _)).2.2, (Kd.R_reads' hr).2.2, blk_alloc hm _, hb3.alloc hb3.size _⟩
set_option maxRecDepth 100000 in
set_option maxHeartbeats 1000000 in
theorem awake_any (w : World) : Calls Try.prog 10 #[] w (Ret (.bool true) w) := by
  have hmi : ∀ w : World, (Instr.makeSlice 42 (.int .i64 256) (.int .i64 256)).run Try.prog w = .ok (.slice (some ⟨w.heap.size, 0, none⟩) 256 256) (w.alloc (.cells (madeCells #[.int .i64 0] 256) 3)) := fun w => made_i64 256 (by omega) w
  have hq := made_rowK (enc := Value.int .i64) (h1 := fun _ => rfl) (0 : Int) 3 rfl 256 (by omega) w (fun _ => True) trivial w.heap.size (Nat.le_refl _)
  obtain ⟨c1, f1⟩ := ints_cells hq 7 (by omega)
  have H := aw_facts w
  clear hq
  go_enter Try.func10, Try.ntmps10
  go_wp2_with fail
  obtain ⟨W, hW⟩ : ∃ W, W = ((((w.alloc (.cells ((madeCells #[.int .i64 0] 256).setIfInBounds 7 (.int .i64 32)) 3)).alloc (.cells #[.slice (some ⟨w.heap.size, 0, none⟩) 256 256] 42)).alloc (.cells #[.int .i64 5, .bool true, .slice (some ⟨w.heap.size + 1, 0, none⟩) 1 1] 24)).alloc (.cells #[.int .u8 7, .int .u8 7, .int .u8 7] 5)) := ⟨_, rfl⟩
  rw [← hW] at H ⊢
  clear hW c1 f1 hmi
  refine (encodeL_any 5 true (some ⟨w.heap.size + 1, 0, none⟩) 1 [awQ] (some ⟨w.heap.size + 1 + 1 + 1, 0, none⟩) 3 [7, 7, 7] W H.out.1 (by decide) H.out.2.1 (by intro x hx; simp at hx; omega) (by decide)).mono ?_
  rintro e w2 ⟨_, h2, hb2⟩
  obtain ⟨v, rfl, hv⟩ := h2 aw_can
  rw [aw_enc] at hv
  obtain ⟨Av, cv, rfl⟩ := Kd.R_slice hv
  have H2 := Lib.hid (And.intro (Kd.R_reads' hv).2 hb2)
  have hk2 := blk_below H.out.2.2.1 hb2
  obtain ⟨⟨m0, m1, m2⟩, _⟩ := cell3 hk2
  have HK2 := Lib.hid hk2
  clear h2 hv hb2 hk2
  go_wp2_with fail
  refine (decodeL_any 5 true (some ⟨w.heap.size + 1, 0, none⟩) 1 [awQ] Av cv [0, 4] 3 w2 (Kd.C_below H.out.1 H2.out.2) (by decide) H2.out.1.2 (by intro x hx; simp at hx; omega) (by decide)).mono ?_
  rw [aw_dec]
  rintro e w3 ⟨⟨v3, rfl, hv3⟩, hb3⟩
  obtain ⟨A3, c3, rfl⟩ := Kd.R_slice hv3
  have H3 := Lib.hid (And.intro (Kd.R_reads' hv3).2 hb3)
  have hk3 := blk_below HK2.out hb3
  obtain ⟨⟨n0, n1, n2⟩, _⟩ := cell3 hk3
  have hcv1 : (convert 25 9 (.slice Av 2 cv)).run Try.prog w3 = .ok (.string ⟨#[0, 4]⟩) w3 := Kd.C_string (xs := [0, 4]) Try.underlying25 Try.underlying5 Try.underlying9 (Kd.C_below H2.out.1.2 hb3)
  have hcv2 : (convert 25 9 (.slice A3 3 c3)).run Try.prog w3 = .ok (.string ⟨#[7, 7, 7]⟩) w3 := Kd.C_string (xs := [7, 7, 7]) Try.underlying25 Try.underlying5 Try.underlying9 H3.out.1.2
  have hcv3 : (convert 25 9 (.slice (some ⟨w.heap.size + 1 + 1 + 1, 0, none⟩) 3 3)).run Try.prog w3 = .ok (.string ⟨#[7, 7, 7]⟩) w3 := Kd.C_string (xs := [7, 7, 7]) Try.underlying25 Try.underlying5 Try.underlying9 (Kd.C_below (Kd.C_below H.out.2.1 H2.out.2) hb3)
  clear hv3 hb3 hk3 m0 m1 m2
  go_wp2_with fail
  refine (bitsL_any 5 true (some ⟨w.heap.size + 1, 0, none⟩) 1 [awQ] (some ⟨w.heap.size + 1 + 1 + 1, 0, none⟩) 3 [7, 7, 7] w3 (Kd.C_below (Kd.C_below H.out.1 H2.out.2) H3.out.2) (by decide) (Kd.C_below (Kd.C_below H.out.2.1 H2.out.2) H3.out.2) (by intro x hx; simp at hx; omega) (by decide)).mono ?_
  rw [aw_bits]
  rintro e w4 ⟨rfl, hb4⟩
  have H4 := Lib.hid hb4
  clear hb4
  go_wp2_with fail
  go_ret
  exact ⟨rfl, (((H.out.2.2.2.trans (H2.out.2.mono H.out.2.2.2.size))).trans (H3.out.2.mono (below_tr H.out.2.2.2 H2.out.2).size)).trans (H4.out.mono (below_tr (below_tr H.out.2.2.2 H2.out.2) H3.out.2).size)⟩
end Go.Proofs.Ytfnobinenolhhaa
namespace Go.Proofs.Ytfnobinenolhhaa
open Go.RowKit Go.IntWalk Go.Proofs.YtfnobinenolhhaaW.PrintWords
set_option maxRecDepth 100000 in
theorem same_any (A B : Option Addr) (ca cb : Nat) (a b : List Int) (w : World) (ha : (Kd.int .u8).C w A a.length a) (hb : (Kd.int .u8).C w B b.length b) (hya : Bytes a) (hyb : Bytes b) :
    Calls Try.prog 15 #[.slice A a.length ca, .slice B b.length cb] w fun e w' => e = .returned (.bool (decide (a = b))) ∧ w = w' := by
  have h1 := Kd.C_string (P := Try.prog) (c := ca) Try.underlying25 Try.underlying5 Try.underlying9 ha
  have h2 := Kd.C_string (P := Try.prog) (c := cb) Try.underlying25 Try.underlying5 Try.underlying9 hb
  rw [← strs_inj hya hyb]
  obtain ⟨x, hx⟩ : ∃ x, x = strOfNums a := ⟨_, rfl⟩
  obtain ⟨y, hy⟩ : ∃ y, y = strOfNums b := ⟨_, rfl⟩
  rw [← hx] at h1 ⊢
  rw [← hy] at h2 ⊢
  clear hx hy ha hb hya hyb
  go_enter Try.func15, Try.ntmps15
  go_wp2_with fail
  go_ret
  exact ⟨rfl, rfl⟩
/-- a model in a variable of the call's own -/
structure MAt (mb : Nat) (lg : Int) (one : Bool) (A : Option Addr) (c : Nat) (qs : List (List Int)) (w : World) : Prop where
  blk : w.heap[mb]? = some (.cells #[.int .i64 lg, .bool one, .slice A qs.length c] 24 (0, 0))
  row : kq.C w A qs.length qs
theorem MAt.later {mb : Nat} {lg : Int} {one : Bool} {A : Option Addr} {c : Nat} {qs : List (List Int)} {w w' : World} (h : MAt mb lg one A c qs w) (hb : Below w.heap.size w w') : MAt mb lg one A c qs w' := ⟨blk_below h.blk hb, Kd.C_below h.row hb⟩
end Go.Proofs.Ytfnobinenolhhaa
namespace Go.Proofs.Ytfnobinenolhhaa
open Go.RowKit Go.Proofs.Ytfnobinenolhhaa.PRef Go.Proofs.YtfnobinenolhhaaW.PrintWords Go.Proofs.YtfnobinenolhhaaW.PrintLast Go.Proofs.YtfnobinenolhhaaW.PrintMore
theorem wSi (i : Nat) (h : i < maxLen) : wrap64 ((i : Int) + 1) = ((i + 1 : Nat) : Int) := by unfold maxLen at h; rw [w64 (by omega)]; simp
def fewM (qs : List (List Int)) : Bool := qs.all (fun q => decide (q.length ≤ 300)) && decide (qs.length ≤ 300) && decide (qs.countP (fun q => decide (0 < q.length)) ≤ 40)
theorem few_get {qs : List (List Int)} (h : fewM qs = true) : qs.length ≤ 300 ∧ ∀ q ∈ qs, q.length ≤ 300 := by
  unfold fewM at h
  simp only [Bool.and_eq_true, List.all_eq_true, decide_eq_true_eq] at h
  exact ⟨h.1.2, h.1.1⟩
theorem rdL_nat (qs : List (List Int)) (i : Nat) : rd_L3 qs (i : Int) = qs.getD i [] := rfl
theorem few_loop (lg : Int) (one : Bool) (qs : List (List Int)) (hl : qs.length ≤ maxLen) : ∀ (d i : Nat), i + d = qs.length → (∀ q ∈ qs.take i, q.length ≤ 300) → Ev (fun k => puncheonref16_Few.l0 k ((qs.take i).countP (fun q => decide (0 < q.length)) : Nat) (i : Int) lg one qs) (fewM qs) := by
  intro d
  induction d with
  | zero =>
    intro i hi ha
    rw [List.take_of_length_le (by omega)] at ha ⊢
    have e1 : qs.all (fun q => decide (q.length ≤ 300)) = true := by
      rw [List.all_eq_true]; intro q hq; exact decide_eq_true (ha q hq)
    by_cases h : qs.length ≤ 300
    · refine Ev.step (fun k => (show puncheonref16_Few.l0 (k + 1) _ _ _ _ _ = _ by simp only [puncheonref16_Few.l0]; rw [if_neg (by omega), if_pos (by omega)])) ?_
      have : decide (((qs.countP (fun q => decide (0 < q.length)) : Nat) : Int) ≤ 40) = fewM qs := by
        unfold fewM
        rw [e1, decide_eq_true h]
        simp only [Bool.true_and]
        rw [decide_eq_decide]; omega
      rw [this]; exact Ev.now _
    · refine Ev.step (fun k => (show puncheonref16_Few.l0 (k + 1) _ _ _ _ _ = _ by simp only [puncheonref16_Few.l0]; rw [if_neg (by omega), if_neg (by omega)])) ?_
      have : fewM qs = false := by unfold fewM; rw [decide_eq_false h]; simp
      rw [this]; exact Ev.now _
  | succ d ih =>
    intro i hi ha
    have hlt : i < qs.length := by omega
    have c1 : (i : Int) < (qs.length : Int) := by omega
    have c2 : (0 : Int) ≤ i := by omega
    have hm : qs.getD i [] ∈ qs := by rw [List.getD_eq_getElem?_getD, List.getElem?_eq_getElem hlt, Option.getD_some]; exact List.getElem_mem hlt
    have ht : qs.take (i + 1) = qs.take i ++ [qs.getD i []] := by rw [List.take_succ_eq_append_getElem hlt, List.getD_eq_getElem?_getD, List.getElem?_eq_getElem hlt, Option.getD_some]
    have hcl : (qs.take i).countP (fun q => decide (0 < q.length)) ≤ i := Nat.le_trans List.countP_le_length (by rw [List.length_take]; omega)
    by_cases h3 : (qs.getD i []).length > 300
    · refine Ev.step (fun k => (show puncheonref16_Few.l0 (k + 1) _ _ _ _ _ = _ by simp only [puncheonref16_Few.l0]; rw [if_pos c1, if_pos c2, rdL_nat, if_pos (by omega)])) ?_
      have : fewM qs = false := by
        unfold fewM
        have : qs.all (fun q => decide (q.length ≤ 300)) = false := by
          rw [List.all_eq_false]; exact ⟨_, hm, by simp only [decide_eq_true_eq]; omega⟩
        rw [this]; rfl
      rw [this]; exact Ev.now _
    · have ih' := ih (i + 1) (by omega) (by
        rw [ht]; intro q hq
        rcases List.mem_append.1 hq with h | h
        · exact ha q h
        · rw [List.mem_singleton.1 h]; omega)
      rw [ht, List.countP_append] at ih'
      by_cases h4 : (qs.getD i []).length > 0
      · refine Ev.step (fun k => (show puncheonref16_Few.l0 (k + 1) _ _ _ _ _ = _ by simp only [puncheonref16_Few.l0]; rw [if_pos c1, if_pos c2, rdL_nat, if_neg (by omega), if_pos (by omega), wSi _ (by omega), wSi i (by omega)])) ?_
        have : [qs.getD i []].countP (fun q => decide (0 < q.length)) = 1 := by simp only [List.countP_singleton]; rw [if_pos (decide_eq_true h4)]
        rw [this] at ih'; exact ih'
      · refine Ev.step (fun k => (show puncheonref16_Few.l0 (k + 1) _ _ _ _ _ = _ by simp only [puncheonref16_Few.l0]; rw [if_pos c1, if_pos c2, rdL_nat, if_neg (by omega), if_neg (by omega), wSi i (by omega)])) ?_
        have : [qs.getD i []].countP (fun q => decide (0 < q.length)) = 0 := by simp only [List.countP_singleton]; rw [if_neg (by simp only [decide_eq_true_eq]; omega)]
        rw [this, Nat.add_zero] at ih'; exact ih'
theorem refFew_eq (lg : Int) (one : Bool) (qs : List (List Int)) (hl : qs.length ≤ maxLen) : Ev (fun k => puncheonref16_Few.f k lg one qs) (fewM qs) :=
  few_loop lg one qs hl qs.length 0 (by omega) (fun q h => by simp at h)
/-- a list is of a log, or there is none where there may be none -/
def okQ (lg : Int) (one : Bool) (q : List Int) : Bool := (decide (q.length = 0) && !one) || decide ((logC q : Int) = lg)
theorem r16_loop (lg : Int) (one : Bool) (qs : List (List Int)) (hl : qs.length ≤ 1000000) : ∀ (d i : Nat), i + d = qs.length → Ev (fun k => puncheonref16_Right.l0 k (i : Int) lg one qs) ((qs.drop i).all (okQ lg one)) := by
  intro d
  induction d with
  | zero =>
    intro i hi
    refine Ev.step (fun k => (show puncheonref16_Right.l0 (k + 1) _ _ _ _ = _ by simp only [puncheonref16_Right.l0]; rw [if_neg (by omega)])) ?_
    rw [List.drop_of_length_le (by omega)]; exact Ev.now _
  | succ d ih =>
    intro i hi
    have hlt : i < qs.length := by omega
    have c1 : (i : Int) < (qs.length : Int) := by omega
    have c2 : (0 : Int) ≤ i := by omega
    have hd : qs.drop i = qs.getD i [] :: qs.drop (i + 1) := by rw [List.drop_eq_getElem_cons hlt, List.getD_eq_getElem?_getD, List.getElem?_eq_getElem hlt, Option.getD_some]
    rw [hd, List.all_cons]
    have ih' := ih (i + 1) (by omega)
    have hj : ∀ b : Bool, b = (decide ((qs.getD i []).length = 0) && !one) → Ev (fun k => puncheonref16_Right.j2 k (i : Int) b lg one qs) (okQ lg one (qs.getD i []) && (qs.drop (i + 1)).all (okQ lg one)) := by
      intro b hb
      unfold okQ
      rw [← hb]
      cases b with
      | true =>
        refine Ev.step (fun k => (show puncheonref16_Right.j2 (k + 1) _ _ _ _ _ = _ by simp only [puncheonref16_Right.j2]; rw [if_pos trivial, wS i (by omega)])) ?_
        rw [Bool.true_or, Bool.true_and]; exact ih'
      | false =>
        refine Ev.step (fun k => (show puncheonref16_Right.j2 (k + 1) _ _ _ _ _ = _ by simp only [puncheonref16_Right.j2]; rw [if_neg (by decide), if_pos c2, if_pos c1, rdL_nat])) ?_
        refine Ev.bind (refLog_eq _) ?_
        by_cases h : (logC (qs.getD i []) : Int) = lg
        · refine Ev.congr (f := fun k => puncheonref16_Right.l0 k ((i + 1 : Nat) : Int) lg one qs) (fun k => by rw [if_pos h, wS i (by omega)]) ?_
          rw [Bool.false_or, decide_eq_true h, Bool.true_and]; exact ih'
        · refine Ev.congr (f := fun k => some false) (fun k => by rw [if_neg h]) ?_
          rw [Bool.false_or, decide_eq_false h, Bool.false_and]; exact Ev.now _
    by_cases h0 : (qs.getD i []).length = 0
    · refine Ev.step (fun k => (show puncheonref16_Right.l0 (k + 1) _ _ _ _ = _ by simp only [puncheonref16_Right.l0]; rw [if_pos c1, if_pos c2, rdL_nat, if_pos (by omega)])) ?_
      exact hj (!one) (by rw [decide_eq_true h0, Bool.true_and])
    · refine Ev.step (fun k => (show puncheonref16_Right.l0 (k + 1) _ _ _ _ = _ by simp only [puncheonref16_Right.l0]; rw [if_pos c1, if_pos c2, rdL_nat, if_neg (by omega)])) ?_
      exact hj false (by rw [decide_eq_false h0, Bool.false_and])
theorem ok_bad {lg : Int} (h1 : 1 ≤ lg) (q : List Int) : okQ lg false q = !badQ lg q := by
  unfold okQ badQ
  by_cases h0 : q.length = 0
  · have h2 : ¬ (0 < q.length ∧ ¬ (logC q ≠ 0 ∧ (logC q : Int) = lg)) := by omega
    rw [decide_eq_true h0, decide_eq_false h2]; simp
  · rw [decide_eq_false h0, Bool.false_and, Bool.false_or]
    by_cases h : (logC q : Int) = lg
    · have h2 : ¬ (0 < q.length ∧ ¬ (logC q ≠ 0 ∧ (logC q : Int) = lg)) := by omega
      rw [decide_eq_true h, decide_eq_false h2]; rfl
    · have h2 : (0 < q.length ∧ ¬ (logC q ≠ 0 ∧ (logC q : Int) = lg)) := by omega
      rw [decide_eq_false h, decide_eq_true h2]; rfl
theorem r16_right {lg : Int} {one : Bool} {qs : List (List Int)} (h : 1 ≤ lg ∧ lg ≤ 12) (hl : qs.length = (if one then 1 else 256)) : qs.all (okQ lg one) = rightM lg one qs := by
  unfold rightM
  rw [if_neg (by omega)]
  have e : ∀ l : List (List Int), l.all (okQ lg false) = !l.any (badQ lg) := fun l => by
    induction l with
    | nil => rfl
    | cons a l ih => rw [List.all_cons, List.any_cons, ih, ok_bad h.1, Bool.not_or]
  cases one with
  | false =>
    rw [e]
    cases hb : qs.any (badQ lg) with
    | true => rfl
    | false =>
      simp only [Bool.false_eq_true, if_false] at hl ⊢
      rw [decide_eq_true hl]; rfl
  | true =>
    simp only [if_true] at hl
    obtain ⟨q, rfl⟩ := List.length_eq_one_iff.1 hl
    simp only [List.all_cons, List.all_nil, List.any_cons, List.any_nil, Bool.and_true, Bool.or_false, List.length_singleton, List.getD_cons_zero, true_and, if_true]
    unfold okQ badQ
    by_cases h0 : q.length = 0
    · have h3 := logC_nil h0
      have h2 : ¬ (0 < q.length ∧ ¬ (logC q ≠ 0 ∧ (logC q : Int) = lg)) := by omega
      have h4 : ¬ ((logC q : Int) = lg) := by omega
      have h5 : ¬ (0 < q.length) := by omega
      rw [decide_eq_true h0, Bool.not_true, Bool.and_false, Bool.false_or, decide_eq_false h4, decide_eq_false h2, decide_eq_false h5]; rfl
    · rw [decide_eq_false h0, Bool.false_and, Bool.false_or]
      have h5 : 0 < q.length := by omega
      by_cases h : (logC q : Int) = lg
      · have h2 : ¬ (0 < q.length ∧ ¬ (logC q ≠ 0 ∧ (logC q : Int) = lg)) := by omega
        rw [decide_eq_true h, decide_eq_false h2, decide_eq_true h5]; rfl
      · have h2 : (0 < q.length ∧ ¬ (logC q ≠ 0 ∧ (logC q : Int) = lg)) := by omega
        rw [decide_eq_false h, decide_eq_true h2]; rfl
theorem refRight16_eq (lg : Int) (one : Bool) (qs : List (List Int)) (hl : qs.length ≤ 1000000) : Ev (fun k => puncheonref16_Right.f k lg one qs) (rightM lg one qs) := by
  have hj : ∀ b : Bool, (b = true → rightM lg one qs = false) → (b = false → qs.all (okQ lg one) = rightM lg one qs) → Ev (fun k => puncheonref16_Right.j0 k b lg one qs) (rightM lg one qs) := by
    intro b h1 h2
    cases b with
    | true =>
      refine Ev.step (fun k => (show puncheonref16_Right.j0 (k + 1) _ _ _ _ = _ by simp only [puncheonref16_Right.j0]; rw [if_pos trivial])) ?_
      rw [h1 rfl]; exact Ev.now _
    | false =>
      refine Ev.step (fun k => (show puncheonref16_Right.j0 (k + 1) _ _ _ _ = _ by simp only [puncheonref16_Right.j0]; rw [if_neg (by decide)])) ?_
      have := r16_loop lg one qs hl qs.length 0 (by omega)
      rw [List.drop_zero, h2 rfl] at this
      exact this
  by_cases h1 : lg < 1
  · refine Ev.congr (fun k => (show puncheonref16_Right.f k lg one qs = _ by unfold puncheonref16_Right.f; rw [if_pos h1])) ?_
    exact hj true (fun _ => by unfold rightM; rw [if_pos (.inl h1)]) (fun h => by cases h)
  · by_cases h2 : lg > 12
    · refine Ev.congr (fun k => (show puncheonref16_Right.f k lg one qs = _ by unfold puncheonref16_Right.f; rw [if_neg h1, if_pos h2])) ?_
      exact hj true (fun _ => by unfold rightM; rw [if_pos (.inr h2)]) (fun h => by cases h)
    · have no : qs.length ≠ (if one then 1 else 256) → rightM lg one qs = false := fun hne => by
        cases hr : rightM lg one qs with
        | false => rfl
        | true => exact absurd (right_len hr).2.2.1 hne
      cases one with
      | true =>
        by_cases h3 : (qs.length : Int) = 1
        · refine Ev.congr (fun k => (show puncheonref16_Right.f k lg true qs = _ by unfold puncheonref16_Right.f; rw [if_neg h1, if_neg h2, if_pos rfl, if_pos h3])) ?_
          exact hj false (fun h => by cases h) (fun _ => r16_right (by omega) (by simp only [if_true]; omega))
        · refine Ev.congr (fun k => (show puncheonref16_Right.f k lg true qs = _ by unfold puncheonref16_Right.f; rw [if_neg h1, if_neg h2, if_pos rfl, if_neg h3])) ?_
          exact hj true (fun _ => no (by simp only [if_true]; omega)) (fun h => by cases h)
      | false =>
        refine Ev.congr (fun k => (show puncheonref16_Right.f k lg false qs = _ by unfold puncheonref16_Right.f; rw [if_neg h1, if_neg h2, if_neg (by decide)])) ?_
        by_cases h3 : (qs.length : Int) = 256
        · have e : ((qs.length : Int) != 256) = false := by simp; omega
          rw [e]
          exact hj false (fun h => by cases h) (fun _ => r16_right (by omega) (by simp only [Bool.false_eq_true, if_false]; omega))
        · have e : ((qs.length : Int) != 256) = true := by simp; omega
          rw [e]
          exact hj true (fun _ => no (by simp only [Bool.false_eq_true, if_false]; omega)) (fun h => by cases h)
section
variable (A : Option Addr) (c : Nat) (w : World)
theorem rFew_any (lg : Int) (one : Bool) (qs : List (List Int)) (hr : kq.C w A qs.length qs) (hc : qs.length ≤ c) (hl : qs.length ≤ maxLen) : Calls Try.prog 11 #[.agg #[.int .i64 lg, .bool one, .slice A qs.length c]] w (Ret (.bool (fewM qs)) w) := by
  obtain ⟨k, hk⟩ := (refFew_eq lg one qs hl).rounds
  exact puncheonref16_Few.calls k lg one A c qs _ w hr hc hk
theorem rRight16_any (lg : Int) (one : Bool) (qs : List (List Int)) (hr : kq.C w A qs.length qs) (hc : qs.length ≤ c) (hl : qs.length ≤ 1000000) : Calls Try.prog 38 #[.agg #[.int .i64 lg, .bool one, .slice A qs.length c]] w (Ret (.bool (rightM lg one qs)) w) := by
  obtain ⟨k, hk⟩ := (refRight16_eq lg one qs hl).rounds
  exact puncheonref16_Right.calls k lg one A c qs _ w hr hc hk
end
end Go.Proofs.Ytfnobinenolhhaa
namespace Go.Proofs.Ytfnobinenolhhaa
def symP (s : Int) (x : K3) : Bool := decide (x.2.2 = s)
theorem posN_take (l : List Int) (s : Int) : ∀ k, k ≤ l.length → (posN l s k).length = (l.take k).countP (fun x => decide (x = s)) := by
  intro k
  induction k with
  | zero => intro _; simp [posN_zero]
  | succ k ih =>
    intro h
    have e : l.getD k (-1) = l[k] := by rw [List.getD_eq_getElem?_getD, List.getElem?_eq_getElem (by omega), Option.getD_some]
    rw [List.take_succ_eq_append_getElem (by omega), List.countP_append]
    by_cases h1 : l.getD k (-1) = s
    · rw [posN_hit h1, List.length_append, ih (by omega)]; rw [e] at h1; simp [h1]
    · rw [posN_miss h1, ih (by omega)]; rw [e] at h1; simp [h1]
theorem posN_at (l : List Int) (s : Int) : ∀ (k d : Nat), d < (posN l s k).length → ∃ P : Nat, (posN l s k).getD d 0 = P ∧ P < k ∧ l.getD P (-1) = s ∧ (posN l s P).length = d := by
  intro k
  induction k with
  | zero => intro d h; simp [posN_zero] at h
  | succ k ih =>
    intro d h
    by_cases h1 : l.getD k (-1) = s
    · rw [posN_hit h1] at h ⊢
      by_cases h2 : d < (posN l s k).length
      · obtain ⟨P, e1, e2, e3, e4⟩ := ih d h2
        refine ⟨P, ?_, by omega, e3, e4⟩
        rw [← e1, List.getD_eq_getElem?_getD, List.getElem?_append_left h2, ← List.getD_eq_getElem?_getD]
      · rw [List.length_append, List.length_singleton] at h
        have hd : d = (posN l s k).length := by omega
        refine ⟨k, ?_, by omega, h1, hd.symm⟩
        rw [List.getD_eq_getElem?_getD, hd, List.getElem?_append_right (Nat.le_refl _)]; simp
    · rw [posN_miss h1] at h ⊢
      obtain ⟨P, e1, e2, e3, e4⟩ := ih d h
      exact ⟨P, e1, by omega, e3, e4⟩
end Go.Proofs.Ytfnobinenolhhaa
namespace Go.Proofs.Ytfnobinenolhhaa
open Go.RowKit
theorem allKeys_nodup (q : List Int) : (allKeys q).Nodup := by
  have h : ∀ k, k ≤ q.length → (allKeys (q.take k)).Nodup ∧ ∀ x ∈ allKeys (q.take k), x.2.2 < (k : Int) := by
    intro k
    induction k with
    | zero => intro _; simp [allKeys]
    | succ k ih =>
      intro hk
      obtain ⟨h1, h2⟩ := ih (by omega)
      rw [allKeys_take (by omega)]
      have h3 : ∀ x ∈ keysOf (q.getD k 0) k, x.2.2 = (k : Int) := fun x hx => by
        unfold keysOf at hx
        rw [List.mem_map] at hx
        obtain ⟨d, _, rfl⟩ := hx; rfl
      refine ⟨List.nodup_append.2 ⟨h1, ?_, ?_⟩, ?_⟩
      · unfold keysOf
        unfold List.Nodup
        rw [List.pairwise_map]
        have h4 : (List.range (q.getD k 0).toNat).Pairwise (· ≠ ·) := List.nodup_range
        refine h4.imp ?_
        intro a b hne e
        have := congrArg Prod.fst e
        simp only at this
        omega
      · intro a ha b hb e
        have := h2 a ha
        have := h3 b hb
        rw [e] at *
        omega
      · intro x hx
        rcases List.mem_append.1 hx with h | h
        · have := h2 x h; omega
        · have := h3 x h; omega
  have := (h q.length (Nat.le_refl _)).1
  rw [List.take_length] at this; exact this
/-- the keys that stand ahead of one -/
theorem order_rank {q : List Int} (hq : Good q) {P : Nat} (hP : P < (orderL q).length) : (allKeys q).countP (fun x => lessK x (orderL q)[P]) = P := by
  have hperm := orderL_perm hq
  have hsort := orderL_sorted hq
  have hnd : (orderL q).Nodup := hperm.nodup_iff.2 (allKeys_nodup q)
  have hgood : ∀ x ∈ orderL q, GK x := fun x hx => allKeys_good hq x (hperm.mem_iff.1 hx)
  rw [← hperm.countP_eq, show (orderL q).countP (fun x => lessK x (orderL q)[P]) = ((orderL q).take P ++ (orderL q).drop P).countP (fun x => lessK x (orderL q)[P]) by rw [List.take_append_drop], List.countP_append]
  have h1 : ((orderL q).take P).countP (fun x => lessK x (orderL q)[P]) = ((orderL q).take P).length := by
    rw [List.countP_eq_length]
    intro x hx
    rw [List.mem_take_iff_getElem] at hx
    obtain ⟨i, hi, rfl⟩ := hx
    have hle : leK (orderL q)[i] (orderL q)[P] := List.pairwise_iff_getElem.1 hsort i P (by omega) hP (by omega)
    cases h : lessK (orderL q)[i] (orderL q)[P] with
    | true => rfl
    | false =>
      have he := keys_antisymm hq (hperm.mem_iff.1 (List.getElem_mem (by omega : i < (orderL q).length))) (hperm.mem_iff.1 (List.getElem_mem hP)) hle h
      have := (List.getElem_inj (i := i) (j := P) (h₀ := by omega) (h₁ := hP) hnd).1 he
      omega
  have h2 : ((orderL q).drop P).countP (fun x => lessK x (orderL q)[P]) = 0 := by
    rw [List.countP_eq_zero]
    intro x hx
    rw [List.mem_drop_iff_getElem] at hx
    obtain ⟨i, hi, rfl⟩ := hx
    by_cases h0 : i = 0
    · subst h0
      have := leK_refl (hgood _ (List.getElem_mem hP))
      unfold leK at this
      simp only [Nat.add_zero]
      rw [this]; simp
    · have : leK (orderL q)[P] (orderL q)[P + i] := List.pairwise_iff_getElem.1 hsort P (P + i) hP (by omega) (by omega)
      unfold leK at this
      rw [this]; simp
  rw [h1, h2, List.length_take]; omega
end Go.Proofs.Ytfnobinenolhhaa
namespace Go.Proofs.Ytfnobinenolhhaa
open Go.RowKit
def lowS (c : Int) (s e : Nat) (x : K3) : Bool := decide (x.2.2 = (s : Int) ∧ x.1 < c + e)
theorem countP_range_lt (e N : Nat) (h : e ≤ N) : (List.range N).countP (fun j => decide (j < e)) = e := by
  induction N with
  | zero => simp; omega
  | succ N ih =>
    rw [List.range_succ, List.countP_append]
    by_cases h2 : e ≤ N
    · rw [ih h2]; simp; omega
    · have : e = N + 1 := by omega
      subst this
      have h3 : (List.range N).countP (fun j => decide (j < N + 1)) = (List.range N).length := by
        rw [List.countP_eq_length]; intro x hx; rw [List.mem_range] at hx; simp; omega
      rw [h3]; simp
theorem low_count {q : List Int} {s e : Nat} (hs : s < q.length) (he : (e : Int) ≤ q.getD s 0) : (allKeys q).countP (lowS (q.getD s 0) s e) = e := by
  have h : ∀ k, k ≤ q.length → (allKeys (q.take k)).countP (lowS (q.getD s 0) s e) = if s < k then e else 0 := by
    intro k
    induction k with
    | zero => intro _; simp [allKeys]
    | succ k ih =>
      intro hk
      rw [allKeys_take (by omega), List.countP_append, ih (by omega)]
      by_cases hsk : s = k
      · subst hsk
        rw [if_neg (by omega), if_pos (by omega)]
        unfold keysOf
        rw [List.countP_map]
        have : (lowS (q.getD s 0) s e ∘ fun (d : Nat) => ((q.getD s 0 + (d : Int), q.getD s 0, (s : Int)) : K3)) = fun j => decide (j < e) := by
          funext j; unfold lowS; simp [Function.comp]
        rw [this, countP_range_lt _ _ (by omega)]; omega
      · have h0 : (keysOf (q.getD k 0) k).countP (lowS (q.getD s 0) s e) = 0 := by
          rw [List.countP_eq_zero]
          intro x hx
          unfold keysOf at hx
          rw [List.mem_map] at hx
          obtain ⟨d, _, rfl⟩ := hx
          unfold lowS
          simp; omega
        rw [h0]
        by_cases h1 : s < k
        · rw [if_pos h1, if_pos (by omega), Nat.add_zero]
        · rw [if_neg h1, if_neg (by omega)]
  have := h q.length (Nat.le_refl _)
  rw [List.take_length, if_pos hs] at this; exact this
theorem key_at {q : List Int} (hq : Good q) {s d : Nat} (hs : s < 256) (hd : (d : Int) < q.getD s 0) : ∃ P : Nat, (placesC q s).getD d 0 = P ∧ ∃ h : P < (orderL q).length, (orderL q)[P] = (q.getD s 0 + d, q.getD s 0, (s : Int)) := by
  have hc := cnt_eq hq s
  have hlen : (posN (symsL q) s (symsL q).length).length = cntC q s := rfl
  obtain ⟨P, e1, e2, e3, e4⟩ := posN_at (symsL q) s (symsL q).length d (by omega)
  have hsl : s < q.length := by rw [hq.len]; exact hs
  have hP : P < (orderL q).length := by unfold symsL at e2; rw [List.length_map] at e2; exact e2
  have hperm := orderL_perm hq
  have hsort := orderL_sorted hq
  have hnd : (orderL q).Nodup := hperm.nodup_iff.2 (allKeys_nodup q)
  obtain ⟨t, e, ht, he, hx⟩ := mem_allKeys.1 (hperm.mem_iff.1 (List.getElem_mem hP))
  have hsy : (symsL q).getD P (-1) = (orderL q)[P].2.2 := by
    unfold symsL; rw [List.getD_eq_getElem?_getD, List.getElem?_map, List.getElem?_eq_getElem hP]; rfl
  rw [hsy, hx] at e3
  have hts : t = s := Int.ofNat.inj e3
  subst hts
  refine ⟨P, e1, hP, ?_⟩
  rw [hx]
  have hgood : ∀ x ∈ orderL q, GK x := fun x hx => allKeys_good hq x (hperm.mem_iff.1 hx)
  have hdc : d = ((orderL q).take P).countP (symP t) := by
    rw [← e4, posN_take _ _ _ (by omega)]
    unfold symsL
    rw [← List.map_take, List.countP_map]; rfl
  have h1 := low_count hsl (e := e) (by omega)
  rw [← hperm.countP_eq, ← List.take_append_drop P (orderL q), List.countP_append] at h1
  have hkey := hgood _ (List.getElem_mem hP)
  have h2 : ((orderL q).drop P).countP (lowS (q.getD t 0) t e) = 0 := by
    rw [List.countP_eq_zero]
    intro x hx'
    rw [List.mem_drop_iff_getElem] at hx'
    obtain ⟨i, hi, rfl⟩ := hx'
    have h3 : leK (orderL q)[P] (orderL q)[P + i] := by
      by_cases h0 : i = 0
      · subst h0; exact leK_refl hkey
      · exact List.pairwise_iff_getElem.1 hsort P (P + i) hP (by omega) (by omega)
    have h4 := (lessK_false (hgood _ (List.getElem_mem _)) hkey).1 h3
    obtain ⟨t', f, _, hf, hxe⟩ := mem_allKeys.1 (hperm.mem_iff.1 (List.getElem_mem (by omega : P + i < (orderL q).length)))
    unfold lowS
    simp only [decide_eq_true_eq]
    rintro ⟨h5, h6⟩
    rw [hxe] at h5 h6 h4
    rw [hx] at h4
    have ht' : t' = t := Int.ofNat.inj h5
    subst ht'
    simp only at h4 h6
    have h7 : (q.getD t' 0 + e) * q.getD t' 0 ≤ (q.getD t' 0 + f) * q.getD t' 0 := by omega
    have := Int.le_of_mul_le_mul_right h7 (by omega)
    omega
  have h3 : ((orderL q).take P).countP (lowS (q.getD t 0) t e) = ((orderL q).take P).countP (symP t) := by
    refine List.countP_congr (fun x hx' => ?_)
    rw [List.mem_take_iff_getElem] at hx'
    obtain ⟨i, hi, rfl⟩ := hx'
    have hle : leK (orderL q)[i] (orderL q)[P] := List.pairwise_iff_getElem.1 hsort i P (by omega) hP (by omega)
    have h4 := (lessK_false hkey (hgood _ (List.getElem_mem (by omega : i < (orderL q).length)))).1 hle
    obtain ⟨t', f, _, hf, hxe⟩ := mem_allKeys.1 (hperm.mem_iff.1 (List.getElem_mem (by omega : i < (orderL q).length)))
    have hne : (orderL q)[i] ≠ (orderL q)[P] := fun he => by
      have := (List.getElem_inj (i := i) (j := P) (h₀ := by omega) (h₁ := hP) hnd).1 he
      omega
    unfold lowS symP
    simp only [decide_eq_true_eq]
    constructor
    · exact fun h => h.1
    · intro h5
      refine ⟨h5, ?_⟩
      rw [hxe] at h5 h4 hne ⊢
      rw [hx] at h4 hne
      have ht' : t' = t := Int.ofNat.inj h5
      subst ht'
      simp only at h4 ⊢
      have h7 : (q.getD t' 0 + f) * q.getD t' 0 ≤ (q.getD t' 0 + e) * q.getD t' 0 := by omega
      have := Int.le_of_mul_le_mul_right h7 (by omega)
      have hfe : f ≠ e := fun h => hne (by rw [h])
      omega
  have hde : d = e := by omega
  rw [hde]
end Go.Proofs.Ytfnobinenolhhaa
namespace Go.Proofs.Ytfnobinenolhhaa
open Go.RowKit Go.Proofs.Ytfnobinenolhhaa.PRef Go.Proofs.YtfnobinenolhhaaW.PrintWords Go.Proofs.YtfnobinenolhhaaW.PrintLast Go.Proofs.YtfnobinenolhhaaW.PrintMore
def lessN (n : Int) (t : Nat) (x : K3) (d : Nat) : Nat := (List.range d).countP (fun (j : Nat) => lessK (n + j, n, (t : Int)) x)
theorem lessN_succ (n : Int) (t : Nat) (x : K3) (d : Nat) : lessN n t x (d + 1) = lessN n t x d + (if lessK (n + d, n, (t : Int)) x = true then 1 else 0) := by
  unfold lessN; rw [List.range_succ, List.countP_append]; simp [List.countP_singleton]
theorem lessN_le (n : Int) (t : Nat) (x : K3) (d : Nat) : lessN n t x d ≤ d := by
  unfold lessN
  have := List.countP_le_length (p := fun (j : Nat) => lessK (n + j, n, (t : Int)) x) (l := List.range d)
  rw [List.length_range] at this; exact this
theorem less_loop {q : List Int} (hq : Good q) {t s : Nat} (ht : t < 256) (hs : s < 256) {i : Int} (hc : 0 < q.getD s 0) (hi : q.getD s 0 ≤ i ∧ i < 2 * q.getD s 0) : ∀ (r d : Nat), (d + r : Int) = q.getD t 0 → Ev (fun k => puncheonref10_less.l0 k q t s i (lessN (q.getD t 0) t (i, q.getD s 0, (s : Int)) d : Nat) (q.getD t 0 + d)) (lessN (q.getD t 0) t (i, q.getD s 0, (s : Int)) (q.getD t 0).toNat : Nat) := by
  have hl := hq.len
  have g1 := hq.get t
  have g2 := hq.get s
  have c1 : (0 : Int) ≤ t := by omega
  have c2 : (t : Int) < (q.length : Int) := by omega
  have c3 : (0 : Int) ≤ s := by omega
  have c4 : (s : Int) < (q.length : Int) := by omega
  obtain ⟨n, hn⟩ : ∃ n, n = q.getD t 0 := ⟨_, rfl⟩
  obtain ⟨c, hcc⟩ : ∃ c, c = q.getD s 0 := ⟨_, rfl⟩
  rw [← hn] at g1 ⊢
  rw [← hcc] at g2 hc hi ⊢
  intro r
  induction r with
  | zero =>
    intro d hd
    refine Ev.step (fun k => (show puncheonref10_less.l0 (k + 1) q t s i _ _ = _ by simp only [puncheonref10_less.l0]; rw [if_pos c1, if_pos c2, rd_nat, ← hn, w64 (n := 2 * n) (by omega), if_neg (by omega)])) ?_
    rw [show n.toNat = d by omega]; exact Ev.now _
  | succ r ih =>
    intro d hd
    have hk : GK (n + d, n, (t : Int)) := rightB_iff.2 (by simp only []; omega)
    have hx : GK (i, c, (s : Int)) := rightB_iff.2 (by simp only []; omega)
    have m1 := mul_small (x := n + d) (y := c) (by omega) (by omega) (by omega) (by omega)
    have m2 := mul_small (x := i) (y := n) (by omega) (by omega) (by omega) (by omega)
    have hlt : n + (d : Int) < 2 * n := by omega
    have w1 : wrap64 ((n + (d : Int)) * c) = (n + d) * c := w64 (by omega)
    have w2 : wrap64 (i * n) = i * n := w64 (by omega)
    have w3 : wrap64 (n + (d : Int) + 1) = n + ((d + 1 : Nat) : Int) := by rw [w64 (by omega)]; omega
    have hle := lessN_le n t (i, c, (s : Int)) d
    have w4 : wrap64 (((lessN n t (i, c, (s : Int)) d : Nat) : Int) + 1) = ((lessN n t (i, c, (s : Int)) d + 1 : Nat) : Int) := wS _ (by omega)
    have hiff := lessK_iff hk hx
    simp only at hiff
    have ih' := ih (d + 1) (by omega)
    rw [lessN_succ] at ih'
    by_cases e1 : (n + (d : Int)) * c < i * n
    · refine Ev.step (fun k => (show puncheonref10_less.l0 (k + 1) q t s i _ _ = _ by simp only [puncheonref10_less.l0]; rw [if_pos c1, if_pos c2, rd_nat, ← hn, w64 (n := 2 * n) (by omega), if_pos hlt, if_pos c3, if_pos c4, rd_nat, ← hcc, w1, w2, if_pos e1, w3, w4])) ?_
      rw [if_pos (hiff.2 (.inl e1))] at ih'; exact ih'
    · by_cases e2 : (n + (d : Int)) * c = i * n
      · by_cases e3 : (t : Int) < s
        · refine Ev.step (fun k => (show puncheonref10_less.l0 (k + 1) q t s i _ _ = _ by simp only [puncheonref10_less.l0]; rw [if_pos c1, if_pos c2, rd_nat, ← hn, w64 (n := 2 * n) (by omega), if_pos hlt, if_pos c3, if_pos c4, rd_nat, ← hcc, w1, w2, if_neg e1, if_pos e2, if_pos e3, w3, w4])) ?_
          rw [if_pos (hiff.2 (.inr ⟨e2, e3⟩))] at ih'; exact ih'
        · refine Ev.step (fun k => (show puncheonref10_less.l0 (k + 1) q t s i _ _ = _ by simp only [puncheonref10_less.l0]; rw [if_pos c1, if_pos c2, rd_nat, ← hn, w64 (n := 2 * n) (by omega), if_pos hlt, if_pos c3, if_pos c4, rd_nat, ← hcc, w1, w2, if_neg e1, if_pos e2, if_neg e3, w3])) ?_
          rw [if_neg (fun h => by rcases hiff.1 h with h | h; exact e1 h; exact e3 h.2)] at ih'; exact ih'
      · refine Ev.step (fun k => (show puncheonref10_less.l0 (k + 1) q t s i _ _ = _ by simp only [puncheonref10_less.l0]; rw [if_pos c1, if_pos c2, rd_nat, ← hn, w64 (n := 2 * n) (by omega), if_pos hlt, if_pos c3, if_pos c4, rd_nat, ← hcc, w1, w2, if_neg e1, if_neg e2, w3])) ?_
        rw [if_neg (fun h => by rcases hiff.1 h with h | h; exact e1 h; exact e2 h.1)] at ih'; exact ih'
theorem refLess_eq {q : List Int} (hq : Good q) {t s : Nat} (ht : t < 256) (hs : s < 256) {i : Int} (hc : 0 < q.getD s 0) (hi : q.getD s 0 ≤ i ∧ i < 2 * q.getD s 0) : Ev (fun k => puncheonref10_less.f k q t s i) (lessN (q.getD t 0) t (i, q.getD s 0, (s : Int)) (q.getD t 0).toNat : Nat) := by
  have hl := hq.len
  have h := less_loop hq ht hs hc hi (q.getD t 0).toNat 0 (by have := hq.get t; omega)
  refine Ev.congr (fun k => (show puncheonref10_less.f k q t s i = _ by unfold puncheonref10_less.f; rw [if_pos (by omega), if_pos (by omega), rd_nat])) ?_
  have e : lessN (q.getD t 0) t (i, q.getD s 0, (s : Int)) 0 = 0 := rfl
  rw [e] at h
  simpa using h
theorem lessN_keys (n : Int) (t : Nat) (x : K3) : lessN n t x n.toNat = (keysOf n t).countP (fun y => lessK y x) := by
  unfold lessN keysOf; rw [List.countP_map]; rfl
theorem place_loop {q : List Int} (hq : Good q) {s : Nat} (hs : s < 256) {i : Int} (hc : 0 < q.getD s 0) (hi : q.getD s 0 ≤ i ∧ i < 2 * q.getD s 0) : ∀ (d t : Nat), t + d = q.length → Ev (fun k => puncheonref10_Place.l0 k q s i ((allKeys (q.take t)).countP (fun y => lessK y (i, q.getD s 0, (s : Int))) : Nat) (t : Int)) ((allKeys q).countP (fun y => lessK y (i, q.getD s 0, (s : Int))) : Nat) := by
  have hl := hq.len
  intro d
  induction d with
  | zero =>
    intro t ht
    refine Ev.step (fun k => (show puncheonref10_Place.l0 (k + 1) q s i _ _ = _ by simp only [puncheonref10_Place.l0]; rw [if_neg (by omega)])) ?_
    rw [show t = q.length by omega, List.take_length]; exact Ev.now _
  | succ d ih =>
    intro t ht
    have hlt : (t : Int) < (q.length : Int) := by omega
    refine Ev.step (fun k => (show puncheonref10_Place.l0 (k + 1) q s i _ _ = _ by simp only [puncheonref10_Place.l0]; rw [if_pos hlt])) ?_
    refine Ev.bind (refLess_eq hq (by omega) hs hc hi) ?_
    have ih' := ih (t + 1) (by omega)
    rw [allKeys_take (by omega), List.countP_append, ← lessN_keys] at ih'
    have hb : (allKeys (q.take t)).countP (fun y => lessK y (i, q.getD s 0, (s : Int))) + lessN (q.getD t 0) t (i, q.getD s 0, (s : Int)) (q.getD t 0).toNat ≤ 4096 := by
      rw [lessN_keys, ← List.countP_append, ← allKeys_take (by omega)]
      refine Nat.le_trans List.countP_le_length ?_
      have h1 := allKeys_length hq.nonneg
      have h2 := hq.sum
      have h3 : (allKeys (q.take (t + 1))).length ≤ (allKeys q).length := by
        have h5 : ∀ a b : List Int, allKeys (a ++ b) = allKeys a ++ (b.zipIdx a.length).flatMap (fun p => keysOf p.1 p.2) := fun a b => by simp [allKeys, List.zipIdx_append]
        have h4 := h5 (q.take (t + 1)) (q.drop (t + 1))
        rw [List.take_append_drop] at h4
        rw [h4, List.length_append]; omega
      omega
    rw [w64 (n := _ + _) (by omega), wS t (by omega)]
    rw [Int.natCast_add] at ih'
    exact ih'
theorem refPlace_eq {q : List Int} (hl : logC q ≠ 0) {s : Nat} (hs : s < 256) {i : Nat} (h1 : cntC q s ≤ i) (h2 : i < 2 * cntC q s) : Ev (fun k => puncheonref10_Place.f k q s i) ((placesC q s).getD (i - cntC q s) 0) := by
  have hq := good_of_log hl
  have hc := cnt_eq hq s
  have hg := hq.get s
  have := place_loop hq hs (i := i) (by omega) (by omega) q.length 0 (by omega)
  have e0 : (allKeys (q.take 0)).countP (fun y => lessK y ((i : Int), q.getD s 0, (s : Int))) = 0 := by simp [allKeys]
  rw [e0] at this
  obtain ⟨P, e1, hP, e2⟩ := key_at hq hs (d := i - cntC q s) (by omega)
  have e3 := order_rank hq hP
  rw [e2, show q.getD s 0 + ((i - cntC q s : Nat) : Int) = i by omega] at e3
  rw [e3] at this
  rw [e1]
  exact this
end Go.Proofs.Ytfnobinenolhhaa
namespace Go.Proofs.Ytfnobinenolhhaa
open Go.RowKit Go.Proofs.Ytfnobinenolhhaa.PRef Go.Proofs.YtfnobinenolhhaaW.PrintWords Go.Proofs.YtfnobinenolhhaaW.PrintLast Go.Proofs.YtfnobinenolhhaaW.PrintMore
theorem shl_pow (r : Nat) (h : r ≤ 30) : shl .i64 1 (r : Int) = ((2 ^ r : Nat) : Int) := by
  unfold shl
  have e : min (r : Int).toNat IntKind.i64.bits = r := by
    have : IntKind.i64.bits = 64 := rfl
    rw [this, Int.toNat_natCast]; omega
  rw [e, Int.one_mul]
  have h2 : (2 : Nat) ^ r ≤ 2 ^ 30 := Nat.pow_le_pow_right (by omega) h
  have e2 : (2 : Int) ^ r = ((2 ^ r : Nat) : Int) := by simp
  rw [e2]
  obtain ⟨P, hP⟩ : ∃ P : Nat, P = 2 ^ r := ⟨_, rfl⟩
  rw [← hP] at h2 ⊢
  exact Go.IntWalk.i64_in _ (by omega)
end Go.Proofs.Ytfnobinenolhhaa
namespace Go.Proofs.Ytfnobinenolhhaa
open Go.RowKit Go.IntWalk Go.Proofs.YtfnobinenolhhaaW.PrintWords
set_option maxRecDepth 100000 in
set_option maxHeartbeats 2000000 in
theorem rRightT_any (lg : Int) (one : Bool) (A : Option Addr) (c : Nat) (qs : List (List Int)) (w : World) (hr : kq.C w A qs.length qs) (h : rightM lg one qs = true) (h1 : one = true → 0 < (qs.getD 0 []).length) :
    Calls Try.prog 38 #[.agg #[.int .i64 lg, .bool one, .slice A qs.length c]] w (Ret (.bool true) w) := by
  obtain ⟨W1, hW1⟩ : ∃ W1, W1 = w.alloc (.cells #[.int .i64 lg, .bool one, .slice A qs.length c] 24) := ⟨_, rfl⟩
  have HB := Lib.hid ((Below.refl w.heap.size w).alloc (Nat.le_refl _) (.cells #[.int .i64 lg, .bool one, .slice A qs.length c] 24))
  have hk1 : W1.heap[w.heap.size]? = some (.cells #[.int .i64 lg, .bool one, .slice A qs.length c] 24 (0, 0)) := by rw [hW1]; exact blk_new _ _
  have HR : Hid (kq.C W1 A qs.length qs) := Lib.hid (by rw [hW1]; exact Kd.C_alloc hr _)
  rw [← hW1] at HB
  obtain ⟨l1, l2, l3, l4⟩ := right_len h
  have HL := Lib.hid (And.intro h1 (And.intro l3 l4))
  have HK := Lib.hid hk1
  have hn : Hid (qs.length ≤ 256) := Lib.hid (by rw [l3]; split <;> omega)
  have d1 : decide (lg < 1) = false := decide_eq_false (by omega)
  have d2 : decide (12 < lg) = false := decide_eq_false (by omega)
  have hd0 : (one = true ∧ qs.length = 1) ∨ (one = false ∧ qs.length = 256) := by cases one <;> simp_all
  obtain ⟨⟨m0, m1, m2⟩, _⟩ := cell3 hk1
  clear hr h h1 l1 l2 l3 l4 hk1
  obtain ⟨n, hnn⟩ : ∃ n, n = qs.length := ⟨_, rfl⟩
  rw [← hnn] at hd0 hn m2 HR HK ⊢
  rw [show (Obj.cells #[.int .i64 lg, .bool one, .slice A qs.length c] 24) = Obj.cells #[.int .i64 lg, .bool one, .slice A n c] 24 by rw [hnn]] at hW1
  have HN := Lib.hid hnn
  clear hnn
  have hcut : ∀ (o : Bool) (q1 q2 : Bool), True := fun _ _ _ => trivial
  have HF : one = true → ∀ i, i < n → (qs.getD i []).length ≠ 0 := fun e i hi => by
    rcases hd0 with ⟨_, e2⟩ | ⟨e1, _⟩
    · have := HL.out.1 e
      rw [show i = 0 by omega]; omega
    · rw [e] at e1; cases e1
  have HF' := Lib.hid HF
  clear HF
  have d3 : one = true → ((n : Int) != 1) = false := fun e => by rcases hd0 with ⟨_, e2⟩ | ⟨e1, _⟩ <;> simp_all
  have d4 : one = false → ((n : Int) != 256) = false := fun e => by rcases hd0 with ⟨e1, _⟩ | ⟨_, e2⟩ <;> simp_all
  have main : ∀ o : Bool, one = o → Calls Try.prog 38 #[.agg #[.int .i64 lg, .bool one, .slice A n c]] w (Ret (.bool true) w) := by
    intro o ho
    subst ho
    cases one
    all_goals
      first | have d5 := d3 rfl | have d5 := d4 rfl
      clear d3 d4 hd0 hcut
      go_enter Try.func38, Try.ntmps38
      go_wp2_with fail
      rw [← hW1]
      clear hW1 m0 m1 m2
      go_loopw [3] (fun kv wr => ∃ (i : Nat), kv = .int .i64 i ∧ i ≤ n ∧ Hid (Below W1.heap.size W1 wr)) (fun kv _ => n - (intOf kv).toNat)
      case atStart => exact ⟨0, rfl, by omega, Lib.hid (Below.refl _ _)⟩
      case round =>
        obtain ⟨i, rfl, hi, H⟩ := hrel
        obtain ⟨⟨m0, m1, m2⟩, _⟩ := cell3 (blk_below HK.out H.out)
        have hn256 := hn.out
        by_cases hlt : i < n
        · obtain ⟨ad, B, cb, rfl, hcell, hcb, hq⟩ := kq_at (Kd.C_below HR.out H.out) i hlt
          have hqs : i < qs.length := by rw [← HN.out]; exact hlt
          have HQL : Hid ((qs.getD i []).length ≠ 0 → (logC (qs.getD i []) : Int) = lg) := Lib.hid (fun e => (HL.out.2.2 _ (by rw [List.getD_eq_getElem?_getD, List.getElem?_eq_getElem hqs]; exact List.getElem_mem hqs) e).2)
          have HFi := fun e => HF'.out e i hlt
          obtain ⟨q, hqq⟩ : ∃ q, q = qs.getD i [] := ⟨_, rfl⟩
          rw [← hqq] at hcell hcb hq HQL HFi
          clear hqq hqs
          have HQ := Lib.hid (And.intro hcb hq)
          have hiI : (i : Int) < (n : Int) := by omega
          by_cases h0 : q.length = 0
          · first
              | exact absurd h0 (HFi (by first | exact True.intro | rfl))
              | (have d6 : ((q.length : Int) == 0) = true := by rw [h0]; rfl
                 clear h0 hlt hcb hq HFi
                 go_wp2_with fail
                 go_roundw
                 case rel => exact ⟨i + 1, by go_num, by omega, H⟩
                 case measure => simp [intOf]; omega)
          · have d6 : ((q.length : Int) == 0) = false := by simp; intro e; subst e; simp at h0
            have d7 : ((logC q : Int) != lg) = false := by simp; exact HQL.out h0
            clear h0 hcb hq HFi
            go_wp2_with fail
            go_region_held3 (fun w' => w'.cell? (ad.add i) = some (.slice B q.length cb) ∧ w'.cell? ⟨w.heap.size, 0, none⟩ = some (.int .i64 lg) ∧ w'.cell? ⟨w.heap.size, 2, none⟩ = some (.slice (some ad) n c)) ((repeat' apply And.intro) <;> first | assumption)
              (first | (go_at_call 57; refine (rLog_any B cb q _ (Kd.C_below HQ.out.2 (by first | exact (Below.refl _ _).drew | exact Below.refl _ _)) HQ.out.1).mono ?_; rintro e w2 ⟨rfl, hb2⟩; have k0 := pw_cell_below (w := wr) ⟨hb2.os, hb2.tape, hb2.output, hb2.size, hb2.block⟩ hcell; have k1 := pw_cell_below (w := wr) ⟨hb2.os, hb2.tape, hb2.output, hb2.size, hb2.block⟩ m0; have k2 := pw_cell_below (w := wr) ⟨hb2.os, hb2.tape, hb2.output, hb2.size, hb2.block⟩ m2; have HV2 := Lib.hid (show Below wr.heap.size wr w2 from ⟨hb2.os, hb2.tape, hb2.output, hb2.size, hb2.block⟩); clear hb2))
            all_goals
              go_wp2_with fail
              go_roundw
              case rel => exact ⟨i + 1, by go_num, by omega, Lib.hid (below_tr H.out HV2.out)⟩
              case measure => simp [intOf]; omega
        · obtain rfl : i = n := by omega
          go_wp2_with fail
          go_ret
          exact ⟨rfl, below_tr HB.out H.out⟩
  exact main one rfl
end Go.Proofs.Ytfnobinenolhhaa
namespace Go.Proofs.Ytfnobinenolhhaa
open Go.RowKit Go.IntWalk Go.Proofs.YtfnobinenolhhaaW.PrintWords
/-- a list of the model, as it lies -/
def AtPost (q : List Int) (w : World) (e : Ending) (w' : World) : Prop := ∃ (B : Option Addr) (cb : Nat), e = .returned (.slice B q.length cb) ∧ q.length ≤ cb ∧ (Kd.int .i64).C w' B q.length q ∧ Below w.heap.size w w'
set_option maxRecDepth 100000 in
set_option maxHeartbeats 1000000 in
theorem rMAt_any (lg : Int) (one : Bool) (A : Option Addr) (c : Nat) (qs : List (List Int)) (x : Nat) (w : World) (hr : kq.C w A qs.length qs) (h : rightM lg one qs = true) (h1 : one = true → 0 < (qs.getD 0 []).length) (hx : x < 256) :
    Calls Try.prog 28 #[.agg #[.int .i64 lg, .bool one, .slice A qs.length c], .int .i64 x] w (AtPost (qs.getD (listI one x) []) w) := by
  obtain ⟨W1, hW1⟩ : ∃ W1, W1 = w.alloc (.cells #[.int .i64 lg, .bool one, .slice A qs.length c] 24) := ⟨_, rfl⟩
  have HB := Lib.hid ((Below.refl w.heap.size w).alloc (Nat.le_refl _) (.cells #[.int .i64 lg, .bool one, .slice A qs.length c] 24))
  have hk1 : W1.heap[w.heap.size]? = some (.cells #[.int .i64 lg, .bool one, .slice A qs.length c] 24 (0, 0)) := by rw [hW1]; exact blk_new _ _
  have HR : Hid (kq.C W1 A qs.length qs) := Lib.hid (by rw [hW1]; exact Kd.C_alloc hr _)
  rw [← hW1] at HB
  have hlen := (right_len h).2.2.1
  have hi : listI one x < qs.length := by rw [hlen]; unfold listI; cases one <;> simp <;> omega
  have HX := Lib.hid (rRightT_any lg one A c qs W1 HR.out h h1)
  have HK := Lib.hid hk1
  have d1 : decide ((x : Int) < 0) = false := decide_eq_false (by omega)
  have d2 : decide (255 < (x : Int)) = false := decide_eq_false (by omega)
  obtain ⟨⟨m0, m1, m2⟩, _⟩ := cell3 hk1
  have HI := Lib.hid hi
  obtain ⟨q, hqq⟩ : ∃ q, q = qs.getD (listI one x) [] := ⟨_, rfl⟩
  rw [← hqq]
  have HQQ := Lib.hid hqq
  clear hr h h1 hk1 hlen hi hqq
  go_enter Try.func28, Try.ntmps28
  go_wp2_with fail
  rw [← hW1]
  go_wp2_with fail
  refine HX.out.mono ?_
  rintro e w2 ⟨rfl, hb2⟩
  obtain ⟨⟨n0, n1, n2⟩, _⟩ := cell3 (blk_below HK.out hb2)
  obtain ⟨ad, B, cb, rfl, hcell, hcb, hq⟩ := kq_at (Kd.C_below HR.out hb2) _ HI.out
  have HB2 := Lib.hid (below_tr HB.out hb2)
  rw [← HQQ.out] at hcell hcb hq
  have HQ := Lib.hid (And.intro hcb hq)
  clear hb2 hcb hq hW1 m0 m1 m2
  cases one
  · have e1 : listI false x = x := rfl
    rw [e1] at hcell HI
    have hiI : (x : Int) < (qs.length : Int) := by have := HI.out; omega
    clear e1
    go_wp2_with fail
    go_ret
    exact ⟨B, cb, rfl, HQ.out.1, HQ.out.2, HB2.out⟩
  · have e1 : listI true x = 0 := rfl
    rw [e1] at hcell HI
    have hiI : (0 : Int) < (qs.length : Int) := by have := HI.out; omega
    have hcell0 : w2.cell? ad = some (.slice B q.length cb) := hcell
    clear e1
    go_wp2_with fail
    go_ret
    exact ⟨B, cb, rfl, HQ.out.1, HQ.out.2, HB2.out⟩
end Go.Proofs.Ytfnobinenolhhaa
namespace Go.Proofs.Ytfnobinenolhhaa
open Go.RowKit Go.IntWalk Go.Proofs.Ytfnobinenolhhaa.PRef Go.Proofs.YtfnobinenolhhaaW.PrintWords Go.Proofs.YtfnobinenolhhaaW.PrintLast Go.Proofs.YtfnobinenolhhaaW.PrintMore
theorem right_one {lg : Int} {one : Bool} {qs : List (List Int)} (h : rightM lg one qs = true) : one = true → 0 < (qs.getD 0 []).length := by
  intro e
  subst e
  unfold rightM at h
  split at h
  · cases h
  · split at h
    · cases h
    · simp only [if_true, decide_eq_true_eq] at h; exact h.2
end Go.Proofs.Ytfnobinenolhhaa
namespace Go.Proofs.Ytfnobinenolhhaa
open Go.RowKit Go.IntWalk Go.Proofs.YtfnobinenolhhaaW.PrintWords
theorem same_same (A B : Option Addr) (ca cb : Nat) (p : List Int) (w : World) (ha : (Kd.int .u8).C w A p.length p) (hb : (Kd.int .u8).C w B p.length p) (hp : Bytes p) : Calls Try.prog 15 #[.slice A p.length ca, .slice B p.length cb] w (fun e w' => e = .returned (.bool true) ∧ w = w') := by
  have := same_any A B ca cb p p w ha hb hp hp
  rw [decide_eq_true rfl] at this; exact this
end Go.Proofs.Ytfnobinenolhhaa
namespace Go.Proofs.Ytfnobinenolhhaa
open Go.RowKit Go.Proofs.Ytfnobinenolhhaa.PRef Go.Proofs.YtfnobinenolhhaaW.PrintWords Go.Proofs.YtfnobinenolhhaaW.PrintLast Go.Proofs.YtfnobinenolhhaaW.PrintMore
def allBits (ps : List Int) (n : Nat) : List Bool := (List.range n).map (fun i => decide (bitI ps i = 1))
theorem allBits_len (ps : List Int) (n : Nat) : (allBits ps n).length = n := by simp [allBits]
theorem allBits_succ (ps : List Int) (n : Nat) : allBits ps (n + 1) = allBits ps n ++ [decide (bitI ps n = 1)] := by simp [allBits, List.range_succ]
theorem shr_bit (y k : Nat) (hy : y < 256) (hk : k < 8) : ((Go.bits .and .u8 (shr .u8 (y : Int) (k : Int)) 1) == 1) = decide (y / 2 ^ k % 2 = 1) := by
  have e1 : shr .u8 (y : Int) (k : Int) = ((y / 2 ^ k : Nat) : Int) := by
    unfold shr
    have : min (k : Int).toNat IntKind.u8.bits = k := by
      have : IntKind.u8.bits = 8 := rfl
      rw [this, Int.toNat_natCast]; omega
    rw [this]; simp
  rw [e1]
  have h2 := Nat.div_le_self y (2 ^ k)
  obtain ⟨z, hz⟩ : ∃ z, z = y / 2 ^ k := ⟨_, rfl⟩
  rw [← hz] at h2 ⊢
  have h := bits_mask .u8 8 (by decide) (fun n h0 h1 => by rw [IntKind.wrap_u8]; omega) 1 (by decide) (z : Int) (by omega) (by omega)
  have e : ((2 : Int) ^ 1 - 1) = 1 := by decide
  rw [e] at h
  rw [h]
  by_cases hh : z % 2 = 1
  · rw [decide_eq_true hh, beq_iff_eq]; omega
  · rw [decide_eq_false hh, beq_eq_false_iff_ne]; omega
theorem bits_loop (ps : List Int) (hps : ∀ x ∈ ps, 0 ≤ x ∧ x < 256) (hl : ps.length ≤ 1000000) : ∀ (d i k : Nat), 8 * i + k + d = 8 * ps.length → i < ps.length → k ≤ 8 → Ev (fun f => puncheonref01_Bits.l1 f ps (allBits ps (8 * i + k)) (i : Int) (k : Int)) (allBits ps (8 * ps.length)) := by
  intro d
  induction d with
  | zero =>
    intro i k h1 h2 h3
    refine Ev.step (fun f => (show puncheonref01_Bits.l1 (f + 1) _ _ _ _ = _ by simp only [puncheonref01_Bits.l1]; rw [if_neg (by omega), wS i (by omega)])) ?_
    refine Ev.step (fun f => (show puncheonref01_Bits.l0 (f + 1) _ _ _ = _ by simp only [puncheonref01_Bits.l0]; rw [if_neg (by omega)])) ?_
    rw [show 8 * i + k = 8 * ps.length by omega]; exact Ev.now _
  | succ d ih =>
    intro i k h1 h2 h3
    have c1 : (0 : Int) ≤ i := by omega
    have c2 : (i : Int) < (ps.length : Int) := by omega
    have one : ∀ (i k : Nat), 8 * i + k + (d + 1) = 8 * ps.length → i < ps.length → k < 8 → Ev (fun f => puncheonref01_Bits.l1 f ps (allBits ps (8 * i + k)) (i : Int) (k : Int)) (allBits ps (8 * ps.length)) := by
      intro i k h1 h2 h3
      have hx := hps _ (getD_mem h2)
      obtain ⟨y, hy⟩ : ∃ y : Nat, ps.getD i 0 = y := ⟨(ps.getD i 0).toNat, by omega⟩
      have hb : bitI ps (8 * i + k) = y / 2 ^ k % 2 := by
        unfold bitI
        rw [show (8 * i + k) / 8 = i by omega, show (8 * i + k) % 8 = k by omega, hy, Int.toNat_natCast]
      have c1 : (0 : Int) ≤ i := by omega
      have c2 : (i : Int) < (ps.length : Int) := by omega
      have c3 : (k : Int) < 8 := by omega
      have c4 : (0 : Int) ≤ k := by omega
      have c5 : (allBits ps (8 * i + k)).length < 140737488355328 := by rw [allBits_len]; omega
      refine Ev.step (fun f => (show puncheonref01_Bits.l1 (f + 1) _ _ _ _ = _ by simp only [puncheonref01_Bits.l1]; rw [if_pos c3, if_pos c1, if_pos c2, if_pos c4, if_pos c5, rd_nat, hy, shr_bit y k (by omega) h3, wS k (by omega), ← hb, ← allBits_succ])) ?_
      have := ih i (k + 1) (by omega) h2 (by omega)
      rw [show 8 * i + (k + 1) = 8 * i + k + 1 by omega] at this
      exact this
    by_cases h4 : k < 8
    · exact one i k h1 h2 h4
    · have h5 : i + 1 < ps.length := by omega
      have c3 : ((i + 1 : Nat) : Int) < (ps.length : Int) := by omega
      refine Ev.step (fun f => (show puncheonref01_Bits.l1 (f + 1) _ _ _ _ = _ by simp only [puncheonref01_Bits.l1]; rw [if_neg (by omega), wS i (by omega)])) ?_
      refine Ev.step (fun f => (show puncheonref01_Bits.l0 (f + 1) _ _ _ = _ by simp only [puncheonref01_Bits.l0]; rw [if_pos c3])) ?_
      have := one (i + 1) 0 (by omega) h5 (by omega)
      rw [show 8 * (i + 1) + 0 = 8 * i + k by omega] at this
      exact this
theorem refBits_eq (ps : List Int) (hps : ∀ x ∈ ps, 0 ≤ x ∧ x < 256) (hl : ps.length ≤ 1000000) : Ev (fun f => puncheonref01_Bits.f f ps) (allBits ps (8 * ps.length)) := by
  by_cases h0 : ps.length = 0
  · refine Ev.step (g := fun f => puncheonref01_Bits.l0 f ps [] 0) (fun f => (show puncheonref01_Bits.l0 (f + 1) _ _ _ = _ by simp only [puncheonref01_Bits.l0]; rw [if_neg (by omega)])) ?_
    rw [h0]; exact Ev.now _
  · have c3 : (0 : Int) < (ps.length : Int) := by omega
    refine Ev.step (g := fun f => puncheonref01_Bits.l0 f ps [] 0) (fun f => (show puncheonref01_Bits.l0 (f + 1) _ _ _ = _ by simp only [puncheonref01_Bits.l0]; rw [if_pos c3])) ?_
    exact bits_loop ps hps hl (8 * ps.length) 0 0 (by omega) (by omega) (by omega)
/-- bits above a payload's, and its mark -/
theorem mark_bits {ps : List Int} (hps : ∀ x ∈ ps, 0 ≤ x ∧ x < 256) (h : ¬ (ps.length = 0 ∨ lastB ps = 0)) : bitsIn ps < 8 * ps.length ∧ bitI ps (bitsIn ps) = 1 ∧ ∀ i, bitsIn ps < i → i < 8 * ps.length → bitI ps i = 0 := by
  have hm : lastB ps ∈ ps := getD_mem (by omega)
  have hx := hps _ hm
  obtain ⟨y, hy⟩ : ∃ y : Nat, lastB ps = y := ⟨(lastB ps).toNat, by omega⟩
  obtain ⟨a, b, c⟩ := bitLen_pow y (by omega) (by omega)
  have hb8 : Lib.bitLen y ≤ 8 := by
    have : ¬ 9 ≤ Lib.bitLen y := fun e => by
      have h2 : 2 ^ 8 ≤ 2 ^ (Lib.bitLen y - 1) := Nat.pow_le_pow_right (by omega) (by omega)
      omega
    omega
  have hbi : ∀ j, j < 8 → bitI ps (8 * (ps.length - 1) + j) = y / 2 ^ j % 2 := by
    intro j hj
    unfold bitI
    rw [show (8 * (ps.length - 1) + j) / 8 = ps.length - 1 by omega, show (8 * (ps.length - 1) + j) % 8 = j by omega]
    have : ps.getD (ps.length - 1) 0 = (y : Int) := hy
    rw [this, Int.toNat_natCast]
  have hB : bitsIn ps = 8 * (ps.length - 1) + (Lib.bitLen y - 1) := by unfold bitsIn; rw [hy, Int.toNat_natCast]; omega
  refine ⟨by omega, ?_, fun i h1 h2 => ?_⟩
  · rw [hB, hbi _ (by omega)]
    have h3 : y / 2 ^ (Lib.bitLen y - 1) = 1 := by
      rw [Nat.div_eq_iff (Nat.two_pow_pos _)]
      have : 2 ^ Lib.bitLen y = 2 * 2 ^ (Lib.bitLen y - 1) := by rw [← Nat.pow_succ']; congr 1; omega
      omega
    rw [h3]
  · obtain ⟨j, rfl⟩ : ∃ j, i = 8 * (ps.length - 1) + j := ⟨i - 8 * (ps.length - 1), by omega⟩
    rw [hbi _ (by omega)]
    have h3 : y < 2 ^ j := Nat.lt_of_lt_of_le (by first | exact b | exact c) (Nat.pow_le_pow_right (by omega) (by omega))
    rw [Nat.div_eq_of_lt h3]
theorem allBits_get (ps : List Int) (n i : Nat) (h : i < n) : rdOf false (allBits ps n) (i : Int) = decide (bitI ps i = 1) := by
  unfold rdOf allBits
  rw [Int.toNat_natCast, List.getD_eq_getElem?_getD, List.getElem?_map, List.getElem?_range h]; rfl
theorem open_loop {ps : List Int} (hps : ∀ x ∈ ps, 0 ≤ x ∧ x < 256) (hl : ps.length ≤ 1000000) (h : ¬ (ps.length = 0 ∨ lastB ps = 0)) : ∀ (d n : Nat), n = bitsIn ps + d → n < 8 * ps.length → Ev (fun f => puncheonref02_Open.l0 f (allBits ps (8 * ps.length)) (n : Int)) (bitsL ps, 0) := by
  obtain ⟨m1, m2, m3⟩ := mark_bits hps h
  have hlen := allBits_len ps (8 * ps.length)
  intro d
  induction d with
  | zero =>
    intro n hn h2
    have hb := allBits_get ps _ n h2
    rw [show n = bitsIn ps by omega] at hb ⊢
    rw [m2] at hb
    have hb' : rdOf false (allBits ps (8 * ps.length)) ((bitsIn ps : Nat) : Int) = true := by rw [hb]; decide
    refine Ev.step (fun f => (show puncheonref02_Open.l0 (f + 1) _ _ = _ by simp only [puncheonref02_Open.l0]; rw [if_pos (by omega), if_pos (by rw [hlen]; omega), if_pos hb', if_pos (by rw [hlen]; omega), Int.toNat_natCast])) ?_
    have e : (allBits ps (8 * ps.length)).take (bitsIn ps) = bitsL ps := by
      unfold allBits bitsL
      rw [← List.map_take, List.take_range, Nat.min_eq_left (by omega)]
    rw [e]; exact Ev.now _
  | succ d ih =>
    intro n hn h2
    have hb := allBits_get ps _ n h2
    rw [m3 n (by omega) h2] at hb
    have hb' : ¬ rdOf false (allBits ps (8 * ps.length)) (n : Int) = true := by rw [hb]; decide
    have e : wrap64 ((n : Int) - 1) = ((n - 1 : Nat) : Int) := by rw [w64 (by omega)]; omega
    refine Ev.step (fun f => (show puncheonref02_Open.l0 (f + 1) _ _ = _ by simp only [puncheonref02_Open.l0]; rw [if_pos (by omega), if_pos (by rw [hlen]; omega), if_neg hb', e])) ?_
    exact ih (n - 1) (by omega) (by omega)
def openR (ps : List Int) : List Bool × Int := if ps.length = 0 ∨ lastB ps = 0 then ([], 2) else (bitsL ps, 0)
theorem refOpen_eq (ps : List Int) (hps : ∀ x ∈ ps, 0 ≤ x ∧ x < 256) (hl : ps.length ≤ 1000000) : Ev (fun f => puncheonref02_Open.f f ps) (openR ps) := by
  have hj : ∀ b : Bool, b = decide (ps.length = 0 ∨ lastB ps = 0) → Ev (fun f => puncheonref02_Open.j0 f ps b) (openR ps) := by
    intro b hb
    cases b with
    | true =>
      have := of_decide_eq_true hb.symm
      refine Ev.step (fun f => (show puncheonref02_Open.j0 (f + 1) _ _ = _ by simp only [puncheonref02_Open.j0]; rw [if_pos trivial])) ?_
      unfold openR; rw [if_pos this]; exact Ev.now _
    | false =>
      have h0 := of_decide_eq_false hb.symm
      refine Ev.step (fun f => (show puncheonref02_Open.j0 (f + 1) _ _ = _ by simp only [puncheonref02_Open.j0]; rw [if_neg (by decide)])) ?_
      refine Ev.bind (refBits_eq ps hps hl) ?_
      have e : wrap64 (((allBits ps (8 * ps.length)).length : Int) - 1) = ((8 * ps.length - 1 : Nat) : Int) := by rw [allBits_len, w64 (by omega)]; omega
      refine Ev.congr (f := fun f => puncheonref02_Open.l0 f (allBits ps (8 * ps.length)) ((8 * ps.length - 1 : Nat) : Int)) (fun f => by rw [e]) ?_
      have hm := (mark_bits hps h0).1
      unfold openR; rw [if_neg h0]
      exact open_loop hps hl h0 (8 * ps.length - 1 - bitsIn ps) _ (by omega) (by omega)
  by_cases h0 : ps.length = 0
  · refine Ev.congr (fun f => (show puncheonref02_Open.f f ps = _ by unfold puncheonref02_Open.f; rw [if_pos (by omega)])) ?_
    exact hj true (by rw [decide_eq_true (.inl h0)])
  · have e : wrap64 ((ps.length : Int) - 1) = ((ps.length - 1 : Nat) : Int) := by rw [w64 (by omega)]; omega
    refine Ev.congr (fun f => (show puncheonref02_Open.f f ps = _ by unfold puncheonref02_Open.f; rw [if_neg (by omega), e, if_pos (by omega), if_pos (by omega), rd_nat])) ?_
    refine hj _ ?_
    by_cases h1 : lastB ps = 0
    · rw [decide_eq_true (.inr h1), beq_iff_eq]; exact h1
    · rw [decide_eq_false (fun h => by rcases h with h | h; exact h0 h; exact h1 h), beq_eq_false_iff_ne]; exact h1
end Go.Proofs.Ytfnobinenolhhaa
namespace Go.Proofs.Ytfnobinenolhhaa
open Go.RowKit Go.IntWalk Go.Proofs.Ytfnobinenolhhaa.PRef Go.Proofs.YtfnobinenolhhaaW.PrintWords Go.Proofs.YtfnobinenolhhaaW.PrintLast Go.Proofs.YtfnobinenolhhaaW.PrintMore
theorem bools_get {w : World} {A : Option Addr} {n : Nat} {xs : List Bool} (h : Kd.bool.C w A n xs) (i : Nat) (hi : i < n) : ∃ ad, A = some ad ∧ w.cell? (ad.add i) = some (.bool (xs.getD i false)) := by
  obtain ⟨ad, e, hc⟩ := Kd.at_bool h (i : Int) (by omega) (by omega)
  exact ⟨ad, e, hc⟩
theorem byteL_drop {l : List Bool} {i : Nat} (h : i < l.length) : byteL (l.drop i) = (l.getD i false).toNat + 2 * byteL (l.drop (i + 1)) := by
  rw [List.drop_eq_getElem_cons h, List.getD_eq_getElem?_getD, List.getElem?_eq_getElem h]; rfl
set_option maxRecDepth 100000 in
set_option maxHeartbeats 1000000 in
theorem rNumber_any (A : Option Addr) (m cp : Nat) (l : List Bool) (w : World) (hm : m = l.length) (hr : Kd.bool.C w A m l) (hl : m ≤ 24) : Calls Try.prog 67 #[.slice A m cp] w fun e w' => e = .returned (.int .u32 (byteL l)) ∧ w = w' := by
  have HR := Lib.hid (And.intro hm hr)
  clear hm hr
  go_enter Try.func67, Try.ntmps67
  go_wp2_with fail
  go_loop [3, 4] (fun vv kv => ∃ (k v : Nat), kv = .int .i64 ((m : Int) - 1 - k) ∧ vv = .int .u32 v ∧ k ≤ m ∧ Hid (v = byteL (l.drop (m - k)))) (fun _ kv => ((intOf kv) + 1).toNat)
  case atStart => exact ⟨0, 0, by go_num, rfl, by omega, Lib.hid (by rw [Nat.sub_zero, HR.out.1, List.drop_length]; rfl)⟩
  case round =>
    obtain ⟨k, v, rfl, rfl, hk, H⟩ := hrel
    by_cases hlt : k < m
    · obtain ⟨i, hi⟩ : ∃ i, i = m - 1 - k := ⟨_, rfl⟩
      rw [show ((m : Int) - 1 - (k : Int)) = (i : Int) by omega]
      have him : i < m := by omega
      have hbd := byteL_drop (l := l) (i := i) (by have := HR.out.1; omega)
      have hv := byteL_lt (l.drop (m - k))
      rw [← H.out, List.length_drop] at hv
      have hv2 : 2 ^ (l.length - (m - k)) ≤ 2 ^ 23 := Nat.pow_le_pow_right (by omega) (by have := HR.out.1; omega)
      have hv3 : v < 8388608 := by omega
      rw [show i + 1 = m - k by omega, ← H.out] at hbd
      obtain ⟨ad, rfl, hc⟩ := bools_get HR.out.2 i him
      obtain ⟨b, hb⟩ : ∃ b, b = l.getD i false := ⟨_, rfl⟩
      rw [← hb] at hc hbd
      have HN := Lib.hid (And.intro hbd hi)
      have hiI : (i : Int) < (m : Int) := by omega
      clear hbd hi hv hv2 hb
      cases b
      all_goals
        go_wp2_with fail
        go_round
        case rel => exact ⟨k + 1, _, by rw [show ((m : Int) - 1 - ((k + 1 : Nat) : Int)) = (i : Int) - 1 by have := HN.out.2; omega], by first | rfl | go_num, by omega, Lib.hid (by rw [show m - (k + 1) = i by have := HN.out.2; omega, HN.out.1]; simp; try omega)⟩
        case measure => first | (simp [intOf]; done) | (simp [intOf]; omega)
    · obtain rfl : k = m := by omega
      rw [show ((k : Int) - 1 - (k : Int)) = (-1 : Int) by omega]
      go_wp2_with fail
      go_ret
      have h := H.out
      rw [Nat.sub_self, List.drop_zero] at h
      subst h
      exact ⟨rfl, rfl⟩
theorem infoBools : (Try.prog.info? 4).map (·.size) = some 1 := by kernel_rfl
set_option maxRecDepth 100000 in
set_option maxHeartbeats 1000000 in
theorem rTake_yes (A : Option Addr) (m cp n : Nat) (l : List Bool) (w : World) (hm : m = l.length) (hcp : m ≤ cp) (hr : Kd.bool.C w A m l) (hn : n ≤ 24) (hl : n ≤ m) (hm2 : m ≤ 1000000) : Calls Try.prog 40 #[.slice A m cp, .int .i64 n] w (Ret (.tuple #[.slice A (m - n : Nat) cp, .int .u32 (byteL (l.drop (m - n))), .bool true]) w) := by
  obtain ⟨k, hk⟩ : ∃ k, k = m - n := ⟨_, rfl⟩
  rw [← hk]
  obtain ⟨i0, hi0, hsz⟩ := Option.map_eq_some_iff.1 infoBools
  have hcut1 : ∀ W : World, (Instr.slice 31 (.slice A m cp) none (some (.int .i64 (k : Int))) none).run Try.prog W = .ok (.slice A k cp) W := by
    have := cut_to (P := Try.prog) 31 4 .i64 Try.underlying31 hi0 A m cp (k : Int) (by omega) (by omega) hcp
    simpa using this
  obtain ⟨A2, hA2⟩ : ∃ A2, A2 = (if cp = k then A else A.map (·.add (k * 1))) := ⟨_, rfl⟩
  have hcut2 : ∀ W : World, (Instr.slice 31 (.slice A m cp) (some (.int .i64 (k : Int))) none none).run Try.prog W = .ok (.slice A2 n (cp - k)) W := by
    have := cut_from (P := Try.prog) 31 4 .i64 Try.underlying31 hi0 1 hsz A m cp (k : Int) (by omega) (by omega)
    simp only [Int.toNat_natCast] at this
    rw [← hA2, show m - k = n by omega] at this
    exact this
  have hC : Kd.bool.C w A2 n (l.drop k) := by
    have h2 := Kd.C_drop (c := cp) (m := k) (by rw [← hm]; exact hr) (by omega) (by omega)
    have e : (l.drop k).length = n := by rw [List.length_drop]; omega
    rw [e] at h2
    rw [hA2]; exact h2
  have HN := Lib.hid (fun W (h : Below w.heap.size w W) => rNumber_any A2 n (cp - k) (l.drop k) W (by rw [List.length_drop]; omega) (Kd.C_below hC h) hn)
  have d1 : decide ((n : Int) < 0) = false := decide_eq_false (by omega)
  have d2 : decide ((24 : Int) < (n : Int)) = false := decide_eq_false (by omega)
  have d3 : decide ((m : Int) < (n : Int)) = false := decide_eq_false (by omega)
  have d3n : decide (m < n) = false := decide_eq_false (by omega)
  have hmk : (m : Int) - (n : Int) = (k : Int) := by omega
  have HX := Lib.hid (And.intro hm hr)
  have hk0 : (0 : Int) ≤ k := by omega
  have hkm : (k : Int) ≤ (m : Int) := by omega
  have hkc : (k : Int) ≤ (cp : Int) := by omega
  have hwk : IntKind.i64.wrap (k : Int) = k := i64_in _ (by omega)
  clear hk hA2 hC hm hr hi0 hsz
  go_enter Try.func40, Try.ntmps40
  go_wp2_with fail
  go_quiet ((go_at_call 67; refine Calls.quiet_of_same ((HN.out _ (pw_below_drewN (Below.refl _ _) _)).mono fun e w' h => ⟨h.1, h.2.symm⟩)))
  all_goals
    go_wp2_with fail
    go_ret3
    exact ⟨rfl, by first | exact Below.refl _ _ | exact pw_below_drewN (Below.refl _ _) _⟩
set_option maxRecDepth 100000 in
set_option maxHeartbeats 1000000 in
theorem rTake_no (A : Option Addr) (m cp n : Nat) (w : World) (hn : n ≤ 24) (hl : m < n) : Calls Try.prog 40 #[.slice A m cp, .int .i64 n] w (Ret (.tuple #[.slice A m cp, .int .u32 0, .bool false]) w) := by
  have d1 : decide ((n : Int) < 0) = false := decide_eq_false (by omega)
  have d2 : decide ((24 : Int) < (n : Int)) = false := decide_eq_false (by omega)
  have d3 : decide ((m : Int) < (n : Int)) = true := decide_eq_true (by omega)
  have d3n : decide (m < n) = true := decide_eq_true (by omega)
  go_enter Try.func40, Try.ntmps40
  go_wp2_with fail
  go_ret3
  exact ⟨rfl, Below.refl _ _⟩
end Go.Proofs.Ytfnobinenolhhaa
namespace Go.Proofs.Ytfnobinenolhhaa
open Go.RowKit Go.Proofs.Ytfnobinenolhhaa.PRef Go.Proofs.YtfnobinenolhhaaW.PrintWords Go.Proofs.YtfnobinenolhhaaW.PrintLast Go.Proofs.YtfnobinenolhhaaW.PrintMore
def cellS (x : K3) : S77 := ⟨x.1, x.2.1, x.2.2⟩
/-- which symbol, and its numerator, at a place -/
def symAt (q : List Int) (P : Nat) : Nat := ((symsL q).getD P 0).toNat
/-- the cells of all keys ahead of a symbol's key i -/
def outT (q : List Int) (s i : Nat) : List S77 := (List.range (2 ^ logC q)).map (fun P => if symAt q P < s ∨ (symAt q P = s ∧ grownC q P < i) then cellS (cellAt q P) else z77)
theorem outT_len (q : List Int) (s i : Nat) : (outT q s i).length = 2 ^ logC q := by simp [outT]
theorem outT_at (q : List Int) (s i P : Nat) (h : P < (outT q s i).length) : (outT q s i)[P] = if symAt q P < s ∨ (symAt q P = s ∧ grownC q P < i) then cellS (cellAt q P) else z77 := by simp [outT]
theorem place_facts {q : List Int} (hl : logC q ≠ 0) {s i : Nat} (h1 : cntC q s ≤ i) (h2 : i < 2 * cntC q s) : ∃ P : Nat, (placesC q s).getD (i - cntC q s) 0 = P ∧ P < 2 ^ logC q ∧ (symsL q).getD P 0 = s ∧ grownC q P = i ∧ (∀ P', P' < 2 ^ logC q → symAt q P' = s → grownC q P' = i → P' = P) := by
  have hq := good_of_log hl
  have hlen : (posN (symsL q) s (symsL q).length).length = cntC q s := rfl
  obtain ⟨P, e1, e2, e3, e4⟩ := place_at (l := symsL q) (s := s) (k := i - cntC q s) (by omega)
  rw [syms_length hl] at e2
  have hg := syms_getD hl e2
  have hgr : ∀ P', P' < 2 ^ logC q → (symsL q).getD P' 0 = s → grownC q P' = cntC q s + (posN (symsL q) s P').length := fun P' _ h => by
    unfold grownC; rw [h]; simp only [Int.toNat_natCast]; rw [cnt_eq hq]
  refine ⟨P, e1, e2, by rw [hg.1, e3], by rw [hgr P e2 (by rw [hg.1, e3]), e4]; omega, fun P' hP' hs' hg' => ?_⟩
  have hg2 := syms_getD hl hP'
  have hs2 : (symsL q).getD P' 0 = s := by unfold symAt at hs'; omega
  have h3 := hgr P' hP' hs2
  have h4 := place_of (l := symsL q) (s := s) (P := P') (by rw [syms_length hl]; exact hP') (by rw [← hg2.1]; exact hs2)
  rw [show (posN (symsL q) s P').length = i - cntC q s by omega] at h4
  have h5 : ((P' : Nat) : Int) = P := by rw [← h4]; exact e1
  omega
theorem outT_set {q : List Int} {s i P : Nat} (hs : (symsL q).getD P 0 = s) (hg : grownC q P = i) (hu : ∀ P', P' < 2 ^ logC q → symAt q P' = s → grownC q P' = i → P' = P) : (outT q s i).set P (cellS (cellAt q P)) = outT q s (i + 1) := by
  refine List.ext_getElem (by rw [List.length_set, outT_len, outT_len]) fun k h1 h2 => ?_
  rw [List.getElem_set, outT_at, outT_at]
  rw [List.length_set, outT_len] at h1
  by_cases h : P = k
  · subst h
    rw [if_pos rfl, if_pos (.inr ⟨by unfold symAt; omega, by omega⟩)]
  · rw [if_neg h]
    by_cases h3 : symAt q k < s ∨ (symAt q k = s ∧ grownC q k < i)
    · rw [if_pos h3, if_pos (by omega)]
    · rw [if_neg h3, if_neg (fun h4 => by
        rcases h4 with h4 | h4
        · exact h3 (.inl h4)
        · by_cases h5 : grownC q k = i
          · exact h (hu k h1 h4.1 h5).symm
          · exact h3 (.inr ⟨h4.1, by omega⟩))]
theorem outT_next {q : List Int} (hl : logC q ≠ 0) (s : Nat) : outT q s (2 * cntC q s) = outT q (s + 1) (cntC q (s + 1 : Nat)) := by
  have hq := good_of_log hl
  refine List.ext_getElem (by rw [outT_len, outT_len]) fun k h1 h2 => ?_
  rw [outT_at, outT_at]
  rw [outT_len] at h1
  have hk : k < (symsL q).length := by rw [syms_length hl]; exact h1
  have hg := grown_lt hq k hk
  have hs := sym_at hq k hk
  have hge : (q.getD ((symsL q).getD k 0).toNat 0).toNat ≤ grownC q k := by unfold grownC; omega
  have e : ∀ t : Nat, symAt q k = t → (q.getD ((symsL q).getD k 0).toNat 0).toNat = cntC q t := fun t ht => by
    rw [cnt_eq hq]; unfold symAt at ht; rw [ht]
  by_cases h3 : symAt q k < s
  · rw [if_pos (.inl h3), if_pos (.inl (by omega))]
  · by_cases h4 : symAt q k = s
    · rw [if_pos (.inr ⟨h4, by rw [← e s h4]; exact hg.2⟩), if_pos (.inl (by omega))]
    · rw [if_neg (by omega), if_neg (fun h5 => by
        rcases h5 with h5 | h5
        · omega
        · have := e (s + 1) h5.1
          have h6 := h5.2
          omega)]
theorem of11_loop {q : List Int} (hl : logC q ≠ 0) : ∀ (d s : Nat), s + d = 256 → ∀ (r i : Nat), cntC q s ≤ i → i + r = 2 * cntC q s → s < 256 → Ev (fun k => puncheonref11_Of.l1 k q ((logC q : Nat) : Int) ((2 ^ logC q : Nat) : Int) (outT q s i) (s : Int) (i : Int)) ((cellsC q).map cellS, 0) := by
  have hq := good_of_log hl
  have hlen := hq.len
  have hr12 : logC q ≤ 12 := logT_le _
  have hp12 : 2 ^ logC q ≤ 2 ^ 12 := Nat.pow_le_pow_right (by omega) hr12
  have hcnt : ∀ s : Nat, s < 256 → q.getD s 0 = (cntC q s : Int) ∧ cntC q s ≤ 4096 := fun s _ => by
    have h1 := cnt_eq hq s; have h2 := (hq.get s).1; have h3 := cnt_le hl s; omega
  intro d
  induction d with
  | zero => intro s h1 r i _ _ h; omega
  | succ d ihd =>
    intro s hs r
    induction r with
    | zero =>
      intro i h1 h2 h3
      obtain ⟨hc, hc2⟩ := hcnt s h3
      have c1 : (0 : Int) ≤ s := by omega
      have c2 : (s : Int) < (q.length : Int) := by omega
      have e0 : ¬ (i : Int) < wrap64 (2 * (cntC q s : Int)) := by rw [w64 (by omega)]; omega
      refine Ev.step (fun k => (show puncheonref11_Of.l1 (k + 1) _ _ _ _ _ _ = _ by simp only [puncheonref11_Of.l1]; rw [if_pos c1, if_pos c2, rd_nat, hc, if_neg e0, wS s (by omega)])) ?_
      rw [show i = 2 * cntC q s by omega, outT_next hl]
      by_cases h5 : s + 1 < 256
      · obtain ⟨hd, hd2⟩ := hcnt (s + 1) h5
        refine Ev.step (fun k => (show puncheonref11_Of.l0 (k + 1) _ _ _ _ _ = _ by simp only [puncheonref11_Of.l0]; rw [if_pos (by omega), if_pos (by omega), if_pos (by omega), rd_nat, hd])) ?_
        exact ihd (s + 1) (by omega) (cntC q (s + 1 : Nat)) _ (Nat.le_refl _) (by omega) h5
      · refine Ev.step (fun k => (show puncheonref11_Of.l0 (k + 1) _ _ _ _ _ = _ by simp only [puncheonref11_Of.l0]; rw [if_neg (by omega)])) ?_
        have e : outT q (s + 1) (cntC q (s + 1 : Nat)) = (cellsC q).map cellS := by
          refine List.ext_getElem (by rw [outT_len, List.length_map, cellsC_len hl]) fun k g1 g2 => ?_
          rw [outT_at, List.getElem_map]
          rw [outT_len] at g1
          have hk : k < (symsL q).length := by rw [syms_length hl]; exact g1
          have h6 := sym_at hq k hk
          rw [if_pos (.inl (by unfold symAt; omega))]
          have h7 := cellsC_get hl k g1
          rw [List.getD_eq_getElem?_getD, List.getElem?_eq_getElem (by rw [cellsC_len hl]; exact g1), Option.getD_some] at h7
          rw [h7]
        rw [e]; exact Ev.now _
    | succ r ih =>
      intro i h1 h2 h3
      obtain ⟨hc, hc2⟩ := hcnt s h3
      obtain ⟨P, p1, p2, p3, p4, p5⟩ := place_facts hl (s := s) (i := i) h1 (by omega)
      have c1 : (0 : Int) ≤ s := by omega
      have c2 : (s : Int) < (q.length : Int) := by omega
      have e0 : (i : Int) < wrap64 (2 * (cntC q s : Int)) := by rw [w64 (by omega)]; omega
      refine Ev.step (fun k => (show puncheonref11_Of.l1 (k + 1) _ _ _ _ _ _ = _ by simp only [puncheonref11_Of.l1]; rw [if_pos c1, if_pos c2, rd_nat, hc, if_pos e0])) ?_
      refine Ev.bind (refFloor_eq i (by omega)) ?_
      have hP := refPlace_eq hl h3 (i := i) h1 (by omega)
      rw [p1] at hP
      refine Ev.bind hP ?_
      have hPs : P < (symsL q).length := by rw [syms_length hl]; exact p2
      obtain ⟨g0, g1, g2, g3, g4⟩ := grown_floor hl P hPs
      rw [p4] at g0 g1 g2 g3 g4
      have ew : wrap64 (((logC q : Nat) : Int) - ((floorI i : Nat) : Int)) = ((logC q - floorI i : Nat) : Int) := by rw [w64 (by omega)]; omega
      have hce := cell_eq (q := q) (k := P) (x := s) (y := i) (r := logC q) (fl := floorI i) (b := logC q - floorI i) p3 p4.symm rfl rfl (by omega) g4 hr12
      have e1 : ((s : Int) % 256) = s := by omega
      have e2 : wrap64 (wrap64 ((i : Int) * shl .i64 1 ((logC q - floorI i : Nat) : Int)) - ((2 ^ logC q : Nat) : Int)) = (cellAt q P).2.2 := by
        rw [shl_pow _ (by omega), ← hce]
        have hw : IntKind.i64.wrap (2 ^ logC q) = ((2 ^ logC q : Nat) : Int) := by
          have e : (2 : Int) ^ logC q = ((2 ^ logC q : Nat) : Int) := by simp
          rw [e]; exact Go.IntWalk.i64_in _ (by omega)
        have e : (2 : Int) ^ (logC q - floorI i) = ((2 ^ (logC q - floorI i) : Nat) : Int) := by simp
        simp only []
        rw [hw, e]
        simp only [IntKind.wrap_i64, wrap64]
      have e3 : ((logC q - floorI i : Nat) : Int) = (cellAt q P).2.1 := by rw [← hce]
      have e4 : (s : Int) = (cellAt q P).1 := by rw [← hce]
      have hcell : (⟨(s : Int) % 256, wrap64 (((logC q : Nat) : Int) - ((floorI i : Nat) : Int)), wrap64 (wrap64 ((i : Int) * shl .i64 1 (wrap64 (((logC q : Nat) : Int) - ((floorI i : Nat) : Int)))) - ((2 ^ logC q : Nat) : Int))⟩ : S77) = cellS (cellAt q P) := by
        rw [ew, e1, e2, e3, e4]; rfl
      have hg1 : (0 : Int) ≤ wrap64 (((logC q : Nat) : Int) - ((floorI i : Nat) : Int)) := by rw [ew]; omega
      have hg2 : (0 : Int) ≤ ((P : Nat) : Int) := by omega
      have hg3 : ((P : Nat) : Int) < ((outT q s i).length : Int) := by rw [outT_len]; omega
      have ih' := ih (i + 1) (by omega) (by omega) h3
      rw [← outT_set p3 p4 p5] at ih'
      refine Ev.congr (f := fun k => puncheonref11_Of.l1 k q ((logC q : Nat) : Int) ((2 ^ logC q : Nat) : Int) ((outT q s i).set P (cellS (cellAt q P))) (s : Int) ((i + 1 : Nat) : Int)) (fun k => ?_) ih'
      rw [if_pos hg1, if_pos hg2, if_pos hg3, hcell, Int.toNat_natCast, wS i (by omega)]
theorem refOf11_eq (q : List Int) : Ev (fun k => puncheonref11_Of.f k q) (if logC q = 0 then ([], 1) else ((cellsC q).map cellS, 0)) := by
  unfold puncheonref11_Of.f
  refine Ev.bind (refLog_eq q) ?_
  by_cases h : logC q = 0
  · rw [if_pos h]
    refine Ev.congr (f := fun k => some ([], 1)) (fun k => ?_) (Ev.now _)
    rw [if_pos (by omega)]
  · rw [if_neg h]
    have hr12 : logC q ≤ 12 := logT_le _
    have hp12 : 2 ^ logC q ≤ 2 ^ 12 := Nat.pow_le_pow_right (by omega) hr12
    have hsh := shl_pow (logC q) (by omega)
    have hq := good_of_log h
    have hlen := hq.len
    have e0 : outT q 0 (cntC q (0 : Nat)) = List.replicate (2 ^ logC q) z77 := by
      refine List.ext_getElem (by rw [outT_len, List.length_replicate]) fun k h1 h2 => ?_
      rw [outT_at, List.getElem_replicate]
      rw [outT_len] at h1
      have hk : k < (symsL q).length := by rw [syms_length h]; exact h1
      have hge : (q.getD ((symsL q).getD k 0).toNat 0).toNat ≤ grownC q k := by unfold grownC; omega
      rw [if_neg (fun h5 => by
        rcases h5 with h5 | h5
        · omega
        · have : (q.getD ((symsL q).getD k 0).toNat 0).toNat = cntC q (0 : Nat) := by rw [cnt_eq hq]; have := h5.1; unfold symAt at this; rw [this]
          omega)]
    have hc1 : ¬ ((logC q : Nat) : Int) = 0 := by omega
    have hc2 : (0 : Int) ≤ ((logC q : Nat) : Int) := by omega
    have hc3 : (0 : Int) ≤ ((2 ^ logC q : Nat) : Int) := Int.natCast_nonneg _
    have hc4 : (((2 ^ logC q : Nat) : Int)).toNat ≤ 11728124029610 := by omega
    refine Ev.congr (f := fun k => puncheonref11_Of.l0 k q ((logC q : Nat) : Int) ((2 ^ logC q : Nat) : Int) (List.replicate (2 ^ logC q) z77) 0) (fun k => ?_) ?_
    · rw [if_neg hc1, if_pos hc2, hsh, if_pos hc3, if_pos hc4, Int.toNat_natCast]
    · have hc0 : q.getD 0 0 = (cntC q (0 : Nat) : Int) := by
        have h1 := cnt_eq hq 0; have h2 := (hq.get 0).1; omega
      have hrd : rd q 0 = (cntC q (0 : Nat) : Int) := hc0
      have hl0 : (0 : Int) < (q.length : Int) := by omega
      refine Ev.step (fun k => (show puncheonref11_Of.l0 (k + 1) _ _ _ _ _ = _ by simp only [puncheonref11_Of.l0]; rw [if_pos (by omega), if_pos (by omega), if_pos hl0, hrd])) ?_
      rw [← e0]
      exact of11_loop h 256 0 (by omega) (cntC q (0 : Nat)) _ (Nat.le_refl _) (by omega) (by omega)
end Go.Proofs.Ytfnobinenolhhaa
namespace Go.Proofs.Ytfnobinenolhhaa
open Go.RowKit Go.IntWalk Go.Proofs.Ytfnobinenolhhaa.PRef Go.Proofs.YtfnobinenolhhaaW.PrintWords Go.Proofs.YtfnobinenolhhaaW.PrintLast Go.Proofs.YtfnobinenolhhaaW.PrintMore
theorem R_iso {α β : Type} {d : Kd α} {f : β → α} {e : Nat} {w : World} {base : Nat} {ok : Nat → Prop} {v : Value} {xs : List β} (h : (Kd.iso d f).R e w base ok v xs) : d.R e w base ok v (xs.map f) := by
  obtain ⟨h0, inner, ho, hr⟩ := h
  refine ⟨h0, inner, by rw [List.length_map]; exact ho, by rw [List.length_map]; exact hr.1, fun j p hj => ?_⟩
  rw [List.getElem?_map] at hj
  obtain ⟨x, hx, rfl⟩ := Option.map_eq_some_iff.1 hj
  exact hr.2 j x hx
def Of11Post (q : List Int) (w : World) (e : Ending) (w' : World) : Prop := ∃ v, e = .returned (.tuple #[v, .int .i64 (if logC q = 0 then 1 else 0)]) ∧ (logC q ≠ 0 → kc.R 77 w' w.heap.size (fun _ => True) v (cellsC q)) ∧ Below w.heap.size w w'
theorem rOf11_any (A : Option Addr) (cp : Nat) (q : List Int) (w : World) (hr : (Kd.int .i64).C w A q.length q) (hc : q.length ≤ cp) : Calls Try.prog 41 #[.slice A q.length cp] w (Of11Post q w) := by
  obtain ⟨k, hk⟩ := (refOf11_eq q).rounds
  by_cases h : logC q = 0
  · rw [if_pos h] at hk
    refine (puncheonref11_Of.calls k A cp q _ _ w hr hc hk).mono ?_
    rintro e w' ⟨v, rfl, _, hb⟩
    exact ⟨v, by rw [if_pos h], fun h2 => absurd h h2, hb⟩
  · rw [if_neg h] at hk
    refine (puncheonref11_Of.calls k A cp q _ _ w hr hc hk).mono ?_
    rintro e w' ⟨v, rfl, hv, hb⟩
    refine ⟨v, by rw [if_neg h], fun _ => ?_, hb⟩
    have h2 := R_iso hv
    rw [List.map_map] at h2
    have e : ((fun x : S77 => (x.f0, x.f1, x.f2)) ∘ cellS) = id := by funext x; rfl
    rw [e, List.map_id] at h2
    exact h2
theorem rOpen_any (A : Option Addr) (cp : Nat) (ps : List Int) (w : World) (hr : (Kd.int .u8).C w A ps.length ps) (hc : ps.length ≤ cp) (hps : ∀ x ∈ ps, 0 ≤ x ∧ x < 256) (hl : ps.length ≤ 1000000) : Calls Try.prog 39 #[.slice A ps.length cp] w fun e w' => ∃ v, e = .returned (.tuple #[v, .int .i64 (openR ps).2]) ∧ Kd.bool.R 4 w' w.heap.size (fun _ => True) v (openR ps).1 ∧ Below w.heap.size w w' := by
  obtain ⟨k, hk⟩ := (refOpen_eq ps hps hl).rounds
  exact puncheonref02_Open.calls k A cp ps _ _ w hr hc hk
def kcs : Kd (List K3) := Kd.slice 77 kc
structure DR (gx gc : Nat) (w0 : World) (x0 x1 : Int) (ov : Value) (out : List Int) (CS : List (List K3)) (wr : World) : Prop where
  x : (Kd.int .i64).R 3 wr w0.heap.size (fun k => k = gx) (.slice (some ⟨gx, 0, none⟩) 2 2) [x0, x1]
  cs : kcs.R 73 wr w0.heap.size (fun k => k ≠ gx ∧ some k ≠ ov.ownBlock) (.slice (some ⟨gc, 0, none⟩) 256 256) CS
  out : (Kd.int .u8).R 5 wr w0.heap.size (fun _ => True) ov out
  ne : gx ≠ gc ∧ some gx ≠ ov.ownBlock ∧ some gc ≠ ov.ownBlock
  below : Below w0.heap.size w0 wr
theorem DR.later {gx gc : Nat} {w0 w w' : World} {x0 x1 : Int} {ov : Value} {out : List Int} {CS : List (List K3)} (h : DR gx gc w0 x0 x1 ov out CS w) (hb : Below w.heap.size w w') : DR gx gc w0 x0 x1 ov out CS w' :=
  ⟨Kd.R_below h.x hb, Kd.R_below h.cs hb, Kd.R_below h.out hb, h.ne, below_tr h.below hb⟩
theorem DR.ge {gx gc : Nat} {w0 w : World} {x0 x1 : Int} {ov : Value} {out : List Int} {CS : List (List K3)} (h : DR gx gc w0 x0 x1 ov out CS w) : (w0.heap.size ≤ gx ∧ gx < w.heap.size) ∧ (w0.heap.size ≤ gc ∧ gc < w.heap.size) := by
  have h1 := (Kd.R_bound h.x).1 gx rfl
  have h2 := (Kd.R_bound h.cs).1 gc rfl
  exact ⟨⟨h1.2.1, h1.2.2.1⟩, ⟨h2.2.1, h2.2.2.1⟩⟩
theorem DR.setx {gx gc t : Nat} {w0 w : World} {x0 x1 : Int} {ov : Value} {out : List Int} {CS : List (List K3)} (h : DR gx gc w0 x0 x1 ov out CS w) (ht : t < 2) (y : Int) : DR gx gc w0 (set2 t x0 x1 y).1 (set2 t x0 x1 y).2 ov out CS (w.setCell ⟨gx, t, none⟩ (.int .i64 y)) := by
  refine ⟨?_, Kd.R_far (p := ⟨gx, t, none⟩) h.cs (fun k hk => hk.1) _, Kd.R_mono (Kd.R_far (p := ⟨gx, t, none⟩) (Kd.R_far1 h.out rfl h.ne.2.1) (fun k hk => hk.2) _) (fun _ _ => trivial), h.ne, h.below.setCell h.ge.1.1 _⟩
  have h2 := Kd.R_putn h.x (t : Int) y
  have e : ([x0, x1] : List Int).set t y = [(set2 t x0 x1 y).1, (set2 t x0 x1 y).2] := by
    have : t = 0 ∨ t = 1 := by omega
    rcases this with rfl | rfl <;> rfl
  simp only [Int.toNat_natCast] at h2
  rw [e] at h2; exact h2
theorem DR.cellx {gx gc t : Nat} {w0 w : World} {x0 x1 : Int} {ov : Value} {out : List Int} {CS : List (List K3)} (h : DR gx gc w0 x0 x1 ov out CS w) (ht : t < 2) : w.cell? ⟨gx, t, none⟩ = some (.int .i64 (pick2 t x0 x1)) ∧ w.frozen? ⟨gx, t, none⟩ = false := by
  have h1 := ints_cells h.x t (by omega)
  have e : ([x0, x1] : List Int).getD t 0 = pick2 t x0 x1 := by
    have : t = 0 ∨ t = 1 := by omega
    rcases this with rfl | rfl <;> rfl
  rw [e] at h1; exact h1
theorem DR.cellc {gx gc c : Nat} {w0 w : World} {x0 x1 : Int} {ov : Value} {out : List Int} {CS : List (List K3)} (h : DR gx gc w0 x0 x1 ov out CS w) (hc : c < 256) : ∃ (B : Option Addr) (cb : Nat), w.cell? ⟨gc, c, none⟩ = some (.slice B (CS.getD c []).length cb) ∧ w.frozen? ⟨gc, c, none⟩ = false ∧ kc.C w B (CS.getD c []).length (CS.getD c []) := by
  obtain ⟨u, hcl, hm, hcc, hf⟩ := Kd.R_elem h.cs [] (c : Int) (by omega) (by omega)
  obtain ⟨v, rfl, hv⟩ := hm
  have h1 := hcc 0 v rfl
  have h2 := hf 0
  have hs : kcs.sz = 1 := rfl
  simp only [Int.toNat_natCast, hs, Nat.mul_one, Nat.add_zero] at h1 h2 hv
  obtain ⟨B, cb, rfl⟩ := Kd.R_slice hv
  exact ⟨B, cb, h1, h2, (Kd.R_reads' hv).2.2⟩
theorem DR.setc {gx gc c : Nat} {w0 w w1 : World} {x0 x1 : Int} {ov v : Value} {out : List Int} {CS : List (List K3)} {l : List K3} (h : DR gx gc w0 x0 x1 ov out CS w) (hb : Below w.heap.size w w1) (hc : c < 256) (hv : kc.R 77 w1 w.heap.size (fun _ => True) v l) : DR gx gc w0 x0 x1 ov out (CS.set c l) (w1.setCell ⟨gc, c, none⟩ v) := by
  have h1 := h.later hb
  have hge := h.ge
  have hw := h.below.size
  have hlt : ∀ k, ov.ownBlock = some k → k < w.heap.size := fun k hk => by
    obtain ⟨_, inner, ho, _⟩ := h.out
    exact own_lt ho k hk
  refine ⟨Kd.R_far (p := ⟨gc, c, none⟩) h1.x (fun k hk => by show k ≠ gc; have := h.ne.1; omega) _, ?_, Kd.R_mono (Kd.R_far (p := ⟨gc, c, none⟩) (Kd.R_far1 h1.out rfl h.ne.2.2) (fun k hk => hk.2) _) (fun _ _ => trivial), h.ne, h1.below.setCell hge.2.1 _⟩
  obtain ⟨u, hcl, _, hcc, _⟩ := Kd.R_elem h1.cs [] (c : Int) (by omega) (by omega)
  have hs : kcs.sz = 1 := rfl
  have hv2 : kc.R 77 w1 w0.heap.size (fun k => (k ≠ gx ∧ some k ≠ ov.ownBlock) ∧ k ≠ gc) v l := Kd.R_mono (Kd.R_lower (Kd.R_bound hv) hw) (fun k hk => by
    have h2 := hk.2.1
    refine ⟨⟨by omega, fun e => ?_⟩, by omega⟩
    have := hlt k e.symm; omega)
  have := (Kd.R_seg h1.cs (c : Int) (by omega) (by omega) (seg := [v]) (j := 0) (x' := l) (okp := fun k => (k ≠ gx ∧ some k ≠ ov.ownBlock) ∧ k ≠ gc) hcl hcc (by rw [hs]; simp) ⟨v, by rw [List.drop_of_length_le (by rw [hcl, hs]; simp)]; simp, hv2⟩ (fun k hk => hk)).1
  simp only [Int.toNat_natCast, hs, Nat.mul_one, Nat.add_zero] at this
  exact this
theorem DR.app {gx gc : Nat} {w0 w w1 : World} {x0 x1 : Int} {ov v1 : Value} {out out1 : List Int} {CS : List (List K3)} (h : DR gx gc w0 x0 x1 ov out CS w) (hr : (Kd.int .u8).R 5 w1 w0.heap.size (fun _ => True) v1 out1) (hb : Below w0.heap.size w0 w1) (hg : w.grownBy w1 ov.ownBlock) (hat : v1.ownBlock = ov.ownBlock ∨ ∃ b, v1.ownBlock = some b ∧ w.heap.size ≤ b) : DR gx gc w0 x0 x1 v1 out1 CS w1 := by
  have hge := h.ge
  refine ⟨Kd.R_grown1 h.x rfl hg (fun e => h.ne.2.1 e.symm), Kd.R_after h.cs hg hat, hr, ⟨h.ne.1, ?_, ?_⟩, hb⟩
  · rcases hat with e | ⟨b, e, hb2⟩
    · rw [e]; exact h.ne.2.1
    · rw [e]; intro e2; injection e2 with e2; omega
  · rcases hat with e | ⟨b, e, hb2⟩
    · rw [e]; exact h.ne.2.2
    · rw [e]; intro e2; injection e2 with e2; omega
theorem kcs_madeN (n : Nat) (hn : n ≤ 1000000) (W : World) (ok : Nat → Prop) (base : Nat) (hok : ok W.heap.size) (hb : base ≤ W.heap.size) : kcs.R 73 (W.alloc (.cells (madeCells #[.slice none 0 0] n) 73)) base ok (.slice (some ⟨W.heap.size, 0, none⟩) n n) (List.replicate n []) := by
  have hr := Kd.reps_made (R := kcs.M (W.alloc (.cells (madeCells #[.slice none 0 0] n) 73)) base (fun k => ok k ∧ some k ≠ (Value.slice (some ⟨W.heap.size, 0, none⟩) n n).ownBlock)) (z := .slice none 0 0) (size := 1) (z0 := ([] : List K3)) rfl Nat.one_pos ⟨.slice none 0 0, rfl, Kd.R_nil _ _ _ _ _⟩ n
  have e : (Value.slice none 0 0).cells = #[.slice none 0 0] := rfl
  rw [e, Nat.mul_one] at hr
  refine ⟨fun k hk => by cases hk; exact hok, _, ⟨?_, .inr ⟨W.heap.size, n, madeCells #[.slice none 0 0] n, by simp, hb, blk_new W _, by simp, by unfold maxLen; omega, ?_, ?_⟩⟩, hr⟩
  · simp [size_madeCells]; exact (Nat.mul_one n).symm
  · rw [size_madeCells]; exact (Nat.mul_one n).symm
  · rw [List.length_replicate]; exact List.take_of_length_le (by simp [size_madeCells]; exact Nat.le_of_eq (Nat.mul_one n).symm)
theorem infoCellsRow : (Try.prog.info? 73).map (fun i => (i.zero, i.size, i.bytes)) = some (some (.slice none 0 0), 1, 24) := by kernel_rfl
theorem made_cellrows (n : Nat) (hn : n ≤ 1000000) (w : World) : (Instr.makeSlice 72 (.int .i64 n) (.int .i64 n)).run Try.prog w = .ok (.slice (some ⟨w.heap.size, 0, none⟩) n n) (w.alloc (.cells (madeCells #[.slice none 0 0] n) 73)) := by
  obtain ⟨i0, hi, hzz⟩ := Option.map_eq_some_iff.1 infoCellsRow
  simp only [Prod.mk.injEq] at hzz
  obtain ⟨hz0, hz1, hz2⟩ := hzz
  have hr := run_make (P := Try.prog) w 72 73 i0 (.slice none 0 0) Try.underlying72 hi hz0 .i64 .i64 (n : Int) (n : Int) (by omega) (by omega) (by rw [hz2]; omega) (by omega)
  rw [hz1] at hr
  simpa [Value.cells] using hr
end Go.Proofs.Ytfnobinenolhhaa
namespace Go.Proofs.Ytfnobinenolhhaa
open Go.RowKit Go.IntWalk Go.Proofs.YtfnobinenolhhaaW.PrintWords
/-- between rounds -/
structure LRel (g : Nat) (one : Bool) (qs : List (List Int)) (ps : List Int) (N gx gc : Nat) (W5 : World) (B3 : List Bool) (res : Int × List Int) (i la left : Nat) (ov : Value) (wr : World) : Prop where
  ex : ∃ (x0 x1 : Int) (out : List Int) (CS : List (List K3)), DR gx gc W5 x0 x1 ov out CS wr ∧ (BitsP ps left (B3.take left) ∧ left ≤ B3.length) ∧ (CS.length = 256 ∧ ∀ c, c < 256 → CS.getD c [] = [] ∨ (logC (qs.getD (listI one (c : Int)) []) ≠ 0 ∧ CS.getD c [] = cellsC (qs.getD (listI one (c : Int)) []))) ∧
    decGo one qs ps (N - i) i la x0 x1 left out = res ∧ ((0 ≤ x0 ∧ x0 < 2 ^ g) ∧ (0 ≤ x1 ∧ x1 < 2 ^ g)) ∧ out.length = i
theorem bits_cut {ps : List Int} {left n : Nat} {bs : List Bool} (h : BitsP ps left bs) (hn : n ≤ left) : BitsP ps (left - n) (bs.take (left - n)) ∧ byteL (bs.drop (left - n)) = takeV ps left n := by
  obtain ⟨h1, h2⟩ := bits_split h hn
  refine ⟨h2, ?_⟩
  have hl := h.len
  have h3 : bs.drop (left - n) = lowBits (takeV ps left n) n := by
    have e : bs.drop (left - n) = (bs.take (left - n) ++ lowBits (takeV ps left n) n).drop (left - n) := congrArg (List.drop (left - n)) h1
    rw [e, List.drop_append, List.drop_of_length_le (by rw [List.length_take]; omega), List.length_take, Nat.min_eq_left (by omega), Nat.sub_self]; rfl
  rw [h3, byteL_low]
  exact Nat.mod_eq_of_lt (takeV_lt ps left n)
theorem bools_take {w : World} {A : Option Addr} {n : Nat} {xs : List Bool} (h : Kd.bool.C w A n xs) (m : Nat) (hm : m ≤ n) : Kd.bool.C w A m (xs.take m) := by
  have hn := h.1
  subst hn
  have h2 := Kd.C_take h hm
  have e : (xs.take m).length = m := by rw [List.length_take]; omega
  rw [e] at h2; exact h2
theorem nat_lt_pow {v g : Nat} (h : v < 2 ^ g) : 0 ≤ (v : Int) ∧ (v : Int) < 2 ^ g := by
  have e : (2 : Int) ^ g = ((2 ^ g : Nat) : Int) := by simp
  rw [e]; omega
theorem read_err (k : Int) (w w' : World) (hb : Below w.heap.size w w') : ReadPost (k, []) w (.returned (.tuple #[.slice none 0 0, .int .i64 k])) w' := ⟨⟨_, rfl, Kd.R_nil _ _ _ _ _⟩, hb⟩
/-- a cell of one's own -/
def CellM (s b e : Int) (wm : World) (v : Value) (wx : World) : Prop := ∃ mb : Nat, v = .pointer (some ⟨mb, 0, none⟩) ∧ wm.heap.size ≤ mb ∧ wx.heap[mb]? = some (.cells #[.int .u8 s, .int .i64 b, .int .i64 e] 77 (0, 0)) ∧ Below wm.heap.size wm wx
theorem cellM_mk {s b e : Int} {wm wx : World} (mb : Nat) (h2 : wx.heap[mb]? = some (.cells #[.int .u8 s, .int .i64 b, .int .i64 e] 77 (0, 0))) (h3 : Below wm.heap.size wm wx) (h1 : wm.heap.size ≤ mb) : CellM s b e wm (.pointer (some ⟨mb, 0, none⟩)) wx := ⟨mb, rfl, h1, h2, h3⟩
/-- with a context's cells at hand -/
structure LMid (g : Nat) (one : Bool) (qs : List (List Int)) (gx gc : Nat) (W1 : World) (la t X : Nat) (x0 x1 : Int) (ov : Value) (out : List Int) (q : List Int) (wm : World) : Prop where
  ex : ∃ (CS : List (List K3)) (adm : Addr) (cm : Nat), DR gx gc W1 x0 x1 ov out CS wm ∧ (CS.length = 256 ∧ ∀ c, c < 256 → CS.getD c [] = [] ∨ (logC (qs.getD (listI one (c : Int)) []) ≠ 0 ∧ CS.getD c [] = cellsC (qs.getD (listI one (c : Int)) []))) ∧
    wm.cell? ⟨gc, la, none⟩ = some (.slice (some adm) (2 ^ g) cm) ∧ wm.cell? ⟨gx, t, none⟩ = some (.int .i64 X) ∧ CellsC wm (adm.add (X * 3)) (cellAt q X)
theorem lmid_of {g : Nat} {one : Bool} {qs : List (List Int)} {gx gc : Nat} {W1 : World} {la t X : Nat} {x0 x1 : Int} {ov : Value} {out : List Int} {q : List Int} {CS : List (List K3)} {wm : World} (hD : DR gx gc W1 x0 x1 ov out CS wm) (hCS : CS.length = 256 ∧ ∀ c, c < 256 → CS.getD c [] = [] ∨ (logC (qs.getD (listI one (c : Int)) []) ≠ 0 ∧ CS.getD c [] = cellsC (qs.getD (listI one (c : Int)) []))) (hla : la < 256) (ht : t < 2) (hX : pick2 t x0 x1 = X) (hXg : X < 2 ^ g) (hl : logC q ≠ 0) (hlg : logC q = g) (hq : CS.getD la [] = cellsC q) : LMid g one qs gx gc W1 la t X x0 x1 ov out q wm := by
  obtain ⟨B, cb, h1, _, h3⟩ := hD.cellc hla
  rw [hq] at h1 h3
  have hlen := cellsC_len hl
  rw [hlg] at hlen
  rw [hlen] at h1 h3
  obtain ⟨adm, rfl, h4⟩ := kc_at h3 X hXg
  rw [cellsC_get hl X (by rw [hlg]; exact hXg)] at h4
  exact ⟨CS, adm, cb, hD, hCS, h1, by rw [(hD.cellx ht).1, hX], h4⟩
theorem cs_set {one : Bool} {qs : List (List Int)} {CS : List (List K3)} {la : Nat} (hCS : CS.length = 256 ∧ ∀ c, c < 256 → CS.getD c [] = [] ∨ (logC (qs.getD (listI one (c : Int)) []) ≠ 0 ∧ CS.getD c [] = cellsC (qs.getD (listI one (c : Int)) []))) (hla : la < 256) (hl : logC (qs.getD (listI one (la : Int)) []) ≠ 0) :
    ((CS.set la (cellsC (qs.getD (listI one (la : Int)) []))).length = 256 ∧ ∀ c, c < 256 → (CS.set la (cellsC (qs.getD (listI one (la : Int)) []))).getD c [] = [] ∨ (logC (qs.getD (listI one (c : Int)) []) ≠ 0 ∧ (CS.set la (cellsC (qs.getD (listI one (la : Int)) []))).getD c [] = cellsC (qs.getD (listI one (c : Int)) []))) ∧ (CS.set la (cellsC (qs.getD (listI one (la : Int)) []))).getD la [] = cellsC (qs.getD (listI one (la : Int)) []) := by
  have h0 : (CS.set la (cellsC (qs.getD (listI one (la : Int)) []))).getD la [] = cellsC (qs.getD (listI one (la : Int)) []) := by
    rw [List.getD_eq_getElem?_getD, List.getElem?_set_self (by omega)]; rfl
  refine ⟨⟨by rw [List.length_set]; exact hCS.1, fun c hc => ?_⟩, h0⟩
  by_cases e : la = c
  · subst e; exact .inr ⟨hl, h0⟩
  · have h2 : (CS.set la (cellsC (qs.getD (listI one (la : Int)) []))).getD c [] = CS.getD c [] := by
      rw [List.getD_eq_getElem?_getD, List.getElem?_set_ne e, ← List.getD_eq_getElem?_getD]
    rw [h2]; exact hCS.2 c hc
set_option maxRecDepth 100000 in
set_option maxHeartbeats 4000000 in
theorem rDecode_any (lg : Int) (one : Bool) (A : Option Addr) (c : Nat) (qs : List (List Int)) (B : Option Addr) (cb : Nat) (ps : List Int) (n : Int) (w : World) (hr : kq.C w A qs.length qs) (hc : qs.length ≤ c) (hl : qs.length ≤ 1000000) (hb : (Kd.int .u8).C w B ps.length ps) (hcb : ps.length ≤ cb) (hps : ∀ x ∈ ps, 0 ≤ x ∧ x < 256) (hpl : ps.length ≤ 100000) (hn : n ≤ 100000 ∨ 131072 < n) :
    Calls Try.prog 18 #[.agg #[.int .i64 lg, .bool one, .slice A qs.length c], .slice B ps.length cb, .int .i64 n] w (ReadPost (decM lg one qs ps n) w) := by
  obtain ⟨W1, hW1⟩ : ∃ W1, W1 = w.alloc (.cells #[.int .i64 lg, .bool one, .slice A qs.length c] 24) := ⟨_, rfl⟩
  have HB := Lib.hid ((Below.refl w.heap.size w).alloc (Nat.le_refl _) (.cells #[.int .i64 lg, .bool one, .slice A qs.length c] 24))
  have hk1 : W1.heap[w.heap.size]? = some (.cells #[.int .i64 lg, .bool one, .slice A qs.length c] 24 (0, 0)) := by rw [hW1]; exact blk_new _ _
  have HR : Hid (kq.C W1 A qs.length qs) := Lib.hid (by rw [hW1]; exact Kd.C_alloc hr _)
  have HBB : Hid ((Kd.int .u8).C W1 B ps.length ps) := Lib.hid (by rw [hW1]; exact Kd.C_alloc hb _)
  rw [← hW1] at HB
  have HX := Lib.hid (And.intro hc (And.intro hl (And.intro hcb (And.intro hps (And.intro hpl hn)))))
  have HK := Lib.hid hk1
  have HS0 : Hid (w.heap.size ≤ W1.heap.size) := Lib.hid HB.out.size
  clear hr hc hl hb hcb hps hpl hn hk1
  have main : ∀ d0 d1 d2 : Bool, rightM lg one qs = d0 → decide (n < 0) = d1 → decide (131072 < n) = d2 →
      Calls Try.prog 18 #[.agg #[.int .i64 lg, .bool one, .slice A qs.length c], .slice B ps.length cb, .int .i64 n] w (ReadPost (decM lg one qs ps n) w) := by
    intro d0 d1 d2 e0 e1 e2
    have HE0 := Lib.hid e0
    have HE1 := Lib.hid e1
    have HE2 := Lib.hid e2
    have HRI := Lib.hid (rRight16_any A c W1 lg one qs HR.out HX.out.1 HX.out.2.1)
    rw [e0] at HRI
    obtain ⟨R, hR⟩ : ∃ R, R = decM lg one qs ps n := ⟨_, rfl⟩
    rw [← hR]
    have HRR := Lib.hid hR
    obtain ⟨⟨m0, m1, m2⟩, _⟩ := cell3 HK.out
    clear e0 hR
    go_enter Try.func18, Try.ntmps18
    go_wp2_with fail
    rw [← hW1]
    clear hW1
    refine HRI.out.mono ?_
    rintro e w2 ⟨rfl, hb2⟩
    have HB2 := Lib.hid (show Below W1.heap.size W1 w2 from hb2)
    clear hb2 m0 m1 m2 HRI
    by_cases hgo : d0 = true ∧ d1 = false ∧ d2 = false
    · obtain ⟨rfl, rfl, rfl⟩ := hgo
      have hrl := right_len HE0.out
      obtain ⟨g, rfl⟩ : ∃ g : Nat, lg = g := ⟨lg.toNat, by omega⟩
      have hg12 : g ≤ 12 := by omega
      have hg1 : 1 ≤ g := by omega
      have hn0 : 0 ≤ n := by have := of_decide_eq_false HE1.out; omega
      obtain ⟨N, rfl⟩ : ∃ N : Nat, n = N := ⟨n.toNat, by omega⟩
      have hN : N ≤ 100000 := by have := of_decide_eq_false HE2.out; have := HX.out.2.2.2.2.2; omega
      clear hrl hn0
      go_wp2_with fail
      refine (rOpen_any B cb ps w2 (Kd.C_below HBB.out HB2.out) HX.out.2.2.1 HX.out.2.2.2.1 (by have := HX.out.2.2.2.2.1; omega)).mono ?_
      rintro e w3 ⟨v3, rfl, hv3, hb3⟩
      have HB3 := Lib.hid (below_tr HB2.out hb3)
      obtain ⟨A3, c3, rfl⟩ := Kd.R_slice hv3
      have HV3 := Lib.hid (Kd.R_reads' hv3).2
      clear hb3 hv3
      by_cases hop : ps.length = 0 ∨ lastB ps = 0
      · have e3 : openR ps = ([], 2) := by unfold openR; rw [if_pos hop]
        have HF : Hid (R = (2, [])) := Lib.hid (by
          rw [HRR.out]; unfold decM
          rw [if_neg (by rw [HE0.out]; have := of_decide_eq_false HE1.out; have := of_decide_eq_false HE2.out; simp; omega), if_pos hop])
        rw [e3]
        clear e3 hop
        go_wp2_with fail
        go_ret2
        rw [HF.out]
        exact read_err 2 w _ (below_tr HB.out HB3.out)
      · have e3 : openR ps = (bitsL ps, 0) := by unfold openR; rw [if_neg hop]
        rw [e3] at HV3 ⊢
        have HBL := Lib.hid (bitsL_ok ps)
        obtain ⟨T, hT⟩ : ∃ T, T = bitsIn ps := ⟨_, rfl⟩
        have hTl : (bitsL ps).length = T := by rw [hT]; exact (bitsL_ok ps).len
        rw [← hT] at HBL
        have HV4 : Hid (T ≤ c3 ∧ Kd.bool.C w3 A3 T (bitsL ps)) := Lib.hid (by have h2 := HV3.out; simp only [hTl] at h2; exact h2)
        have hT8 : T ≤ 800000 := by have := bitsIn_le HX.out.2.2.2.1 hop; have := HX.out.2.2.2.2.1; omega
        have HF : Hid (R = if T < g + g then (3, []) else decGo one qs ps N 0 0 (takeV ps T g) (takeV ps (T - g) g) (T - g - g) []) := Lib.hid (by
          rw [HRR.out]; unfold decM
          rw [if_neg (by rw [HE0.out]; have := of_decide_eq_false HE1.out; have := of_decide_eq_false HE2.out; simp; omega), if_neg hop, ← hT]
          simp only [Int.toNat_natCast])
        simp only [hTl]
        obtain ⟨⟨m0, m1, m2⟩, _⟩ := cell3 (blk_below HK.out HB3.out)
        clear e3 hop HV3 hT hTl
        by_cases h1 : T < g
        · have HF2 : Hid (R = (3, [])) := Lib.hid (by rw [HF.out, if_pos (by omega)])
          have HT1 := Lib.hid (rTake_no A3 T c3 g w3 (by omega) h1)
          have HH1 := Lib.hid h1
          clear h1
          go_wp2_with fail
          refine HT1.out.mono ?_
          rintro e w4 ⟨rfl, hb4⟩
          have HB4 := Lib.hid (below_tr HB3.out hb4)
          have HT2 := Lib.hid (rTake_no A3 T c3 g w4 (by omega) HH1.out)
          clear hb4 m0 m1 m2
          obtain ⟨⟨m0, m1, m2⟩, _⟩ := cell3 (blk_below HK.out HB4.out)
          go_wp2_with fail
          refine HT2.out.mono ?_
          rintro e w5 ⟨rfl, hb5⟩
          have HB5 := Lib.hid (below_tr HB4.out hb5)
          clear hb5
          go_wp2_with fail
          go_ret2
          rw [HF2.out]
          exact read_err 3 w _ (below_tr HB.out HB5.out)
        · obtain ⟨hbt, hbv⟩ := bits_cut (n := g) HBL.out (by omega)
          obtain ⟨v1, hv1⟩ : ∃ v1, v1 = takeV ps T g := ⟨_, rfl⟩
          have hv1b : v1 < 2 ^ g := by rw [hv1]; exact takeV_lt _ _ _
          have hp12 : 2 ^ g ≤ 2 ^ 12 := Nat.pow_le_pow_right (by omega) hg12
          rw [← hv1] at hbv HF
          obtain ⟨T2, hT2⟩ : ∃ T2, T2 = T - g := ⟨_, rfl⟩
          have HT1 := rTake_yes A3 T c3 g (bitsL ps) w3 HBL.out.len.symm HV4.out.1 HV4.out.2 (by omega) (by omega) (by omega)
          rw [← hT2] at HT1 hbt hbv HF
          rw [hbv] at HT1
          have HTK := Lib.hid HT1
          have HT2E := Lib.hid hT2
          have HBT := Lib.hid hbt
          have hv1c : v1 < 4096 := by omega
          have HVB := Lib.hid hv1b
          have HNT := Lib.hid h1
          clear h1 hbt hbv hv1 hv1b hp12 HT1 hT2
          go_wp2_with fail
          refine HTK.out.mono ?_
          rintro e w4 ⟨rfl, hb4⟩
          have HB4 := Lib.hid (below_tr HB3.out hb4)
          have HC4 := Lib.hid (bools_take (Kd.C_below HV4.out.2 hb4) T2 (by have := HT2E.out; omega))
          clear hb4 m0 m1 m2
          obtain ⟨⟨m0, m1, m2⟩, _⟩ := cell3 (blk_below HK.out HB4.out)
          by_cases h2 : T2 < g
          · have HF2 : Hid (R = (3, [])) := Lib.hid (by rw [HF.out, if_pos (by have := HT2E.out; have := HNT.out; omega)])
            have HT2 := Lib.hid (rTake_no A3 T2 c3 g w4 (by omega) h2)
            clear h2
            go_wp2_with fail
            refine HT2.out.mono ?_
            rintro e w5 ⟨rfl, hb5⟩
            have HB5 := Lib.hid (below_tr HB4.out hb5)
            clear hb5
            go_wp2_with fail
            go_ret2
            rw [HF2.out]
            exact read_err 3 w _ (below_tr HB.out HB5.out)
          · obtain ⟨hbt, hbv⟩ := bits_cut (n := g) HBT.out (by omega)
            obtain ⟨v2, hv2⟩ : ∃ v2, v2 = takeV ps T2 g := ⟨_, rfl⟩
            have hv2b : v2 < 2 ^ g := by rw [hv2]; exact takeV_lt _ _ _
            have hp12 : 2 ^ g ≤ 2 ^ 12 := Nat.pow_le_pow_right (by omega) hg12
            have HF2 : Hid (R = decGo one qs ps N 0 0 v1 v2 (T2 - g) []) := Lib.hid (by rw [HF.out, if_neg (by have := HT2E.out; omega), hv2])
            rw [← hv2] at hbv
            obtain ⟨T3, hT3⟩ : ∃ T3, T3 = T2 - g := ⟨_, rfl⟩
            obtain ⟨bs3, hbs3⟩ : ∃ bs, bs = ((bitsL ps).take T2).take (T2 - g) := ⟨_, rfl⟩
            have HT1 := rTake_yes A3 T2 c3 g ((bitsL ps).take T2) w4 HBT.out.len.symm (by have := HV4.out.1; have := HT2E.out; omega) HC4.out (by omega) (by omega) (by have := HT2E.out; omega)
            rw [← hT3] at HT1 hbt hbv HF2
            rw [hbv] at HT1
            have HTK2 := Lib.hid HT1
            have HT3E := Lib.hid hT3
            have hv2c : v2 < 4096 := by omega
            have HVB2 := Lib.hid (And.intro HVB.out hv2b)
            have HBT3 := Lib.hid hbt
            clear h2 hbt hbv hv2 hv2b hp12 HT1 hT3 hbs3 bs3 HF
            go_wp2_with fail
            refine HTK2.out.mono ?_
            rintro e w5 ⟨rfl, hb5⟩
            have HB5 := Lib.hid (below_tr HB4.out hb5)
            have HC5 := Lib.hid (bools_take (Kd.C_below HC4.out hb5) T3 (by have := HT3E.out; omega))
            have HCL : Hid (T3 ≤ c3 ∧ T3 ≤ 800000) := Lib.hid (by have := HV4.out.1; have := HT2E.out; have := HT3E.out; omega)
            clear hb5 m0 m1 m2
            obtain ⟨W6, hW6⟩ : ∃ W6, W6 = (w5.alloc (.cells #[.int .i64 v1, .int .i64 v2] 3)).alloc (.cells (madeCells #[.slice none 0 0] 256) 73) := ⟨_, rfl⟩
            have hmk : ∀ w : World, (Instr.makeSlice 72 (.int .i64 256) (.int .i64 256)).run Try.prog w = .ok (.slice (some ⟨w.heap.size, 0, none⟩) 256 256) (w.alloc (.cells (madeCells #[.slice none 0 0] 256) 73)) := fun w => made_cellrows 256 (by omega) w
            go_wp2_with fail
            rw [← hW6]
            obtain ⟨gx, hgx⟩ : ∃ gx, gx = w5.heap.size := ⟨_, rfl⟩
            have hD : DR gx (gx + 1) w5 v1 v2 (.slice none 0 0) [] (List.replicate 256 []) W6 := by
              have hz : (w5.alloc (.cells #[.int .i64 v1, .int .i64 v2] 3)).heap.size = gx + 1 := by rw [hgx]; simp
              refine ⟨?_, ?_, Kd.R_nil _ _ _ _ _, ⟨by omega, by simp [Value.ownBlock], by simp [Value.ownBlock]⟩, ?_⟩
              · rw [hW6, hgx]
                exact Kd.R_alloc (row_lit .i64 3 w5 w5.heap.size (fun k => k = w5.heap.size) rfl (Nat.le_refl _) [(v1 : Int), (v2 : Int)] (by simp)) _
              · have := kcs_madeN 256 (by omega) (w5.alloc (.cells #[.int .i64 v1, .int .i64 v2] 3)) (fun k => k ≠ gx ∧ some k ≠ (Value.slice none 0 0).ownBlock) w5.heap.size (by rw [hz]; exact ⟨by omega, by simp [Value.ownBlock]⟩) (by rw [hz]; omega)
                rw [hz] at this
                rw [hW6]; exact this
              · rw [hW6]; exact below_al (below_al (Below.refl _ _) _) _
            obtain ⟨B3, hB3⟩ : ∃ B3, B3 = ((bitsL ps).take T2).take T3 := ⟨_, rfl⟩
            rw [← hB3] at HBT3 HC5
            have hB3l : B3.length = T3 := HBT3.out.len
            have H0 : Hid (LRel g one qs ps N gx (gx + 1) w5 B3 R 0 0 T3 (.slice none 0 0) W6) := Lib.hid ⟨v1, v2, [], List.replicate 256 [], hD, ⟨by rw [List.take_of_length_le (by omega)]; exact HBT3.out, by omega⟩, ⟨by simp, fun c _ => .inl (by rw [List.getD_eq_getElem?_getD, List.getElem?_replicate]; split <;> rfl)⟩, HF2.out.symm, ⟨nat_lt_pow HVB2.out.1, nat_lt_pow HVB2.out.2⟩, rfl⟩
            have HC3 : Hid (B3.length = T3 ∧ Kd.bool.C w5 A3 T3 B3 ∧ T3 ≤ c3) := Lib.hid ⟨hB3l, HC5.out, HCL.out.1⟩
            have hT3b : T3 ≤ 800000 := HCL.out.2
            rw [← hgx]
            clear hD hW6 hgx hmk hB3 hB3l
            go_loopw [9, 17, 18, 19] (fun lv mv ov kv wr => ∃ (i la left : Nat), kv = .int .i64 i ∧ mv = .int .i64 la ∧ lv = .slice A3 left c3 ∧ i ≤ N ∧ la < 256 ∧ left ≤ 800000 ∧ Hid (LRel g one qs ps N gx (gx + 1) w5 B3 R i la left ov wr)) (fun _ _ _ kv _ => N - (intOf kv).toNat)
            case atStart => exact ⟨0, 0, T3, rfl, rfl, rfl, by omega, by omega, by omega, H0⟩
            case round =>
              clear H0
              obtain ⟨i, la, left, rfl, rfl, rfl, hi, hla, hleft, H⟩ := hrel
              obtain ⟨x0, x1, out, CS, hD, hbits, hCS, hgo, hrng, hol⟩ := H.out.ex
              have HD := Lib.hid hD
              have HBW := Lib.hid (below_tr HB5.out hD.below)
              have HBits := Lib.hid hbits
              have HCS := Lib.hid hCS
              have HGO := Lib.hid hgo
              have HRNG := Lib.hid hrng
              have HOL := Lib.hid hol
              clear hD hbits hCS hgo hrng hol H
              by_cases hlt : i < N
              · obtain ⟨q, hq⟩ : ∃ q, q = qs.getD (listI one (la : Int)) [] := ⟨_, rfl⟩
                obtain ⟨t, ht⟩ : ∃ t, t = i % 2 := ⟨_, rfl⟩
                have ht2 : t < 2 := by omega
                have hXr : 0 ≤ pick2 t x0 x1 ∧ pick2 t x0 x1 < 2 ^ g := by unfold pick2; split; exact HRNG.out.1; exact HRNG.out.2
                obtain ⟨X, hX⟩ : ∃ X : Nat, pick2 t x0 x1 = X := ⟨(pick2 t x0 x1).toNat, by omega⟩
                have hXg : X < 2 ^ g := by rw [hX] at hXr; have e : (2 : Int) ^ g = ((2 ^ g : Nat) : Int) := by simp
                                           rw [e] at hXr; omega
                have hmodI : (i : Int) % 2 = (t : Int) := by omega
                have hmodT : (i : Int).tmod 2 = (t : Int) := by rw [Int.tmod_eq_emod_of_nonneg (by omega)]; exact hmodI
                have HT := Lib.hid (And.intro ht hX)
                have HQ := Lib.hid hq
                have hXI : (X : Int) < ((2 ^ g : Nat) : Int) := by omega
                have hlaI : (la : Int) < 256 := by omega
                have htI : (t : Int) < 2 := by omega
                have hrc := right_cells HE0.out (listI one (la : Int))
                rw [← hq] at hrc
                have HRC := Lib.hid hrc
                obtain ⟨Bc, cb2, hcell, hfr, hkc⟩ := HD.out.cellc hla
                obtain ⟨CL, hCL⟩ : ∃ CL, CL = CS.getD la [] := ⟨_, rfl⟩
                rw [← hCL] at hcell hkc
                obtain ⟨L, hL⟩ : ∃ L, L = CL.length := ⟨_, rfl⟩
                rw [← hL] at hcell hkc
                have HCL := Lib.hid (And.intro hCL hL)
                have HXG := Lib.hid hXg
                have HLT := Lib.hid hlt
                clear hCL hL hkc hrc hX hXr ht hq hXg
                rcases Nat.eq_zero_or_pos L with hL0 | hL0
                rotate_left
                focus
                  have d3 : ((L : Int) == 0) = false := by rw [beq_eq_false_iff_ne]; omega
                  have hcq : logC q ≠ 0 ∧ CS.getD la [] = cellsC q := by
                    rcases HCS.out.2 la hla with h | h
                    · have := HCL.out; rw [h] at this; rw [this.1] at this; have h2 := this.2; simp at h2; omega
                    · rw [← HQ.out] at h; exact h
                  have hlg : logC q = g := by
                    rcases HRC.out with h | h
                    · unfold cellsOf at h; rw [if_neg hcq.1, cellsC_len hcq.1] at h; have := Nat.two_pow_pos (logC q); omega
                    · omega
                  have hM := lmid_of HD.out HCS.out hla ht2 HT.out.2 HXG.out hcq.1 hlg hcq.2
                  have HM := Lib.hid hM
                  have HLG := Lib.hid (And.intro hcq.1 hlg)
                  clear hcq hlg hM hL0
                  go_wp2_with fail
                  obtain ⟨wm, hwm⟩ : ∃ wm, wm = wr := ⟨_, rfl⟩
                  rw [← hwm] at HM ⊢
                  clear hwm hcell hfr d3
                rotate_left
                focus
                  have d3 : ((L : Int) == 0) = true := by rw [hL0]; rfl
                  obtain ⟨⟨m0, m1, m2⟩, _⟩ := cell3 (blk_below HK.out HBW.out)
                  clear hL0
                  go_wp2_with fail
                  have hAt := rMAt_any g one A c qs la wr (Kd.C_below HR.out HBW.out) HE0.out (right_one HE0.out) hla
                  rw [← HQ.out] at hAt
                  refine hAt.mono ?_
                  clear hAt
                  rintro e w6 ⟨Bq, cq, rfl, hcq, hqC, hb6⟩
                  have HB6 := Lib.hid hb6
                  have HOf := Lib.hid (rOf11_any Bq cq q w6 hqC hcq)
                  have hc6 := pw_cell_below hb6 hcell
                  clear hcq hqC hb6 m0 m1 m2
                  go_wp2_with fail
                  refine HOf.out.mono ?_
                  rintro e w7 ⟨v7, rfl, hv7, hb7⟩
                  have HV7 := Lib.hid hv7
                  have HB7 := Lib.hid (below_tr HB6.out hb7)
                  have hsz67 := HB6.out.size
                  clear hv7 hb7
                  by_cases hlq : logC q = 0
                  · have HF3 : Hid (R = (13, [])) := Lib.hid (by
                      have h1 := HGO.out
                      rw [show N - i = (N - i - 1) + 1 by have := HLT.out; omega, decGo_none (by rw [← HQ.out]; unfold cellsOf; rw [if_pos hlq]; rfl)] at h1
                      exact h1.symm)
                    rw [if_pos hlq]
                    clear hlq
                    go_wp2_with fail
                    go_ret2
                    rw [HF3.out]
                    exact read_err 13 w _ (below_tr HB.out (below_tr HBW.out HB7.out))
                  focus
                    rw [if_neg hlq]
                    have HLQ := Lib.hid hlq
                    have hD7 := HD.out.later HB7.out
                    obtain ⟨Bd, cb3, hcell7, hfr7, _⟩ := hD7.cellc hla
                    have hrcx := HRC.out
                    have hcs := cs_set HCS.out hla (by rw [← HQ.out]; exact hlq)
                    rw [← HQ.out] at hcs
                    have hlg : logC q = g := by
                      rcases HRC.out with h | h
                      · unfold cellsOf at h; rw [if_neg hlq, cellsC_len hlq] at h; have := Nat.two_pow_pos (logC q); omega
                      · omega
                    have hv8 : kc.R 77 w7 wr.heap.size (fun _ => True) v7 (cellsC q) := Kd.R_lower (HV7.out hlq) HB6.out.size
                    have hM := lmid_of (HD.out.setc HB7.out hla hv8) hcs.1 hla ht2 HT.out.2 HXG.out hlq hlg hcs.2
                    have HM := Lib.hid hM
                    have HLG := Lib.hid (And.intro hlq hlg)
                    obtain ⟨A7, c7, rfl⟩ := Kd.R_slice hv8
                    obtain ⟨n7, hn7⟩ : ∃ n7, n7 = (cellsC q).length := ⟨_, rfl⟩
                    rw [← hn7] at HM ⊢
                    clear hlq hD7 hrcx hcs hlg hv8 hM hcell hfr hc6 HV7 hn7
                    go_wp2_with fail
                    obtain ⟨wm, hwm⟩ : ∃ wm, wm = w7.setCell ⟨gx + 1, la, none⟩ (.slice A7 n7 c7) := ⟨_, rfl⟩
                    rw [← hwm] at HM ⊢
                    clear hwm hcell7 hfr7 HB6 HOf HB7 hsz67 d3
                all_goals
                  obtain ⟨CSm, adm, cm, hDm, hCSm, f0, f1, f2, f3, f4⟩ := HM.out.ex
                  have hok := cellAt_ok HLG.out.1 X (by rw [HLG.out.2]; exact HXG.out)
                  rw [HLG.out.2] at hok
                  obtain ⟨sN, hsN⟩ : ∃ k : Nat, (cellAt q X).1 = k := ⟨(cellAt q X).1.toNat, by omega⟩
                  obtain ⟨bN, hbN, hb12, hbe⟩ := hok.2.2.1
                  obtain ⟨eN, heN⟩ : ∃ k : Nat, (cellAt q X).2.2 = k := ⟨(cellAt q X).2.2.toNat, by omega⟩
                  have hs256 : sN < 256 := by omega
                  rw [hsN] at f2
                  rw [hbN] at f3
                  rw [heN] at f4 hbe
                  have HDm := Lib.hid hDm
                  have HCSm := Lib.hid hCSm
                  have HCE := Lib.hid (show cellAt q X = ((sN : Int), (bN : Int), (eN : Int)) by rw [← hsN, ← hbN, ← heN])
                  have HBE := Lib.hid hbe
                  have he16 : eN ≤ 100000 := by have := hok.2.2.2.2; rw [heN] at this; omega
                  clear hok hsN hbN heN hbe hDm hCSm HM
                  have HKP := Lib.hid (show ∀ w' : World, Below wm.heap.size wm w' → (Below wm.heap.size wm w' ∧ w'.cell? ⟨gx + 1, la, none⟩ = some (.slice (some adm) (2 ^ g) cm) ∧ w'.cell? ⟨gx, t, none⟩ = some (.int .i64 X) ∧ w'.cell? (adm.add (X * 3)) = some (.int .u8 sN) ∧ w'.cell? ⟨(adm.add (X * 3)).block, (adm.add (X * 3)).off + 1, none⟩ = some (.int .i64 bN) ∧ w'.cell? ⟨(adm.add (X * 3)).block, (adm.add (X * 3)).off + 2, none⟩ = some (.int .i64 eN)) from fun w' h => ⟨h, pw_cell_below h f0, pw_cell_below h f1, pw_cell_below h f2, pw_cell_below h f3, pw_cell_below h f4⟩)
                  obtain ⟨G2, hG2⟩ : ∃ G2, G2 = 2 ^ g := ⟨_, rfl⟩
                  rw [← hG2] at f0 HKP hXI
                  have HG2 := Lib.hid hG2
                  clear hG2
                  go_cut [22] (fun s22 wx => CellM sN bN eN wm s22 wx)
                  case first =>
                    go_region_held3 (fun w' => Below wm.heap.size wm w' ∧ w'.cell? ⟨gx + 1, la, none⟩ = some (.slice (some adm) G2 cm) ∧ w'.cell? ⟨gx, t, none⟩ = some (.int .i64 X) ∧ w'.cell? (adm.add (X * 3)) = some (.int .u8 sN) ∧ w'.cell? ⟨(adm.add (X * 3)).block, (adm.add (X * 3)).off + 1, none⟩ = some (.int .i64 bN) ∧ w'.cell? ⟨(adm.add (X * 3)).block, (adm.add (X * 3)).off + 2, none⟩ = some (.int .i64 eN))
                      ((refine HKP.out _ ?_; (repeat' (first | assumption | exact Below.refl _ _ | refine below_al ?_ _ | refine below_dr ?_ | refine below_st ?_ ?_ _)) <;> first | omega | (simp; done) | (simp; omega)))
                      (fail)
                    all_goals
                      go_wp2_with fail
                      go_meet
                      refine' cellM_mk _ ?_ ?_ ?_
                      · repeat' (with_reducible (first | exact blk_new _ _ | exact blk_new1 _ _ _ | refine blk_dr ?_ | refine blk_alloc ?_ _))
                      · repeat' (first | assumption | exact Below.refl _ _ | refine below_al ?_ _ | refine below_dr ?_)
                      all_goals first | omega | exact Nat.le_refl _ | (simp; done)
                  case rest =>
                    obtain ⟨mb, rfl, hmb, hblk, hbl⟩ := hcut
                    have HMB := Lib.hid (And.intro hmb hblk)
                    have HDc := Lib.hid (HDm.out.later hbl)
                    have hDm0 := HDm.out
                    obtain ⟨⟨c0, c1, c2⟩, _⟩ := cell3 hblk
                    have hne1 : mb ≠ gx := by have := hDm0.ge.1.2; omega
                    have HST := Lib.hid (show (cellsOf (qs.getD (listI one (la : Int)) [])).length ≠ 0 ∧ (cellsOf (qs.getD (listI one (la : Int)) [])).getD X z3 = ((sN : Int), (bN : Int), (eN : Int)) from by
                      rw [← HQ.out]
                      have e : cellsOf q = cellsC q := by unfold cellsOf; rw [if_neg HLG.out.1]
                      rw [e, cellsC_len HLG.out.1, cellsC_get HLG.out.1 X (by rw [HLG.out.2]; exact HXG.out), HCE.out]
                      exact ⟨by have := Nat.two_pow_pos (logC q); omega, rfl⟩)
                    have HCt := Lib.hid (bools_take (Kd.C_below HC3.out.2.1 HDc.out.below) left (by have := HBits.out.2; have := HC3.out.1; omega))
                    have HLL := Lib.hid (show left ≤ c3 from by have := HBits.out.2; have := HC3.out.1; have := HC3.out.2.2; omega)
                    clear hmb hblk hbl f0 f1 f2 f3 f4 hDm0
                    by_cases hbl : bN ≤ left
                    · obtain ⟨hbt, hbv⟩ := bits_cut HBits.out.1 hbl
                      obtain ⟨v, hv⟩ : ∃ v, v = takeV ps left bN := ⟨_, rfl⟩
                      have hvb : v < 2 ^ bN := by rw [hv]; exact takeV_lt _ _ _
                      have hp12 : 2 ^ bN ≤ 2 ^ 12 := Nat.pow_le_pow_right (by omega) hb12
                      rw [← hv] at hbv
                      obtain ⟨l2, hl2⟩ : ∃ l2, l2 = left - bN := ⟨_, rfl⟩
                      have HT1 := rTake_yes A3 left c3 bN (B3.take left) wc HBits.out.1.len.symm HLL.out HCt.out (by omega) hbl (by omega)
                      rw [← hl2] at HT1 hbt hbv
                      rw [hbv] at HT1
                      have HTK3 := Lib.hid HT1
                      have hv4 : v < 4096 := by omega
                      have hbt2 : BitsP ps l2 (B3.take l2) := by
                        have e : (B3.take left).take l2 = B3.take l2 := by rw [List.take_take, Nat.min_eq_left (by omega)]
                        rw [← e]; exact hbt
                      have HN3 := Lib.hid (And.intro hbt2 (And.intro hv (And.intro hvb (And.intro hl2 hbl))))
                      clear hbt hbv hv hvb hp12 hl2 hbt2 HT1 hbl
                      go_wp2_with fail
                      refine HTK3.out.mono ?_
                      rintro e wt ⟨rfl, hbt⟩
                      have HDt := Lib.hid (HDc.out.later hbt)
                      have c0t := pw_cell_below hbt c0
                      have c1t := pw_cell_below hbt c1
                      have c2t := pw_cell_below hbt c2
                      have HMBt := Lib.hid (blk_below HMB.out.2 hbt)
                      obtain ⟨x0t, x0f⟩ := HDt.out.cellx ht2
                      have HDs := Lib.hid (HDt.out.setx ht2 ((eN : Int) + (v : Int)))
                      have HSL := Lib.hid (show (out.length + 1) * 1 ≤ 140737488355328 by have := HOL.out; omega)
                      have HMs := Lib.hid (blk_far HMBt.out (p := ⟨gx, t, none⟩) hne1 (.int .i64 ((eN : Int) + (v : Int))))
                      have HNO := Lib.hid (show some mb ≠ Value.ownBlock u18 from fun e => by
                        obtain ⟨_, inner, ho, _⟩ := HDm.out.out
                        have := own_lt ho mb e.symm
                        have := HMB.out.1; omega)
                      have HFIN := Lib.hid (show ∀ (v2 : Value) (w2 : World), DR gx (gx + 1) w5 (set2 t x0 x1 ((eN : Int) + (v : Int))).1 (set2 t x0 x1 ((eN : Int) + (v : Int))).2 v2 (out ++ [(sN : Int)]) CSm w2 → LRel g one qs ps N gx (gx + 1) w5 B3 R (i + 1) sN l2 v2 w2 from fun v2 w2 h => by
                        refine ⟨_, _, _, CSm, h, ⟨HN3.out.1, by have := HBits.out.2; have := HN3.out.2.2.2.1; omega⟩, HCSm.out, ?_, ?_, by rw [List.length_append, List.length_singleton, HOL.out]⟩
                        · have h1 := HGO.out
                          rw [show N - i = (N - (i + 1)) + 1 by have := HLT.out; omega, decGo_yes HST.out.1 (by rw [← HT.out.1]; exact HT.out.2) HST.out.2 HN3.out.2.2.2.2, ← HT.out.1, ← HN3.out.2.1, ← HN3.out.2.2.2.1] at h1
                          exact h1
                        · refine set2_range HRNG.out.1 HRNG.out.2 ?_
                          have h1 := HBE.out
                          have h2 := HN3.out.2.2.1
                          have e1 : (2 : Int) ^ bN = ((2 ^ bN : Nat) : Int) := by simp
                          rw [e1] at h1
                          omega)
                      clear hbt c0 c1 c2
                      go_wp2_with (at_builtin; refine app_int .u8 (w0 := w5) (W := wt.setCell ⟨gx, t, none⟩ (.int .i64 ((eN : Int) + (v : Int)))) rfl (.tmp 129) (.tmp 132) 25 5 1 rfl Try.underlying25 infoU8 (by decide) u18 _ (sN : Int) rfl (by simp [go_sem]) HDs.out.out HDs.out.below HSL.out ?_; intro v2 wa hr2 hb2 hg2 hat2; have hmb2 := blk_grown HMs.out hg2 HNO.out; have HRL := Lib.hid (HFIN.out v2 wa (HDs.out.app hr2 hb2 hg2 hat2)); obtain ⟨⟨g0, g1, g2⟩, _⟩ := cell3 hmb2; clear hmb2 hr2 hb2 hg2 hat2)
                      go_roundw
                      case rel => exact ⟨i + 1, sN, l2, by go_num, rfl, rfl, by omega, hs256, by have := HN3.out.2.2.2.1; omega, HRL⟩
                      case measure => first | (simp [intOf]; done) | (simp [intOf]; omega)
                    · have HF3 : Hid (R = (3, [])) := Lib.hid (by
                        have h1 := HGO.out
                        rw [show N - i = (N - i - 1) + 1 by have := HLT.out; omega, decGo_short HST.out.1 (by rw [← HT.out.1]; exact HT.out.2) HST.out.2 hbl] at h1
                        exact h1.symm)
                      have HT1 := Lib.hid (rTake_no A3 left c3 bN wc (by omega) (by omega))
                      clear hbl
                      go_wp2_with fail
                      refine HT1.out.mono ?_
                      rintro e wt ⟨rfl, hbt⟩
                      have HBt := Lib.hid (below_tr (below_tr HB5.out HDc.out.below) hbt)
                      clear hbt
                      go_wp2_with fail
                      go_ret2
                      rw [HF3.out]
                      exact read_err 3 w _ (below_tr HB.out HBt.out)
              · obtain rfl : i = N := by omega
                obtain ⟨q0, _⟩ := HD.out.cellx (t := 0) (by omega)
                obtain ⟨q1, _⟩ := HD.out.cellx (t := 1) (by omega)
                have p0 : wr.cell? ⟨gx, 0, none⟩ = some (.int .i64 x0) := q0
                have p1 : wr.cell? ⟨gx, 1, none⟩ = some (.int .i64 x1) := q1
                have HFR : Hid (R = if x0 = 0 ∧ x1 = 0 ∧ left = 0 then (0, out) else (14, [])) := Lib.hid (by
                  have h1 := HGO.out
                  rw [Nat.sub_self] at h1
                  simp only [decGo] at h1
                  exact h1.symm)
                clear q0 q1 hlt hi
                have fin : ∀ a b c : Bool, (x0 != 0) = a → (x1 != 0) = b → decide (0 < left) = c → decide ((0 : Int) < (left : Int)) = c → (a = false ∧ b = false ∧ c = false → R = (0, out)) ∧ (¬ (a = false ∧ b = false ∧ c = false) → R = (14, [])) := by
                  intro a b c ha hb hc _
                  rw [HFR.out]
                  constructor
                  · rintro ⟨rfl, rfl, rfl⟩
                    rw [bne_eq_false_iff_eq] at ha hb
                    have := of_decide_eq_false hc
                    rw [if_pos ⟨ha, hb, by omega⟩]
                  · intro h
                    rw [if_neg (fun h2 => h ?_)]
                    obtain ⟨h3, h4, h5⟩ := h2
                    subst h3 h4 h5
                    exact ⟨ha.symm, hb.symm, hc.symm⟩
                obtain ⟨a, ha⟩ : ∃ a, (x0 != 0) = a := ⟨_, rfl⟩
                obtain ⟨b, hb⟩ : ∃ a, (x1 != 0) = a := ⟨_, rfl⟩
                obtain ⟨d, hd⟩ : ∃ a, decide (0 < left) = a := ⟨_, rfl⟩
                have hd2 : decide ((0 : Int) < (left : Int)) = d := by rw [← hd, decide_eq_decide]; omega
                have HFN := Lib.hid (fin a b d ha hb hd hd2)
                clear fin
                cases a <;> cases b <;> cases d
                · have HE := Lib.hid (HFN.out.1 ⟨rfl, rfl, rfl⟩)
                  clear HFN
                  go_wp2_with fail
                  go_ret2
                  rw [HE.out]
                  exact ⟨⟨u18, rfl, Kd.R_mono (Kd.R_lower HD.out.out (Nat.le_trans HS0.out HB5.out.size)) (fun _ _ => trivial)⟩, below_tr HB.out HBW.out⟩
                all_goals
                  have HE := Lib.hid (HFN.out.2 (by decide))
                  clear HFN
                  go_wp2_with fail
                  go_ret2
                  rw [HE.out]
                  exact read_err 14 w _ (below_tr HB.out HBW.out)
    · have HG := Lib.hid hgo
      have HF : Hid (R = (1, [])) := Lib.hid (by
        rw [HRR.out]; unfold decM
        rw [if_pos]
        have h0 := HE0.out
        have h1 := HE1.out
        have h2 := HE2.out
        by_cases g1 : n < 0
        · exact .inl g1
        · by_cases g2 : 131072 < n
          · exact .inr (.inl g2)
          · refine .inr (.inr ?_)
            rw [decide_eq_false g1] at h1
            rw [decide_eq_false g2] at h2
            cases d0
            · exact h0
            · exact absurd ⟨rfl, h1.symm, h2.symm⟩ HG.out)
      clear hgo
      cases d0 <;> cases d1 <;> cases d2 <;> first
        | (exact absurd ⟨rfl, rfl, rfl⟩ HG.out)
        | (clear HG
           go_wp2_with fail
           go_ret2
           rw [HF.out]
           exact read_err 1 w _ (below_tr HB.out HB2.out))
  exact main _ _ _ rfl rfl rfl
end Go.Proofs.Ytfnobinenolhhaa
namespace Go.Proofs.Ytfnobinenolhhaa
open Go.RowKit Go.IntWalk Go.Proofs.YtfnobinenolhhaaW.PrintWords
theorem decGo_bytes {one : Bool} {qs : List (List Int)} {ps : List Int} {lg : Int} (h : rightM lg one qs = true) : ∀ (n i : Nat) (la x0 x1 : Int) (left : Nat) (out : List Int), (0 ≤ x0 ∧ x0 < 2 ^ lg.toNat) → (0 ≤ x1 ∧ x1 < 2 ^ lg.toNat) → Bytes out → Bytes (decGo one qs ps n i la x0 x1 left out).2 := by
  intro n
  induction n with
  | zero =>
    intro i la x0 x1 left out _ _ ho
    simp only [decGo]
    split
    · exact ho
    · intro x hx; cases hx
  | succ n ih =>
    intro i la x0 x1 left out h0 h1 ho
    rcases right_cells h (listI one la) with hc | hc
    · rw [decGo_none hc]; intro x hx; cases hx
    · have hX : 0 ≤ pick2 (i % 2) x0 x1 ∧ pick2 (i % 2) x0 x1 < 2 ^ lg.toNat := by unfold pick2; split; exact h0; exact h1
      obtain ⟨X, hXe⟩ : ∃ X : Nat, pick2 (i % 2) x0 x1 = X := ⟨(pick2 (i % 2) x0 x1).toNat, by omega⟩
      have hlq : lg.toNat = logC (qs.getD (listI one la) []) := by omega
      rw [hXe, hlq] at hX
      have e2 : (2 : Int) ^ logC (qs.getD (listI one la) []) = ((2 ^ logC (qs.getD (listI one la) []) : Nat) : Int) := by simp
      have hXl : X < 2 ^ logC (qs.getD (listI one la) []) := by rw [e2] at hX; omega
      have hok := cellAt_ok hc.1 X hXl
      obtain ⟨b, hb, hb12, hbe⟩ := hok.2.2.1
      have hce : (cellsOf (qs.getD (listI one la) [])).getD X z3 = ((cellAt (qs.getD (listI one la) []) X).1, (b : Int), (cellAt (qs.getD (listI one la) []) X).2.2) := by
        rw [hc.2.2.1, cellsC_get hc.1 X hXl, ← hb]
      have hne : (cellsOf (qs.getD (listI one la) [])).length ≠ 0 := by rw [hc.2.2.2]; have := Nat.two_pow_pos lg.toNat; omega
      by_cases hbl : b ≤ left
      · rw [decGo_yes hne hXe hce hbl]
        have hrg : (0 ≤ (cellAt (qs.getD (listI one la) []) X).2.2 + (takeV ps left b : Int)) ∧ (cellAt (qs.getD (listI one la) []) X).2.2 + (takeV ps left b : Int) < 2 ^ lg.toNat := by
          have h3 := takeV_lt ps left b
          have e1 : (2 : Int) ^ b = ((2 ^ b : Nat) : Int) := by simp
          rw [e1] at hbe
          rw [hlq, e2]
          rw [e2] at hbe
          have := hok.2.2.2.1
          omega
        obtain ⟨k0, k1⟩ := set2_range (t := i % 2) h0 h1 hrg
        refine ih (i + 1) _ _ _ _ _ k0 k1 (fun x hx => ?_)
        rcases List.mem_append.1 hx with hx | hx
        · exact ho x hx
        · rw [List.mem_singleton.1 hx]; exact ⟨hok.1, hok.2.1⟩
      · rw [decGo_short hne hXe hce hbl]; intro x hx; cases hx
theorem decM_bytes (lg : Int) (one : Bool) (qs : List (List Int)) (ps : List Int) (n : Int) : Bytes (decM lg one qs ps n).2 := by
  unfold decM
  split
  · intro x hx; cases hx
  · rename_i h
    split
    · intro x hx; cases hx
    · split
      · intro x hx; cases hx
      · have hr : rightM lg one qs = true := by
          cases hh : rightM lg one qs with
          | true => rfl
          | false => exact absurd (.inr (.inr hh)) h
        refine decGo_bytes hr _ _ _ _ _ _ _ (nat_lt_pow (takeV_lt _ _ _)) (nat_lt_pow (takeV_lt _ _ _)) (fun x hx => by cases hx)
set_option maxRecDepth 100000 in
set_option maxHeartbeats 2000000 in
theorem lanesDecode_any (lg : Int) (one : Bool) (Am : Option Addr) (cm : Nat) (qs : List (List Int)) (A : Option Addr) (ca : Nat) (p : List Int) (n : Int) (w : World) (hm : kq.C w Am qs.length qs) (hcm : qs.length ≤ cm) (hlm : qs.length ≤ maxLen) (hr : (Kd.int .u8).C w A p.length p) (hc : p.length ≤ ca) (hby : Bytes p) :
    Calls Try.prog 4 #[.agg #[.int .i64 lg, .bool one, .slice Am qs.length cm], .slice A p.length ca, .int .i64 n] w (Ret (.bool true) w) := by
  obtain ⟨W1, hW1⟩ : ∃ W1, W1 = w.alloc (.cells #[.int .i64 lg, .bool one, .slice Am qs.length cm] 24) := ⟨_, rfl⟩
  have HB := Lib.hid ((Below.refl w.heap.size w).alloc (Nat.le_refl _) (.cells #[.int .i64 lg, .bool one, .slice Am qs.length cm] 24))
  have hk1 : W1.heap[w.heap.size]? = some (.cells #[.int .i64 lg, .bool one, .slice Am qs.length cm] 24 (0, 0)) := by rw [hW1]; exact blk_new _ _
  have HRm : Hid (kq.C W1 Am qs.length qs) := Lib.hid (by rw [hW1]; exact Kd.C_alloc hm _)
  have HR : Hid ((Kd.int .u8).C W1 A p.length p) := Lib.hid (by rw [hW1]; exact Kd.C_alloc hr _)
  rw [← hW1] at HB
  have HX := Lib.hid (And.intro hcm (And.intro hlm (And.intro hc hby)))
  have HK := Lib.hid hk1
  clear hm hcm hlm hr hc hby hk1
  have main : ∀ d0 d1 d2 d3 d4 : Bool, fewM qs = d0 → decide (100 < (p.length : Int)) = d1 → decide (9 < lg) = d2 → decide (60 < n) = d3 → decide (n ≤ 131072) = d4 →
      Calls Try.prog 4 #[.agg #[.int .i64 lg, .bool one, .slice Am qs.length cm], .slice A p.length ca, .int .i64 n] w (Ret (.bool true) w) := by
    intro d0 d1 d2 d3 d4 e0 e1 e2 e3 e4
    have HE0 := Lib.hid e0
    have HE1 := Lib.hid e1
    have HE3 := Lib.hid e3
    have HE4 := Lib.hid e4
    have HFW := Lib.hid (fun W (h : kq.C W Am qs.length qs) => rFew_any Am cm W lg one qs h HX.out.1 HX.out.2.1)
    rw [e0] at HFW
    clear e0
    go_enter Try.func4, Try.ntmps4
    go_wp2_with fail
    rw [← hW1]
    clear hW1
    refine (awake_any W1).mono ?_
    rintro e w1 ⟨rfl, hb1⟩
    have HB1 := Lib.hid (show Below W1.heap.size W1 w1 from hb1)
    clear hb1
    obtain ⟨⟨m0, m1, m2⟩, _⟩ := cell3 (blk_below HK.out HB1.out)
    go_wp2_with fail
    refine (HFW.out w1 (Kd.C_below HRm.out HB1.out)).mono ?_
    rintro e w2 ⟨rfl, hb2⟩
    have HB2 := Lib.hid (below_tr HB1.out hb2)
    clear hb2 m0 m1 m2
    obtain ⟨⟨m0, m1, m2⟩, _⟩ := cell3 (blk_below HK.out HB2.out)
    by_cases hgo : d0 = true ∧ d1 = false ∧ d2 = false ∧ (d3 && d4) = false
    · obtain ⟨rfl, rfl, rfl, hd34⟩ := hgo
      have HF := Lib.hid (few_get HE0.out)
      have HL : Hid (p.length ≤ 100) := Lib.hid (by have := of_decide_eq_false HE1.out; omega)
      have HN : Hid (n ≤ 100000 ∨ 131072 < n) := Lib.hid (by
        have h3 := HE3.out
        have h4 := HE4.out
        by_cases g1 : 60 < n
        · by_cases g2 : n ≤ 131072
          · rw [decide_eq_true g1] at h3; rw [decide_eq_true g2] at h4; rw [← h3, ← h4] at hd34; cases hd34
          · right; omega
        · left; omega)
      have HD34 := Lib.hid hd34
      obtain ⟨r, hr⟩ : ∃ r, r = decM lg one qs p n := ⟨_, rfl⟩
      obtain ⟨rn, rl⟩ := r
      have HBy : Hid (Bytes rl) := Lib.hid (by have := decM_bytes lg one qs p n; rw [← hr] at this; exact this)
      have HD1 := Lib.hid (decodeL_any lg one Am cm qs A ca p n w2 (Kd.C_below HRm.out HB2.out) (by have := HF.out.1; omega) (Kd.C_below HR.out HB2.out) HX.out.2.2.2 (by have := HL.out; omega))
      rw [← hr] at HD1
      have HRR := Lib.hid hr
      clear hr
      have walk : ∀ a b : Bool, d3 = a → d4 = b → Calls Try.prog 4 #[.agg #[.int .i64 lg, .bool one, .slice Am qs.length cm], .slice A p.length ca, .int .i64 n] w (Ret (.bool true) w) → True := fun _ _ _ _ _ => trivial
      clear walk
      cases d3 <;> cases d4 <;> first
        | (exact absurd HD34.out (by decide))
        | (clear hd34 HD34
           go_wp2_with fail
           refine HD1.out.mono ?_
           rintro e w3 ⟨⟨v3, rfl, hv3⟩, hb3⟩
           obtain ⟨A3, c3, rfl⟩ := Kd.R_slice hv3
           have HV3 := Lib.hid (Kd.R_reads' hv3).2
           have HB3 := Lib.hid (below_tr HB2.out hb3)
           have HD2 := Lib.hid (rDecode_any lg one Am cm qs A ca p n w3 (Kd.C_below HRm.out HB3.out) HX.out.1 (by have := HF.out.1; omega) (Kd.C_below HR.out HB3.out) HX.out.2.2.1 HX.out.2.2.2 (by have := HL.out; omega) HN.out)
           rw [← HRR.out] at HD2
           clear hb3 hv3 m0 m1 m2
           obtain ⟨⟨m0, m1, m2⟩, _⟩ := cell3 (blk_below HK.out HB3.out)
           dsimp only
           go_wp2_with fail
           refine HD2.out.mono ?_
           rintro e w4 ⟨⟨v4, rfl, hv4⟩, hb4⟩
           obtain ⟨A4, c4, rfl⟩ := Kd.R_slice hv4
           have HV4 := Lib.hid (Kd.R_reads' hv4).2
           have HB4 := Lib.hid (below_tr HB3.out hb4)
           have HS := Lib.hid (same_same A3 A4 c3 c4 rl w4 (Kd.C_below HV3.out.2 hb4) HV4.out.2 HBy.out)
           clear hb4 hv4 m0 m1 m2
           dsimp only
           go_wp2_with fail
           refine HS.out.mono ?_
           rintro e w5 ⟨rfl, rfl⟩
           go_wp2_with fail
           go_ret
           exact ⟨rfl, below_tr HB.out HB4.out⟩)
    · have HG := Lib.hid hgo
      clear hgo
      cases d0 <;> cases d1 <;> cases d2 <;> cases d3 <;> cases d4 <;> first
        | (exact absurd (by decide) HG.out)
        | (clear HG
           go_wp2_with fail
           go_ret
           exact ⟨rfl, below_tr HB.out HB2.out⟩)
  exact main _ _ _ _ _ rfl rfl rfl rfl rfl
theorem lanesDecode_law (lg : Int) (one : Bool) (Am : Option Addr) (cm : Nat) (qs : List (List Int)) (A : Option Addr) (ca : Nat) (p : List Int) (n : Int) (w : World) (hm : kq.C w Am qs.length qs) (hcm : qs.length ≤ cm) (hlm : qs.length ≤ maxLen) (hr : (Kd.int .u8).C w A p.length p) (hc : p.length ≤ ca) (hby : Bytes p) (_ : p.length * 1 ≤ 140737488351232) (_ : (Lit.int .i64 n).wf = true) :
    Calls Try.prog 4 #[.agg #[.int .i64 lg, .bool one, .slice Am qs.length cm], .slice A p.length ca, .int .i64 n] w (Ret (.bool true) w) := lanesDecode_any lg one Am cm qs A ca p n w hm hcm hlm hr hc hby
end Go.Proofs.Ytfnobinenolhhaa
