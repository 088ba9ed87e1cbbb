/- Plain lemmas on keys (fractions of a symbol): what the printed functions of the seat answer, without Go and memory. -/
import Derived.Test.YtdiklmnponnlnaaPFracx
import Derived.OpenShut
namespace Go.Proofs.Ytdiklmnponnlnaa.Pure
open Go.RowKit Go.Proofs.Ytdiklmnponnlnaa.PFrac Go.Proofs.YtdiklmnponnlnaaW.PrintWords Go.Proofs.YtdiklmnponnlnaaW.PrintLast

theorem w64 {n : Int} (h : -9223372036854775808 ≤ n ∧ n < 9223372036854775808) : wrap64 n = n := by unfold wrap64; omega

theorem awake_true : puncheonlaw09_awake.f = some true := by decide +kernel

theorem right_eq (i q s : Int) : frac_Right.f i q s = some (rightB i q s) := by
  unfold frac_Right.f rightB
  by_cases h1 : q ≥ 1
  · rw [if_pos h1]
    by_cases h2 : q ≤ 4096
    · rw [if_pos h2]
      by_cases h3 : i ≥ q
      · rw [if_pos h3, w64 (by omega)]
        by_cases h4 : i < 2 * q
        · rw [if_pos h4]
          by_cases h5 : s ≥ 0
          · rw [if_pos h5]; congr 1; rw [decide_eq_decide]; omega
          · rw [if_neg h5]; congr 1; symm; apply decide_eq_false; omega
        · rw [if_neg h4]; congr 1; symm; apply decide_eq_false; omega
      · rw [if_neg h3]; congr 1; symm; apply decide_eq_false; omega
    · rw [if_neg h2]; congr 1; symm; apply decide_eq_false; omega
  · rw [if_neg h1]; congr 1; symm; apply decide_eq_false; omega

theorem refRight_eq (i q s : Int) : puncheonref09_Right.f i q s = some (rightB i q s) := by
  unfold puncheonref09_Right.f rightB
  by_cases h1 : q ≥ 1
  · rw [if_pos h1]
    by_cases h2 : q ≤ 4096
    · rw [if_pos h2]
      by_cases h3 : i ≥ q
      · rw [if_pos h3, w64 (n := 2 * q) (by omega), w64 (by omega)]
        by_cases h4 : i ≤ 2 * q - 1
        · rw [if_pos h4]
          by_cases h5 : s ≥ 0
          · rw [if_pos h5]; congr 1; rw [decide_eq_decide]; omega
          · rw [if_neg h5]; congr 1; symm; apply decide_eq_false; omega
        · rw [if_neg h4]; congr 1; symm; apply decide_eq_false; omega
      · rw [if_neg h3]; congr 1; symm; apply decide_eq_false; omega
    · rw [if_neg h2]; congr 1; symm; apply decide_eq_false; omega
  · rw [if_neg h1]; congr 1; symm; apply decide_eq_false; omega

theorem right_iff {i q s : Int} : rightB i q s = true ↔ 1 ≤ q ∧ q ≤ 4096 ∧ q ≤ i ∧ i < 2 * q ∧ 0 ≤ s ∧ s < 256 := by
  unfold rightB; exact decide_eq_true_iff

/-- small products -/
theorem mul_small {x y : Int} (h1 : 0 ≤ x) (h2 : x ≤ 8192) (h3 : 0 ≤ y) (h4 : y ≤ 8192) : 0 ≤ x * y ∧ x * y ≤ 67108864 :=
  ⟨Int.mul_nonneg h1 h3, Int.le_trans (Int.mul_le_mul h2 h4 h3 (by omega)) (by omega)⟩
theorem wmul {x y : Int} (h1 : 0 ≤ x) (h2 : x ≤ 8192) (h3 : 0 ≤ y) (h4 : y ≤ 8192) : wrap64 (x * y) = x * y := by
  have := mul_small h1 h2 h3 h4; exact w64 (by omega)

/-- the order of right keys -/
def cmpR (i q s j p t : Int) : Int := if cmpI (i * p) (j * q) = 0 then cmpI s t else cmpI (i * p) (j * q)
theorem cmpI_zero {x y : Int} : cmpI x y = 0 ↔ x = y := by unfold cmpI; split <;> (try split) <;> omega
theorem cmpI_neg {x y : Int} : cmpI x y = -1 ↔ x < y := by unfold cmpI; split <;> (try split) <;> omega
theorem cmpI_pos {x y : Int} : cmpI x y = 1 ↔ y < x := by unfold cmpI; split <;> (try split) <;> omega
theorem cmpI_cases (x y : Int) : (x < y ∧ cmpI x y = -1) ∨ (x = y ∧ cmpI x y = 0) ∨ (y < x ∧ cmpI x y = 1) := by
  unfold cmpI; split <;> (try split) <;> omega

theorem cmp_eq_R {i q s j p t : Int} (h1 : rightB i q s = true) (h2 : rightB j p t = true) : frac_Cmp.f i q s j p t = some (cmpR i q s j p t) := by
  unfold frac_Cmp.f cmpK cmpR
  have a := right_iff.1 h1; have b := right_iff.1 h2
  rw [if_pos (by simp [h1, h2]), wmul (by omega) (by omega) (by omega) (by omega), wmul (by omega) (by omega) (by omega) (by omega)]

theorem cmpR_cases (i q s j p t : Int) : ((i * p < j * q ∨ i * p = j * q ∧ s < t) ∧ cmpR i q s j p t = -1) ∨ ((i * p = j * q ∧ s = t) ∧ cmpR i q s j p t = 0) ∨ ((j * q < i * p ∨ i * p = j * q ∧ t < s) ∧ cmpR i q s j p t = 1) := by
  unfold cmpR
  rcases cmpI_cases (i * p) (j * q) with ⟨h, e⟩ | ⟨h, e⟩ | ⟨h, e⟩
  · rw [e, if_neg (by omega)]; exact .inl ⟨.inl h, rfl⟩
  · rw [e, if_pos rfl]
    rcases cmpI_cases s t with ⟨h', e'⟩ | ⟨h', e'⟩ | ⟨h', e'⟩
    · exact .inl ⟨.inr ⟨h, h'⟩, e'⟩
    · exact .inr (.inl ⟨⟨h, h'⟩, e'⟩)
    · exact .inr (.inr ⟨.inr ⟨h, h'⟩, e'⟩)
  · rw [e, if_neg (by omega)]; exact .inr (.inr ⟨.inl h, rfl⟩)

theorem made_eq (a b c : Int) (a0 : 0 ≤ a ∧ a ≤ 65535) (b0 : 0 ≤ b ∧ b ≤ 65535) (c0 : 0 ≤ c ∧ c ≤ 255) :
    ∃ i q, puncheonref09_Made.f a b c = some (i, q, c) ∧ rightB i q c = true ∧ (b < 2048 → q ≤ 2048) := by
  unfold puncheonref09_Made.f
  rw [w64 (n := a) (by omega), w64 (n := b) (by omega), w64 (n := c) (by omega), Int.tmod_eq_emod_of_nonneg (a := b) (by omega)]
  have e : wrap64 (1 + b % 4096) = 1 + b % 4096 := w64 (by omega)
  rw [e, if_neg (by omega), Int.tmod_eq_emod_of_nonneg (a := a) (by omega)]
  have hm := Int.emod_nonneg a (b := 1 + b % 4096) (by omega)
  have hl := Int.emod_lt_of_pos a (b := 1 + b % 4096) (by omega)
  rw [w64 (n := 1 + b % 4096 + a % (1 + b % 4096)) (by omega)]
  exact ⟨_, _, rfl, right_iff.2 (by omega), by omega⟩
end Go.Proofs.Ytdiklmnponnlnaa.Pure
