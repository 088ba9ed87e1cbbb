/- Plain: whether any key is right, and how two are to each other, is as the document says; and so many times a fraction lies between what is told. Conditions: none beyond the kinds of the arguments. -/
import Derived.Test.YtdiklmnponnlnaaPFracx2
import Derived.Test.YtdiklmnponnlnaaPFracx4
import Derived.Test.YtdiklmnponnlnaaFp
namespace Go.Proofs.Ytdiklmnponnlnaa.Pure
open Go.RowKit Go.Proofs.Ytdiklmnponnlnaa.PFrac Go.Proofs.YtdiklmnponnlnaaW.PrintWords Go.Proofs.YtdiklmnponnlnaaW.PrintLast

theorem refCmp_eq (i q s j p t : Int) : puncheonref09_Cmp.f 2 i q s j p t = frac_Cmp.f i q s j p t := by
  unfold puncheonref09_Cmp.f
  rw [refRight_eq, refRight_eq]; simp only [Option.bind_some]
  by_cases h1 : rightB i q s = true
  · rw [if_pos h1]
    by_cases h2 : rightB j p t = true
    · have a := right_iff.1 h1; have b := right_iff.1 h2
      rw [h2, cmp_eq_R h1 h2]
      have c := cmpR_cases i q s j p t
      simp only [puncheonref09_Cmp.j0]
      rw [if_neg (by simp), wmul (x := i) (y := p) (by omega) (by omega) (by omega) (by omega), wmul (x := j) (y := q) (by omega) (by omega) (by omega) (by omega)]
      simp only [puncheonref09_Cmp.j1]
      by_cases x1 : i * p < j * q
      · rw [if_pos x1, if_pos trivial]; congr 1; omega
      · rw [if_neg x1]
        by_cases x2 : i * p = j * q
        · rw [if_pos x2]
          by_cases x3 : s < t
          · rw [if_pos (by simpa using x3)]; congr 1; omega
          · rw [if_neg (by simpa using x3), if_neg (by omega), if_pos x2]
            by_cases x4 : s > t
            · rw [if_pos x4]; congr 1; omega
            · rw [if_neg x4]; congr 1; omega
        · rw [if_neg x2, if_neg (by simp), if_pos (by omega)]; congr 1; omega
    · unfold frac_Cmp.f cmpK
      rw [if_neg (by simp [h2])]
      have : rightB j p t = false := by simpa using h2
      rw [this]; simp [puncheonref09_Cmp.j0]
  · rw [if_neg h1]
    unfold frac_Cmp.f cmpK
    rw [if_neg (by simp [h1])]; simp [puncheonref09_Cmp.j0]

theorem FracTells (i q s j p t : Int) : puncheonlaw09_FracTells.f 2 i q s j p t = some true := by
  unfold puncheonlaw09_FracTells.f
  rw [awake_true]; simp only [Option.bind_some, puncheonlaw09_key.f]
  rw [right_eq, refRight_eq, refCmp_eq]
  simp only [Option.bind_some, if_true, beq_self_eq_true]
  simp [frac_Cmp.f]

/-- what Scaled answers at a right key and a factor from 1 to 4096 -/
theorem scaled_eq {i q s l : Int} (h : rightB i q s = true) (h1 : 1 ≤ l) (h2 : l ≤ 4096) : frac_Scaled.f i q s l = some (l * i / q, (l * i + q - 1) / q) := by
  have a := right_iff.1 h
  have m := mul_small (x := l) (y := i) (by omega) (by omega) (by omega) (by omega)
  unfold frac_Scaled.f
  rw [right_eq, h]; simp only [Option.bind_some, if_true]
  rw [if_neg (show ¬ l < 1 by omega), if_neg (show ¬ l > 4096 by omega), if_neg (show ¬ q = 0 by omega), wmul (x := l) (y := i) (by omega) (by omega) (by omega) (by omega), w64 (n := l * i + q) (by omega), w64 (n := l * i + q - 1) (by omega), Int.tdiv_eq_ediv_of_nonneg (by omega), Int.tdiv_eq_ediv_of_nonneg (by omega)]
  have d1 : 0 ≤ l * i / q ∧ l * i / q ≤ l * i := ⟨Int.ediv_nonneg (by omega) (by omega), Int.ediv_le_self _ (by omega)⟩
  have d2 : 0 ≤ (l * i + q - 1) / q ∧ (l * i + q - 1) / q ≤ l * i + q - 1 := ⟨Int.ediv_nonneg (by omega) (by omega), Int.ediv_le_self _ (by omega)⟩
  rw [w64 (n := l * i / q) (by omega), w64 (n := (l * i + q - 1) / q) (by omega)]

theorem scaled_no {i q s l : Int} (h : ¬ (rightB i q s = true ∧ 1 ≤ l ∧ l ≤ 4096)) : frac_Scaled.f i q s l = some (0, 0) := by
  unfold frac_Scaled.f
  rw [right_eq]; simp only [Option.bind_some]
  by_cases h1 : rightB i q s = true
  · rw [if_pos h1]
    by_cases h2 : l < 1
    · rw [if_pos h2]
    · have h' : ¬ (1 ≤ l ∧ l ≤ 4096) := fun x => h ⟨h1, x⟩
      rw [if_neg h2, if_pos (by omega)]
  · rw [if_neg h1]

theorem up_down {n q : Int} (hq : 1 ≤ q) : n / q * q ≤ n ∧ n < n / q * q + q ∧ n ≤ (n + q - 1) / q * q ∧ (n + q - 1) / q * q < n + q := by
  have a := Int.mul_ediv_add_emod n q; have b := Int.emod_nonneg n (b := q) (by omega); have c := Int.emod_lt_of_pos n (b := q) (by omega)
  have a' := Int.mul_ediv_add_emod (n + q - 1) q; have b' := Int.emod_nonneg (n + q - 1) (b := q) (by omega); have c' := Int.emod_lt_of_pos (n + q - 1) (b := q) (by omega)
  rw [Int.mul_comm (n / q) q, Int.mul_comm ((n + q - 1) / q) q]; omega

theorem scaled_j1 {i q s l b lo hi : Int} (h : rightB i q s = true) (h1 : 1 ≤ l) (h2 : l ≤ 4096) (hb : 0 ≤ b ∧ b ≤ 255) (hlo : lo = l * i / q) (hhi : hi = (l * i + q - 1) / q) :
    puncheonlaw09_FracScaled.j1 1 l b true lo hi false i q s = some true := by
  have a := right_iff.1 h
  have m := mul_small (x := l) (y := i) (by omega) (by omega) (by omega) (by omega)
  have t : Int.tmod b 8 = b % 8 := Int.tmod_eq_emod_of_nonneg (by omega)
  obtain ⟨u1, u2, u3, u4⟩ := up_down (n := l * i) (q := q) (by omega)
  rw [← hlo] at u1 u2
  rw [← hhi] at u3 u4
  simp only [puncheonlaw09_FracScaled.j1]
  rw [t, w64 (n := b % 8) (by omega), w64 (n := 1 + b % 8) (by omega), if_neg (by simp), wmul (x := q) (y := 1 + b % 8) (by omega) (by omega) (by omega) (by omega),
    w64 (n := l * i) (by omega), w64 (n := lo * q) (by omega), w64 (n := hi * q) (by omega), w64 (n := lo * q + q) (by omega), w64 (n := l * i + q) (by omega), if_pos trivial]
  obtain ⟨f, hf⟩ : ∃ f, f = 1 + b % 8 := ⟨_, rfl⟩
  rw [← hf]
  have fin : (if lo * q ≤ l * i then if l * i < lo * q + q then if l * i ≤ hi * q then some (decide (hi * q < l * i + q)) else some false else some false else some false) = some true := by
    rw [if_pos u1, if_pos u2, if_pos u3, decide_eq_true u4]
  by_cases hq : q * f ≤ 4096
  · rw [if_pos hq, wmul (x := i) (y := f) (by omega) (by omega) (by omega) (by omega)]
    have g1 : q * 1 ≤ q * f := Int.mul_le_mul_of_nonneg_left (by omega) (by omega)
    have g2 : q * f ≤ i * f := Int.mul_le_mul_of_nonneg_right (by omega) (by omega)
    have g3 : i * f < 2 * q * f := Int.mul_lt_mul_of_pos_right (by omega) (by omega)
    have g4 : 2 * q * f = 2 * (q * f) := Int.mul_assoc _ _ _
    have hr : rightB (i * f) (q * f) s = true := right_iff.2 (by omega)
    rw [scaled_eq hr h1 h2]
    simp only [Option.bind_some]
    have e1 : l * (i * f) = l * i * f := (Int.mul_assoc _ _ _).symm
    have k1 : l * (i * f) / (q * f) = lo := by rw [e1, hlo]; exact Int.mul_ediv_mul_of_pos_left _ _ (by omega)
    have k2 : (l * (i * f) + q * f - 1) / (q * f) = hi := by
      rw [e1]
      have v1 := up_down (n := l * i * f) (q := q * f) (by omega)
      obtain ⟨_, _, v3, v4⟩ := v1
      have x3 : l * i * f ≤ hi * (q * f) := by rw [← Int.mul_assoc]; exact Int.mul_le_mul_of_nonneg_right u3 (by omega)
      have x4 : hi * (q * f) < l * i * f + q * f := by rw [← Int.mul_assoc, ← Int.add_mul]; exact Int.mul_lt_mul_of_pos_right u4 (by omega)
      obtain ⟨z, hz⟩ : ∃ z, z = (l * i * f + q * f - 1) / (q * f) := ⟨_, rfl⟩
      rw [← hz] at v3 v4 ⊢
      have y1 : z < hi + 1 := Int.lt_of_mul_lt_mul_right (a := q * f) (by rw [Int.add_mul]; omega) (by omega)
      have y2 : hi < z + 1 := Int.lt_of_mul_lt_mul_right (a := q * f) (by rw [Int.add_mul]; omega) (by omega)
      omega
    rw [if_pos k1, if_pos k2]
    exact fin
  · rw [if_neg hq]; exact fin

theorem FracScaled (i q s l b : Int) (hb : 0 ≤ b ∧ b ≤ 255) : puncheonlaw09_FracScaled.f 2 i q s l b = some true := by
  unfold puncheonlaw09_FracScaled.f
  rw [awake_true]; simp only [Option.bind_some, puncheonlaw09_key.f]
  by_cases h : rightB i q s = true ∧ 1 ≤ l ∧ l ≤ 4096
  · obtain ⟨h, h1, h2⟩ := h
    have a := right_iff.1 h
    have m := mul_small (x := l) (y := i) (by omega) (by omega) (by omega) (by omega)
    rw [scaled_eq h h1 h2, refRight_eq, h]; simp only [Option.bind_some]
    obtain ⟨u1, u2, u3, u4⟩ := up_down (n := l * i) (q := q) (by omega)
    obtain ⟨lo, hlo⟩ : ∃ z, z = l * i / q := ⟨_, rfl⟩
    obtain ⟨hi, hhi⟩ : ∃ z, z = (l * i + q - 1) / q := ⟨_, rfl⟩
    rw [← hlo] at u1 u2
    rw [← hhi] at u3 u4
    have p1 : l * i ≤ 4096 * (2 * q) := Int.mul_le_mul (by omega) (by omega) (by omega) (by omega)
    have d1 : 0 ≤ lo := by rw [hlo]; exact Int.ediv_nonneg (by omega) (by omega)
    have d2 : 0 ≤ hi := by rw [hhi]; exact Int.ediv_nonneg (by omega) (by omega)
    have d3 : lo ≤ 8192 := Int.le_of_mul_le_mul_right (a := q) (by omega) (by omega)
    have d4 : hi < 8193 := Int.lt_of_mul_lt_mul_right (a := q) (by omega) (by omega)
    rw [← hlo, ← hhi, if_pos trivial, if_neg (show ¬ l < 1 by omega), decide_eq_false (show ¬ l > 4096 by omega)]
    simp only [puncheonlaw09_FracScaled.j0]
    rw [if_neg (by simp), if_neg (show ¬ lo < 0 by omega), if_neg (show ¬ lo > 8192 by omega), if_neg (show ¬ hi < 0 by omega), decide_eq_false (show ¬ hi > 8192 by omega)]
    exact scaled_j1 h h1 h2 hb hlo hhi
  · rw [scaled_no h, refRight_eq]; simp only [Option.bind_some]
    have z : puncheonlaw09_FracScaled.j0 2 l b true 0 0 true i q s = some true := by simp [puncheonlaw09_FracScaled.j0]
    by_cases h1 : rightB i q s = true
    · rw [if_pos h1]
      by_cases h2 : l < 1
      · rw [if_pos h2]; exact z
      · have h' : ¬ (1 ≤ l ∧ l ≤ 4096) := fun x => h ⟨h1, x⟩
        rw [if_neg h2, decide_eq_true (show l > 4096 by omega)]; exact z
    · rw [if_neg h1]; exact z
end Go.Proofs.Ytdiklmnponnlnaa.Pure
