/- Keys stand in one order. Conditions: none beyond the kinds of the arguments. -/
import Derived.Test.YtdiklmnponnlnaaPFracx5
import Derived.Test.YtdiklmnponnlnaaFp
namespace Go.Proofs.Ytdiklmnponnlnaa.Pure
open Go.RowKit Go.Proofs.Ytdiklmnponnlnaa.PFrac Go.Proofs.YtdiklmnponnlnaaW.PrintWords Go.Proofs.YtdiklmnponnlnaaW.PrintLast

theorem cross {i p j q k r : Int} (hp : 1 ≤ p) (hq : 1 ≤ q) (hr : 1 ≤ r) (h1 : i * q ≤ j * p) (h2 : j * r ≤ k * q) : i * r ≤ k * p ∧ (i * q < j * p ∨ j * r < k * q → i * r < k * p) := by
  have e1 : i * q * r = i * r * q := by rw [Int.mul_assoc, Int.mul_comm q r, ← Int.mul_assoc]
  have e2 : j * p * r = j * r * p := by rw [Int.mul_assoc, Int.mul_comm p r, ← Int.mul_assoc]
  have e3 : k * q * p = k * p * q := by rw [Int.mul_assoc, Int.mul_comm q p, ← Int.mul_assoc]
  have a1 : i * q * r ≤ j * p * r := Int.mul_le_mul_of_nonneg_right h1 (by omega)
  have a2 : j * r * p ≤ k * q * p := Int.mul_le_mul_of_nonneg_right h2 (by omega)
  refine ⟨Int.le_of_mul_le_mul_right (a := q) (by omega) (by omega), fun h => Int.lt_of_mul_lt_mul_right (a := q) ?_ (by omega)⟩
  rcases h with h | h
  · have := Int.mul_lt_mul_of_pos_right h (show 0 < r by omega); omega
  · have := Int.mul_lt_mul_of_pos_right h (show 0 < p by omega); omega

theorem order_sound {i p s j q t k r u : Int} (h1 : rightB i p s = true) (h2 : rightB j q t = true) (h3 : rightB k r u = true) :
    (cmpR i p s j q t ≤ 0 → cmpR j q t k r u ≤ 0 → ¬ cmpR i p s k r u > 0) ∧ (cmpR i p s j q t ≥ 0 → cmpR j q t k r u ≥ 0 → ¬ cmpR i p s k r u < 0) := by
  have a1 := right_iff.1 h1; have a2 := right_iff.1 h2; have a3 := right_iff.1 h3
  have c1 := cmpR_cases i p s j q t
  have c2 := cmpR_cases j q t k r u
  have c3 := cmpR_cases i p s k r u
  constructor
  · intro x y
    have := @cross i p j q k r (by omega) (by omega) (by omega) (by omega) (by omega)
    omega
  · intro x y
    have := @cross k r j q i p (by omega) (by omega) (by omega) (by omega) (by omega)
    omega

theorem order_turned (i p s j q t : Int) : cmpR j q t i p s = - cmpR i p s j q t := by
  have c1 := cmpR_cases i p s j q t
  have c2 := cmpR_cases j q t i p s
  omega

theorem order_j0 {i p s j q t : Int} (h1 : rightB i p s = true) (h2 : rightB j q t = true) (b : Bool) (hb : b = false) :
    puncheonlaw09_FracOrder.j0 1 true (cmpR i p s j q t) b i p s j q t = some true := by
  subst hb
  have a1 := right_iff.1 h1; have a2 := right_iff.1 h2
  simp only [puncheonlaw09_FracOrder.j0]
  rw [if_neg (by simp), if_pos trivial, cmp_eq_R h2 h1]
  simp only [Option.bind_some]
  have c := cmpR_cases i p s j q t
  have hw : wrap64 (- cmpR i p s j q t) = - cmpR i p s j q t := w64 (by omega)
  have hs : cmpR i p s i p s = 0 := by have := cmpR_cases i p s i p s; omega
  rw [if_pos (by rw [hw]; exact order_turned _ _ _ _ _ _), wmul (x := i) (y := q) (by omega) (by omega) (by omega) (by omega), wmul (x := j) (y := p) (by omega) (by omega) (by omega) (by omega), cmp_eq_R h1 h1, hs]
  by_cases e : i * q = j * p
  · rw [if_pos e, if_pos ?_]
    · rfl
    · by_cases e2 : s = t
      · have : cmpR i p s j q t = 0 := by omega
        rw [this, e2]; simp
      · have : cmpR i p s j q t ≠ 0 := by omega
        rw [beq_eq_false_iff_ne.2 this, beq_eq_false_iff_ne.2 e2]; rfl
  · rw [if_neg e, if_pos ?_]
    · rfl
    · have : cmpR i p s j q t ≠ 0 := by omega
      simp [this]

theorem FracOrder : puncheonlaw09_FracOrder.Pure := by
  intro a0 a1 a2 a3 a4 a5 a6 a7 a8 h0 h1 h2 h3 h4 h5 h6 h7 h8
  have b0 := bounds_u16 h0; have b1 := bounds_u16 h1; have b2 := bounds_u8 h2; have b3 := bounds_u16 h3; have b4 := bounds_u16 h4; have b5 := bounds_u8 h5; have b6 := bounds_u16 h6; have b7 := bounds_u16 h7; have b8 := bounds_u8 h8
  obtain ⟨i, p, e, hr, _⟩ := made_eq a0 a1 a2 b0 b1 b2
  obtain ⟨j, q, e', hr', _⟩ := made_eq a3 a4 a5 b3 b4 b5
  obtain ⟨k, r, e'', hr'', _⟩ := made_eq a6 a7 a8 b6 b7 b8
  refine ⟨1, ?_⟩
  unfold puncheonlaw09_FracOrder.f
  rw [awake_true]; simp only [Option.bind_some]
  rw [e, e', e'']; simp only [Option.bind_some, puncheonlaw09_key.f]
  rw [cmp_eq_R hr hr', cmp_eq_R hr' hr'', cmp_eq_R hr hr'']
  simp only [Option.bind_some]
  obtain ⟨o1, o2⟩ := order_sound hr hr' hr''
  have o3 := @order_j0 i p a2 j q a5 hr hr'
  by_cases x1 : cmpR i p a2 j q a5 ≤ 0
  · rw [if_pos x1]
    by_cases x2 : cmpR j q a5 k r a8 ≤ 0
    · rw [if_pos x2, if_neg (o1 x1 x2)]
      by_cases y1 : cmpR i p a2 j q a5 ≥ 0
      · rw [if_pos y1]
        by_cases y2 : cmpR j q a5 k r a8 ≥ 0
        · rw [if_pos y2]; exact o3 _ (decide_eq_false (o2 y1 y2))
        · rw [if_neg y2]; exact o3 _ rfl
      · rw [if_neg y1]; exact o3 _ rfl
    · rw [if_neg x2]
      by_cases y1 : cmpR i p a2 j q a5 ≥ 0
      · rw [if_pos y1]
        by_cases y2 : cmpR j q a5 k r a8 ≥ 0
        · rw [if_pos y2]; exact o3 _ (decide_eq_false (o2 y1 y2))
        · rw [if_neg y2]; exact o3 _ rfl
      · rw [if_neg y1]; exact o3 _ rfl
  · rw [if_neg x1]
    by_cases y1 : cmpR i p a2 j q a5 ≥ 0
    · rw [if_pos y1]
      by_cases y2 : cmpR j q a5 k r a8 ≥ 0
      · rw [if_pos y2]; exact o3 _ (decide_eq_false (o2 y1 y2))
      · rw [if_neg y2]; exact o3 _ rfl
    · rw [if_neg y1]; exact o3 _ rfl

end Go.Proofs.Ytdiklmnponnlnaa.Pure
