/- Between two fractions lies the one of both tops and both bottoms added. Conditions: none beyond the kinds of the arguments. -/
import Derived.Test.YtdiklmnponnlnaaPFracx5
import Derived.Test.YtdiklmnponnlnaaFp
namespace Go.Proofs.Ytdiklmnponnlnaa.Pure
open Go.RowKit Go.Proofs.Ytdiklmnponnlnaa.PFrac Go.Proofs.YtdiklmnponnlnaaW.PrintWords Go.Proofs.YtdiklmnponnlnaaW.PrintLast

theorem FracMiddle : puncheonlaw09_FracMiddle.Pure := by
  intro a0 a1 a2 a3 a4 h0 h1 h2 h3 h4
  have b0 := bounds_u16 h0; have b1 := bounds_u16 h1; have b2 := bounds_u16 h2; have b3 := bounds_u16 h3; have b4 := bounds_u8 h4
  have t1 : Int.tmod a1 2048 = a1 % 2048 := Int.tmod_eq_emod_of_nonneg (by omega)
  have t3 : Int.tmod a3 2048 = a3 % 2048 := Int.tmod_eq_emod_of_nonneg (by omega)
  obtain ⟨i, p, e, hr, hl⟩ := made_eq a0 (Int.tmod a1 2048) a4 b0 (by omega) b4
  obtain ⟨j, q, e', hr', hl'⟩ := made_eq a2 (Int.tmod a3 2048) a4 b2 (by omega) b4
  have hk := right_iff.1 hr; have hk' := right_iff.1 hr'
  have hl := hl (by omega); have hl' := hl' (by omega)
  unfold puncheonlaw09_FracMiddle.f
  rw [awake_true]; simp only [Option.bind_some]
  rw [e, e']; simp only [Option.bind_some, puncheonlaw09_key.f]
  rw [w64 (n := i + j) (by omega), w64 (n := p + q) (by omega), cmp_eq_R hr hr']
  have hr2 : rightB (i + j) (p + q) a4 = true := right_iff.2 (by omega)
  simp only [Option.bind_some, right_eq]
  rw [if_pos trivial, if_pos hr2, cmp_eq_R hr hr2, cmp_eq_R hr2 hr']
  simp only [Option.bind_some]
  have x1 : i * (p + q) = i * p + i * q := Int.mul_add _ _ _
  have x2 : (i + j) * p = i * p + j * p := Int.add_mul _ _ _
  have x3 : (i + j) * q = i * q + j * q := Int.add_mul _ _ _
  have x4 : j * (p + q) = j * p + j * q := Int.mul_add _ _ _
  have c1 := cmpR_cases i p a4 j q a4
  have c2 := cmpR_cases i p a4 (i + j) (p + q) a4
  have c3 := cmpR_cases (i + j) (p + q) a4 j q a4
  rw [x1, x2] at c2
  rw [x3, x4] at c3
  have y1 : cmpR i p a4 (i + j) (p + q) a4 = cmpR i p a4 j q a4 := by omega
  have y2 : cmpR (i + j) (p + q) a4 j q a4 = cmpR i p a4 j q a4 := by omega
  rw [if_pos y1, y2]; simp

end Go.Proofs.Ytdiklmnponnlnaa.Pure
