/- Every key of a symbol but the last has a next one, which is greater; the last one has none. Conditions: none beyond the kinds of the arguments. -/
import Derived.Test.YtdiklmnponnlnaaPFracx5
import Derived.Test.YtdiklmnponnlnaaFp
namespace Go.Proofs.Ytdiklmnponnlnaa.Pure
open Go.RowKit Go.Proofs.Ytdiklmnponnlnaa.PFrac Go.Proofs.YtdiklmnponnlnaaW.PrintWords Go.Proofs.YtdiklmnponnlnaaW.PrintLast

theorem FracNext : puncheonlaw09_FracNext.Pure := by
  intro a0 a1 a2 h0 h1 h2
  have b0 := bounds_u16 h0; have b1 := bounds_u16 h1; have b2 := bounds_u8 h2
  obtain ⟨i, q, e, hr, _⟩ := made_eq a0 a1 a2 b0 b1 b2
  have hk := right_iff.1 hr
  unfold puncheonlaw09_FracNext.f
  rw [awake_true]; simp only [Option.bind_some]
  rw [e]; simp only [Option.bind_some, puncheonlaw09_key.f]
  unfold frac_Next.f
  rw [right_eq, hr]; simp only [Option.bind_some, if_true]
  rw [w64 (n := i + 1) (by omega), w64 (n := 2 * q) (by omega)]
  by_cases h : i + 1 = 2 * q
  · rw [if_pos h]; simp only [Option.bind_some]
    rw [if_neg (by decide), w64 (by omega), if_pos (by omega)]
    rfl
  · rw [if_neg h]; simp only [Option.bind_some]
    have hr2 : rightB (i + 1) q a2 = true := right_iff.2 (by omega)
    rw [if_pos trivial, if_pos (by simp), cmp_eq_R hr hr2, right_eq, hr2]
    have hp : i * q < (i + 1) * q := by rw [Int.add_mul]; omega
    have : cmpR i q a2 (i + 1) q a2 = -1 := by
      rcases cmpR_cases i q a2 (i + 1) q a2 with ⟨_, e⟩ | ⟨⟨_, _⟩, e⟩ | ⟨_, e⟩
      · exact e
      · omega
      · omega
    simp only [Option.bind_some]
    rw [if_pos this]

end Go.Proofs.Ytdiklmnponnlnaa.Pure
