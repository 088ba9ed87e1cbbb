-- laid by hprint.py (wip/): the kit's print, with contracts of this session
import Derived.Test.YtdiklmnponnlnaaPFracx0
import Derived.Test.YtdiklmnponnlnaaPFracx2
import Derived.Test.YtdiklmnponnlnaaPFracx3
namespace Go.Proofs.Ytdiklmnponnlnaa.PFrac
open Go.RowKit Go.Proofs.YtdiklmnponnlnaaW.PrintWords Go.Proofs.YtdiklmnponnlnaaW.PrintLast Go.Proofs.YtdiklmnponnlnaaW.PrintMore
attribute [local go_sem] max2_int min2_int max_two min_two max_three min_three max_four min_four   -- for this text's walks alone
set_option linter.unusedVariables false
set_option linter.unusedSimpArgs false

/-! ### puncheonlaw09_FracOrder: function 4 -/
def puncheonlaw09_FracOrder.j0 : Nat → Bool → Int → Bool → Int → Int → Int → Int → Int → Int → Option (Bool)
  | 0, _, _, _, _, _, _, _, _, _ => none
  | k + 1, x19, x23, x72, x140000, x140001, x140002, x147000, x147001, x147002 => if x72 = true then (some false) else (if x19 = true then ((frac_Cmp.f x147000 x147001 x147002 x140000 x140001 x140002).bind fun t157 => (if t157 = (wrap64 (-x23)) then (if (wrap64 (x140000 * x147001)) = (wrap64 (x147000 * x140001)) then (if ((x23 == 0) == (x140002 == x147002)) = true then ((frac_Cmp.f x140000 x140001 x140002 x140000 x140001 x140002).bind fun t158 => (some (t158 == 0))) else (some false)) else (if ((x23 == 0) == false) = true then ((frac_Cmp.f x140000 x140001 x140002 x140000 x140001 x140002).bind fun t159 => (some (t159 == 0))) else (some false))) else (some false))) else (some false))
def puncheonlaw09_FracOrder.f (k : Nat) (a0 : Int) (a1 : Int) (a2 : Int) (a3 : Int) (a4 : Int) (a5 : Int) (a6 : Int) (a7 : Int) (a8 : Int) : Option (Bool) := (puncheonlaw09_awake.f).bind fun t132 => ((puncheonref09_Made.f a0 a1 a2).bind fun bt133 => ((puncheonlaw09_key.f bt133.1 bt133.2.1 bt133.2.2).bind fun bt136 => ((puncheonref09_Made.f a3 a4 a5).bind fun bt140 => ((puncheonlaw09_key.f bt140.1 bt140.2.1 bt140.2.2).bind fun bt143 => ((puncheonref09_Made.f a6 a7 a8).bind fun bt147 => ((puncheonlaw09_key.f bt147.1 bt147.2.1 bt147.2.2).bind fun bt150 => ((frac_Cmp.f bt136.1 bt136.2.1 bt136.2.2 bt143.1 bt143.2.1 bt143.2.2).bind fun t154 => ((frac_Cmp.f bt143.1 bt143.2.1 bt143.2.2 bt150.1 bt150.2.1 bt150.2.2).bind fun t155 => ((frac_Cmp.f bt136.1 bt136.2.1 bt136.2.2 bt150.1 bt150.2.1 bt150.2.2).bind fun t156 => (if t154 ≤ 0 then (if t155 ≤ 0 then (if t156 > 0 then (puncheonlaw09_FracOrder.j0 k t132 t154 true bt136.1 bt136.2.1 bt136.2.2 bt143.1 bt143.2.1 bt143.2.2) else (if t154 ≥ 0 then (if t155 ≥ 0 then (puncheonlaw09_FracOrder.j0 k t132 t154 (decide (t156 < 0)) bt136.1 bt136.2.1 bt136.2.2 bt143.1 bt143.2.1 bt143.2.2) else (puncheonlaw09_FracOrder.j0 k t132 t154 false bt136.1 bt136.2.1 bt136.2.2 bt143.1 bt143.2.1 bt143.2.2)) else (puncheonlaw09_FracOrder.j0 k t132 t154 false bt136.1 bt136.2.1 bt136.2.2 bt143.1 bt143.2.1 bt143.2.2))) else (if t154 ≥ 0 then (if t155 ≥ 0 then (puncheonlaw09_FracOrder.j0 k t132 t154 (decide (t156 < 0)) bt136.1 bt136.2.1 bt136.2.2 bt143.1 bt143.2.1 bt143.2.2) else (puncheonlaw09_FracOrder.j0 k t132 t154 false bt136.1 bt136.2.1 bt136.2.2 bt143.1 bt143.2.1 bt143.2.2)) else (puncheonlaw09_FracOrder.j0 k t132 t154 false bt136.1 bt136.2.1 bt136.2.2 bt143.1 bt143.2.1 bt143.2.2))) else (if t154 ≥ 0 then (if t155 ≥ 0 then (puncheonlaw09_FracOrder.j0 k t132 t154 (decide (t156 < 0)) bt136.1 bt136.2.1 bt136.2.2 bt143.1 bt143.2.1 bt143.2.2) else (puncheonlaw09_FracOrder.j0 k t132 t154 false bt136.1 bt136.2.1 bt136.2.2 bt143.1 bt143.2.1 bt143.2.2)) else (puncheonlaw09_FracOrder.j0 k t132 t154 false bt136.1 bt136.2.1 bt136.2.2 bt143.1 bt143.2.1 bt143.2.2))))))))))))
theorem puncheonlaw09_FracOrder.mono_l : ∀ k, (∀ y0 y1 y2 y3 y4 y5 y6 y7 y8, LeO (puncheonlaw09_FracOrder.j0 k y0 y1 y2 y3 y4 y5 y6 y7 y8) (puncheonlaw09_FracOrder.j0 (k + 1) y0 y1 y2 y3 y4 y5 y6 y7 y8))
  | 0 => fun _ _ _ _ _ _ _ _ _ r h => by simp [puncheonlaw09_FracOrder.j0] at h
  | k + 1 => by
    have ih0 := puncheonlaw09_FracOrder.mono_l k
    · intro y0 y1 y2 y3 y4 y5 y6 y7 y8
      unfold puncheonlaw09_FracOrder.j0
      repeat' first
      | (with_reducible exact ih0 _ _ _ _ _ _ _ _ _)
      | (with_reducible exact LeO.refl _)
      | (with_reducible exact LeO.none _)
      | (with_reducible refine LeO.ite ?_ ?_)
      | (with_reducible refine LeO.bind ?_ (fun _ => ?_))
      | exact ih0 _ _ _ _ _ _ _ _ _
      | exact LeO.none _
      | refine LeO.ite ?_ ?_
      | refine LeO.bind ?_ (fun _ => ?_)
theorem puncheonlaw09_FracOrder.mono : ∀ a0 a1 a2 a3 a4 a5 a6 a7 a8 k, LeO (puncheonlaw09_FracOrder.f k a0 a1 a2 a3 a4 a5 a6 a7 a8) (puncheonlaw09_FracOrder.f (k + 1) a0 a1 a2 a3 a4 a5 a6 a7 a8) := by
  intro a0 a1 a2 a3 a4 a5 a6 a7 a8 k
  have ih0 := puncheonlaw09_FracOrder.mono_l k
  unfold puncheonlaw09_FracOrder.f
  repeat' first
      | (with_reducible exact ih0 _ _ _ _ _ _ _ _ _)
      | (with_reducible exact LeO.refl _)
      | (with_reducible exact LeO.none _)
      | (with_reducible refine LeO.ite ?_ ?_)
      | (with_reducible refine LeO.bind ?_ (fun _ => ?_))
      | exact ih0 _ _ _ _ _ _ _ _ _
      | exact LeO.none _
      | refine LeO.ite ?_ ?_
      | refine LeO.bind ?_ (fun _ => ?_)
set_option maxHeartbeats 8000000 in
set_option maxRecDepth 100000 in
theorem puncheonlaw09_FracOrder.calls (k : Nat) (a0 : Int) (a1 : Int) (a2 : Int) (a3 : Int) (a4 : Int) (a5 : Int) (a6 : Int) (a7 : Int) (a8 : Int) (r : Bool) (w : World) (h : puncheonlaw09_FracOrder.f k a0 a1 a2 a3 a4 a5 a6 a7 a8 = some r) :
    Calls Try.prog 4 #[.int .u16 a0, .int .u16 a1, .int .u8 a2, .int .u16 a3, .int .u16 a4, .int .u8 a5, .int .u16 a6, .int .u16 a7, .int .u8 a8] w fun e w' => e = .returned (.bool r) ∧ Below w.heap.size w w' := by
  have hu26 := Try.underlying26
  have HB := Aside0.mk (Below.refl w.heap.size w)
  have H : ((puncheonlaw09_awake.f).bind fun t132 => ((puncheonref09_Made.f a0 a1 a2).bind fun bt133 => ((puncheonlaw09_key.f bt133.1 bt133.2.1 bt133.2.2).bind fun bt136 => ((puncheonref09_Made.f a3 a4 a5).bind fun bt140 => ((puncheonlaw09_key.f bt140.1 bt140.2.1 bt140.2.2).bind fun bt143 => ((puncheonref09_Made.f a6 a7 a8).bind fun bt147 => ((puncheonlaw09_key.f bt147.1 bt147.2.1 bt147.2.2).bind fun bt150 => ((frac_Cmp.f bt136.1 bt136.2.1 bt136.2.2 bt143.1 bt143.2.1 bt143.2.2).bind fun t154 => ((frac_Cmp.f bt143.1 bt143.2.1 bt143.2.2 bt150.1 bt150.2.1 bt150.2.2).bind fun t155 => ((frac_Cmp.f bt136.1 bt136.2.1 bt136.2.2 bt150.1 bt150.2.1 bt150.2.2).bind fun t156 => (if t154 ≤ 0 then (if t155 ≤ 0 then (if t156 > 0 then (puncheonlaw09_FracOrder.j0 k t132 t154 true bt136.1 bt136.2.1 bt136.2.2 bt143.1 bt143.2.1 bt143.2.2) else (if t154 ≥ 0 then (if t155 ≥ 0 then (puncheonlaw09_FracOrder.j0 k t132 t154 (decide (t156 < 0)) bt136.1 bt136.2.1 bt136.2.2 bt143.1 bt143.2.1 bt143.2.2) else (puncheonlaw09_FracOrder.j0 k t132 t154 false bt136.1 bt136.2.1 bt136.2.2 bt143.1 bt143.2.1 bt143.2.2)) else (puncheonlaw09_FracOrder.j0 k t132 t154 false bt136.1 bt136.2.1 bt136.2.2 bt143.1 bt143.2.1 bt143.2.2))) else (if t154 ≥ 0 then (if t155 ≥ 0 then (puncheonlaw09_FracOrder.j0 k t132 t154 (decide (t156 < 0)) bt136.1 bt136.2.1 bt136.2.2 bt143.1 bt143.2.1 bt143.2.2) else (puncheonlaw09_FracOrder.j0 k t132 t154 false bt136.1 bt136.2.1 bt136.2.2 bt143.1 bt143.2.1 bt143.2.2)) else (puncheonlaw09_FracOrder.j0 k t132 t154 false bt136.1 bt136.2.1 bt136.2.2 bt143.1 bt143.2.1 bt143.2.2))) else (if t154 ≥ 0 then (if t155 ≥ 0 then (puncheonlaw09_FracOrder.j0 k t132 t154 (decide (t156 < 0)) bt136.1 bt136.2.1 bt136.2.2 bt143.1 bt143.2.1 bt143.2.2) else (puncheonlaw09_FracOrder.j0 k t132 t154 false bt136.1 bt136.2.1 bt136.2.2 bt143.1 bt143.2.1 bt143.2.2)) else (puncheonlaw09_FracOrder.j0 k t132 t154 false bt136.1 bt136.2.1 bt136.2.2 bt143.1 bt143.2.1 bt143.2.2))))))))))))) = some r := h
  clear h
  replace H := Option.bind_eq_some_iff.mp H
  obtain ⟨t132, A100, H⟩ := H
  replace H : ((puncheonref09_Made.f a0 a1 a2).bind fun bt133 => ((puncheonlaw09_key.f bt133.1 bt133.2.1 bt133.2.2).bind fun bt136 => ((puncheonref09_Made.f a3 a4 a5).bind fun bt140 => ((puncheonlaw09_key.f bt140.1 bt140.2.1 bt140.2.2).bind fun bt143 => ((puncheonref09_Made.f a6 a7 a8).bind fun bt147 => ((puncheonlaw09_key.f bt147.1 bt147.2.1 bt147.2.2).bind fun bt150 => ((frac_Cmp.f bt136.1 bt136.2.1 bt136.2.2 bt143.1 bt143.2.1 bt143.2.2).bind fun t154 => ((frac_Cmp.f bt143.1 bt143.2.1 bt143.2.2 bt150.1 bt150.2.1 bt150.2.2).bind fun t155 => ((frac_Cmp.f bt136.1 bt136.2.1 bt136.2.2 bt150.1 bt150.2.1 bt150.2.2).bind fun t156 => (if t154 ≤ 0 then (if t155 ≤ 0 then (if t156 > 0 then (puncheonlaw09_FracOrder.j0 k t132 t154 true bt136.1 bt136.2.1 bt136.2.2 bt143.1 bt143.2.1 bt143.2.2) else (if t154 ≥ 0 then (if t155 ≥ 0 then (puncheonlaw09_FracOrder.j0 k t132 t154 (decide (t156 < 0)) bt136.1 bt136.2.1 bt136.2.2 bt143.1 bt143.2.1 bt143.2.2) else (puncheonlaw09_FracOrder.j0 k t132 t154 false bt136.1 bt136.2.1 bt136.2.2 bt143.1 bt143.2.1 bt143.2.2)) else (puncheonlaw09_FracOrder.j0 k t132 t154 false bt136.1 bt136.2.1 bt136.2.2 bt143.1 bt143.2.1 bt143.2.2))) else (if t154 ≥ 0 then (if t155 ≥ 0 then (puncheonlaw09_FracOrder.j0 k t132 t154 (decide (t156 < 0)) bt136.1 bt136.2.1 bt136.2.2 bt143.1 bt143.2.1 bt143.2.2) else (puncheonlaw09_FracOrder.j0 k t132 t154 false bt136.1 bt136.2.1 bt136.2.2 bt143.1 bt143.2.1 bt143.2.2)) else (puncheonlaw09_FracOrder.j0 k t132 t154 false bt136.1 bt136.2.1 bt136.2.2 bt143.1 bt143.2.1 bt143.2.2))) else (if t154 ≥ 0 then (if t155 ≥ 0 then (puncheonlaw09_FracOrder.j0 k t132 t154 (decide (t156 < 0)) bt136.1 bt136.2.1 bt136.2.2 bt143.1 bt143.2.1 bt143.2.2) else (puncheonlaw09_FracOrder.j0 k t132 t154 false bt136.1 bt136.2.1 bt136.2.2 bt143.1 bt143.2.1 bt143.2.2)) else (puncheonlaw09_FracOrder.j0 k t132 t154 false bt136.1 bt136.2.1 bt136.2.2 bt143.1 bt143.2.1 bt143.2.2)))))))))))) = some r := H
  have A10 := Aside0.mk A100
  clear A100
  replace H := Option.bind_eq_some_iff.mp H
  obtain ⟨⟨t133, t134, t135⟩, A110, H⟩ := H
  replace H : ((puncheonlaw09_key.f t133 t134 t135).bind fun bt136 => ((puncheonref09_Made.f a3 a4 a5).bind fun bt140 => ((puncheonlaw09_key.f bt140.1 bt140.2.1 bt140.2.2).bind fun bt143 => ((puncheonref09_Made.f a6 a7 a8).bind fun bt147 => ((puncheonlaw09_key.f bt147.1 bt147.2.1 bt147.2.2).bind fun bt150 => ((frac_Cmp.f bt136.1 bt136.2.1 bt136.2.2 bt143.1 bt143.2.1 bt143.2.2).bind fun t154 => ((frac_Cmp.f bt143.1 bt143.2.1 bt143.2.2 bt150.1 bt150.2.1 bt150.2.2).bind fun t155 => ((frac_Cmp.f bt136.1 bt136.2.1 bt136.2.2 bt150.1 bt150.2.1 bt150.2.2).bind fun t156 => (if t154 ≤ 0 then (if t155 ≤ 0 then (if t156 > 0 then (puncheonlaw09_FracOrder.j0 k t132 t154 true bt136.1 bt136.2.1 bt136.2.2 bt143.1 bt143.2.1 bt143.2.2) else (if t154 ≥ 0 then (if t155 ≥ 0 then (puncheonlaw09_FracOrder.j0 k t132 t154 (decide (t156 < 0)) bt136.1 bt136.2.1 bt136.2.2 bt143.1 bt143.2.1 bt143.2.2) else (puncheonlaw09_FracOrder.j0 k t132 t154 false bt136.1 bt136.2.1 bt136.2.2 bt143.1 bt143.2.1 bt143.2.2)) else (puncheonlaw09_FracOrder.j0 k t132 t154 false bt136.1 bt136.2.1 bt136.2.2 bt143.1 bt143.2.1 bt143.2.2))) else (if t154 ≥ 0 then (if t155 ≥ 0 then (puncheonlaw09_FracOrder.j0 k t132 t154 (decide (t156 < 0)) bt136.1 bt136.2.1 bt136.2.2 bt143.1 bt143.2.1 bt143.2.2) else (puncheonlaw09_FracOrder.j0 k t132 t154 false bt136.1 bt136.2.1 bt136.2.2 bt143.1 bt143.2.1 bt143.2.2)) else (puncheonlaw09_FracOrder.j0 k t132 t154 false bt136.1 bt136.2.1 bt136.2.2 bt143.1 bt143.2.1 bt143.2.2))) else (if t154 ≥ 0 then (if t155 ≥ 0 then (puncheonlaw09_FracOrder.j0 k t132 t154 (decide (t156 < 0)) bt136.1 bt136.2.1 bt136.2.2 bt143.1 bt143.2.1 bt143.2.2) else (puncheonlaw09_FracOrder.j0 k t132 t154 false bt136.1 bt136.2.1 bt136.2.2 bt143.1 bt143.2.1 bt143.2.2)) else (puncheonlaw09_FracOrder.j0 k t132 t154 false bt136.1 bt136.2.1 bt136.2.2 bt143.1 bt143.2.1 bt143.2.2))))))))))) = some r := H
  have A11 := Aside0.mk A110
  clear A110
  replace H := Option.bind_eq_some_iff.mp H
  obtain ⟨⟨t136, t137, t138⟩, A120, H⟩ := H
  replace H : ((puncheonref09_Made.f a3 a4 a5).bind fun bt140 => ((puncheonlaw09_key.f bt140.1 bt140.2.1 bt140.2.2).bind fun bt143 => ((puncheonref09_Made.f a6 a7 a8).bind fun bt147 => ((puncheonlaw09_key.f bt147.1 bt147.2.1 bt147.2.2).bind fun bt150 => ((frac_Cmp.f t136 t137 t138 bt143.1 bt143.2.1 bt143.2.2).bind fun t154 => ((frac_Cmp.f bt143.1 bt143.2.1 bt143.2.2 bt150.1 bt150.2.1 bt150.2.2).bind fun t155 => ((frac_Cmp.f t136 t137 t138 bt150.1 bt150.2.1 bt150.2.2).bind fun t156 => (if t154 ≤ 0 then (if t155 ≤ 0 then (if t156 > 0 then (puncheonlaw09_FracOrder.j0 k t132 t154 true t136 t137 t138 bt143.1 bt143.2.1 bt143.2.2) else (if t154 ≥ 0 then (if t155 ≥ 0 then (puncheonlaw09_FracOrder.j0 k t132 t154 (decide (t156 < 0)) t136 t137 t138 bt143.1 bt143.2.1 bt143.2.2) else (puncheonlaw09_FracOrder.j0 k t132 t154 false t136 t137 t138 bt143.1 bt143.2.1 bt143.2.2)) else (puncheonlaw09_FracOrder.j0 k t132 t154 false t136 t137 t138 bt143.1 bt143.2.1 bt143.2.2))) else (if t154 ≥ 0 then (if t155 ≥ 0 then (puncheonlaw09_FracOrder.j0 k t132 t154 (decide (t156 < 0)) t136 t137 t138 bt143.1 bt143.2.1 bt143.2.2) else (puncheonlaw09_FracOrder.j0 k t132 t154 false t136 t137 t138 bt143.1 bt143.2.1 bt143.2.2)) else (puncheonlaw09_FracOrder.j0 k t132 t154 false t136 t137 t138 bt143.1 bt143.2.1 bt143.2.2))) else (if t154 ≥ 0 then (if t155 ≥ 0 then (puncheonlaw09_FracOrder.j0 k t132 t154 (decide (t156 < 0)) t136 t137 t138 bt143.1 bt143.2.1 bt143.2.2) else (puncheonlaw09_FracOrder.j0 k t132 t154 false t136 t137 t138 bt143.1 bt143.2.1 bt143.2.2)) else (puncheonlaw09_FracOrder.j0 k t132 t154 false t136 t137 t138 bt143.1 bt143.2.1 bt143.2.2)))))))))) = some r := H
  have A12 := Aside0.mk A120
  clear A120
  replace H := Option.bind_eq_some_iff.mp H
  obtain ⟨⟨t140, t141, t142⟩, A130, H⟩ := H
  replace H : ((puncheonlaw09_key.f t140 t141 t142).bind fun bt143 => ((puncheonref09_Made.f a6 a7 a8).bind fun bt147 => ((puncheonlaw09_key.f bt147.1 bt147.2.1 bt147.2.2).bind fun bt150 => ((frac_Cmp.f t136 t137 t138 bt143.1 bt143.2.1 bt143.2.2).bind fun t154 => ((frac_Cmp.f bt143.1 bt143.2.1 bt143.2.2 bt150.1 bt150.2.1 bt150.2.2).bind fun t155 => ((frac_Cmp.f t136 t137 t138 bt150.1 bt150.2.1 bt150.2.2).bind fun t156 => (if t154 ≤ 0 then (if t155 ≤ 0 then (if t156 > 0 then (puncheonlaw09_FracOrder.j0 k t132 t154 true t136 t137 t138 bt143.1 bt143.2.1 bt143.2.2) else (if t154 ≥ 0 then (if t155 ≥ 0 then (puncheonlaw09_FracOrder.j0 k t132 t154 (decide (t156 < 0)) t136 t137 t138 bt143.1 bt143.2.1 bt143.2.2) else (puncheonlaw09_FracOrder.j0 k t132 t154 false t136 t137 t138 bt143.1 bt143.2.1 bt143.2.2)) else (puncheonlaw09_FracOrder.j0 k t132 t154 false t136 t137 t138 bt143.1 bt143.2.1 bt143.2.2))) else (if t154 ≥ 0 then (if t155 ≥ 0 then (puncheonlaw09_FracOrder.j0 k t132 t154 (decide (t156 < 0)) t136 t137 t138 bt143.1 bt143.2.1 bt143.2.2) else (puncheonlaw09_FracOrder.j0 k t132 t154 false t136 t137 t138 bt143.1 bt143.2.1 bt143.2.2)) else (puncheonlaw09_FracOrder.j0 k t132 t154 false t136 t137 t138 bt143.1 bt143.2.1 bt143.2.2))) else (if t154 ≥ 0 then (if t155 ≥ 0 then (puncheonlaw09_FracOrder.j0 k t132 t154 (decide (t156 < 0)) t136 t137 t138 bt143.1 bt143.2.1 bt143.2.2) else (puncheonlaw09_FracOrder.j0 k t132 t154 false t136 t137 t138 bt143.1 bt143.2.1 bt143.2.2)) else (puncheonlaw09_FracOrder.j0 k t132 t154 false t136 t137 t138 bt143.1 bt143.2.1 bt143.2.2))))))))) = some r := H
  have A13 := Aside0.mk A130
  clear A130
  replace H := Option.bind_eq_some_iff.mp H
  obtain ⟨⟨t143, t144, t145⟩, A140, H⟩ := H
  replace H : ((puncheonref09_Made.f a6 a7 a8).bind fun bt147 => ((puncheonlaw09_key.f bt147.1 bt147.2.1 bt147.2.2).bind fun bt150 => ((frac_Cmp.f t136 t137 t138 t143 t144 t145).bind fun t154 => ((frac_Cmp.f t143 t144 t145 bt150.1 bt150.2.1 bt150.2.2).bind fun t155 => ((frac_Cmp.f t136 t137 t138 bt150.1 bt150.2.1 bt150.2.2).bind fun t156 => (if t154 ≤ 0 then (if t155 ≤ 0 then (if t156 > 0 then (puncheonlaw09_FracOrder.j0 k t132 t154 true t136 t137 t138 t143 t144 t145) else (if t154 ≥ 0 then (if t155 ≥ 0 then (puncheonlaw09_FracOrder.j0 k t132 t154 (decide (t156 < 0)) t136 t137 t138 t143 t144 t145) else (puncheonlaw09_FracOrder.j0 k t132 t154 false t136 t137 t138 t143 t144 t145)) else (puncheonlaw09_FracOrder.j0 k t132 t154 false t136 t137 t138 t143 t144 t145))) else (if t154 ≥ 0 then (if t155 ≥ 0 then (puncheonlaw09_FracOrder.j0 k t132 t154 (decide (t156 < 0)) t136 t137 t138 t143 t144 t145) else (puncheonlaw09_FracOrder.j0 k t132 t154 false t136 t137 t138 t143 t144 t145)) else (puncheonlaw09_FracOrder.j0 k t132 t154 false t136 t137 t138 t143 t144 t145))) else (if t154 ≥ 0 then (if t155 ≥ 0 then (puncheonlaw09_FracOrder.j0 k t132 t154 (decide (t156 < 0)) t136 t137 t138 t143 t144 t145) else (puncheonlaw09_FracOrder.j0 k t132 t154 false t136 t137 t138 t143 t144 t145)) else (puncheonlaw09_FracOrder.j0 k t132 t154 false t136 t137 t138 t143 t144 t145)))))))) = some r := H
  have A14 := Aside0.mk A140
  clear A140
  replace H := Option.bind_eq_some_iff.mp H
  obtain ⟨⟨t147, t148, t149⟩, A150, H⟩ := H
  replace H : ((puncheonlaw09_key.f t147 t148 t149).bind fun bt150 => ((frac_Cmp.f t136 t137 t138 t143 t144 t145).bind fun t154 => ((frac_Cmp.f t143 t144 t145 bt150.1 bt150.2.1 bt150.2.2).bind fun t155 => ((frac_Cmp.f t136 t137 t138 bt150.1 bt150.2.1 bt150.2.2).bind fun t156 => (if t154 ≤ 0 then (if t155 ≤ 0 then (if t156 > 0 then (puncheonlaw09_FracOrder.j0 k t132 t154 true t136 t137 t138 t143 t144 t145) else (if t154 ≥ 0 then (if t155 ≥ 0 then (puncheonlaw09_FracOrder.j0 k t132 t154 (decide (t156 < 0)) t136 t137 t138 t143 t144 t145) else (puncheonlaw09_FracOrder.j0 k t132 t154 false t136 t137 t138 t143 t144 t145)) else (puncheonlaw09_FracOrder.j0 k t132 t154 false t136 t137 t138 t143 t144 t145))) else (if t154 ≥ 0 then (if t155 ≥ 0 then (puncheonlaw09_FracOrder.j0 k t132 t154 (decide (t156 < 0)) t136 t137 t138 t143 t144 t145) else (puncheonlaw09_FracOrder.j0 k t132 t154 false t136 t137 t138 t143 t144 t145)) else (puncheonlaw09_FracOrder.j0 k t132 t154 false t136 t137 t138 t143 t144 t145))) else (if t154 ≥ 0 then (if t155 ≥ 0 then (puncheonlaw09_FracOrder.j0 k t132 t154 (decide (t156 < 0)) t136 t137 t138 t143 t144 t145) else (puncheonlaw09_FracOrder.j0 k t132 t154 false t136 t137 t138 t143 t144 t145)) else (puncheonlaw09_FracOrder.j0 k t132 t154 false t136 t137 t138 t143 t144 t145))))))) = some r := H
  have A15 := Aside0.mk A150
  clear A150
  replace H := Option.bind_eq_some_iff.mp H
  obtain ⟨⟨t150, t151, t152⟩, A160, H⟩ := H
  replace H : ((frac_Cmp.f t136 t137 t138 t143 t144 t145).bind fun t154 => ((frac_Cmp.f t143 t144 t145 t150 t151 t152).bind fun t155 => ((frac_Cmp.f t136 t137 t138 t150 t151 t152).bind fun t156 => (if t154 ≤ 0 then (if t155 ≤ 0 then (if t156 > 0 then (puncheonlaw09_FracOrder.j0 k t132 t154 true t136 t137 t138 t143 t144 t145) else (if t154 ≥ 0 then (if t155 ≥ 0 then (puncheonlaw09_FracOrder.j0 k t132 t154 (decide (t156 < 0)) t136 t137 t138 t143 t144 t145) else (puncheonlaw09_FracOrder.j0 k t132 t154 false t136 t137 t138 t143 t144 t145)) else (puncheonlaw09_FracOrder.j0 k t132 t154 false t136 t137 t138 t143 t144 t145))) else (if t154 ≥ 0 then (if t155 ≥ 0 then (puncheonlaw09_FracOrder.j0 k t132 t154 (decide (t156 < 0)) t136 t137 t138 t143 t144 t145) else (puncheonlaw09_FracOrder.j0 k t132 t154 false t136 t137 t138 t143 t144 t145)) else (puncheonlaw09_FracOrder.j0 k t132 t154 false t136 t137 t138 t143 t144 t145))) else (if t154 ≥ 0 then (if t155 ≥ 0 then (puncheonlaw09_FracOrder.j0 k t132 t154 (decide (t156 < 0)) t136 t137 t138 t143 t144 t145) else (puncheonlaw09_FracOrder.j0 k t132 t154 false t136 t137 t138 t143 t144 t145)) else (puncheonlaw09_FracOrder.j0 k t132 t154 false t136 t137 t138 t143 t144 t145)))))) = some r := H
  have A16 := Aside0.mk A160
  clear A160
  replace H := Option.bind_eq_some_iff.mp H
  obtain ⟨t154, A170, H⟩ := H
  replace H : ((frac_Cmp.f t143 t144 t145 t150 t151 t152).bind fun t155 => ((frac_Cmp.f t136 t137 t138 t150 t151 t152).bind fun t156 => (if t154 ≤ 0 then (if t155 ≤ 0 then (if t156 > 0 then (puncheonlaw09_FracOrder.j0 k t132 t154 true t136 t137 t138 t143 t144 t145) else (if t154 ≥ 0 then (if t155 ≥ 0 then (puncheonlaw09_FracOrder.j0 k t132 t154 (decide (t156 < 0)) t136 t137 t138 t143 t144 t145) else (puncheonlaw09_FracOrder.j0 k t132 t154 false t136 t137 t138 t143 t144 t145)) else (puncheonlaw09_FracOrder.j0 k t132 t154 false t136 t137 t138 t143 t144 t145))) else (if t154 ≥ 0 then (if t155 ≥ 0 then (puncheonlaw09_FracOrder.j0 k t132 t154 (decide (t156 < 0)) t136 t137 t138 t143 t144 t145) else (puncheonlaw09_FracOrder.j0 k t132 t154 false t136 t137 t138 t143 t144 t145)) else (puncheonlaw09_FracOrder.j0 k t132 t154 false t136 t137 t138 t143 t144 t145))) else (if t154 ≥ 0 then (if t155 ≥ 0 then (puncheonlaw09_FracOrder.j0 k t132 t154 (decide (t156 < 0)) t136 t137 t138 t143 t144 t145) else (puncheonlaw09_FracOrder.j0 k t132 t154 false t136 t137 t138 t143 t144 t145)) else (puncheonlaw09_FracOrder.j0 k t132 t154 false t136 t137 t138 t143 t144 t145))))) = some r := H
  have A17 := Aside0.mk A170
  clear A170
  replace H := Option.bind_eq_some_iff.mp H
  obtain ⟨t155, A180, H⟩ := H
  replace H : ((frac_Cmp.f t136 t137 t138 t150 t151 t152).bind fun t156 => (if t154 ≤ 0 then (if t155 ≤ 0 then (if t156 > 0 then (puncheonlaw09_FracOrder.j0 k t132 t154 true t136 t137 t138 t143 t144 t145) else (if t154 ≥ 0 then (if t155 ≥ 0 then (puncheonlaw09_FracOrder.j0 k t132 t154 (decide (t156 < 0)) t136 t137 t138 t143 t144 t145) else (puncheonlaw09_FracOrder.j0 k t132 t154 false t136 t137 t138 t143 t144 t145)) else (puncheonlaw09_FracOrder.j0 k t132 t154 false t136 t137 t138 t143 t144 t145))) else (if t154 ≥ 0 then (if t155 ≥ 0 then (puncheonlaw09_FracOrder.j0 k t132 t154 (decide (t156 < 0)) t136 t137 t138 t143 t144 t145) else (puncheonlaw09_FracOrder.j0 k t132 t154 false t136 t137 t138 t143 t144 t145)) else (puncheonlaw09_FracOrder.j0 k t132 t154 false t136 t137 t138 t143 t144 t145))) else (if t154 ≥ 0 then (if t155 ≥ 0 then (puncheonlaw09_FracOrder.j0 k t132 t154 (decide (t156 < 0)) t136 t137 t138 t143 t144 t145) else (puncheonlaw09_FracOrder.j0 k t132 t154 false t136 t137 t138 t143 t144 t145)) else (puncheonlaw09_FracOrder.j0 k t132 t154 false t136 t137 t138 t143 t144 t145)))) = some r := H
  have A18 := Aside0.mk A180
  clear A180
  replace H := Option.bind_eq_some_iff.mp H
  obtain ⟨t156, A190, H⟩ := H
  replace H : (if t154 ≤ 0 then (if t155 ≤ 0 then (if t156 > 0 then (puncheonlaw09_FracOrder.j0 k t132 t154 true t136 t137 t138 t143 t144 t145) else (if t154 ≥ 0 then (if t155 ≥ 0 then (puncheonlaw09_FracOrder.j0 k t132 t154 (decide (t156 < 0)) t136 t137 t138 t143 t144 t145) else (puncheonlaw09_FracOrder.j0 k t132 t154 false t136 t137 t138 t143 t144 t145)) else (puncheonlaw09_FracOrder.j0 k t132 t154 false t136 t137 t138 t143 t144 t145))) else (if t154 ≥ 0 then (if t155 ≥ 0 then (puncheonlaw09_FracOrder.j0 k t132 t154 (decide (t156 < 0)) t136 t137 t138 t143 t144 t145) else (puncheonlaw09_FracOrder.j0 k t132 t154 false t136 t137 t138 t143 t144 t145)) else (puncheonlaw09_FracOrder.j0 k t132 t154 false t136 t137 t138 t143 t144 t145))) else (if t154 ≥ 0 then (if t155 ≥ 0 then (puncheonlaw09_FracOrder.j0 k t132 t154 (decide (t156 < 0)) t136 t137 t138 t143 t144 t145) else (puncheonlaw09_FracOrder.j0 k t132 t154 false t136 t137 t138 t143 t144 t145)) else (puncheonlaw09_FracOrder.j0 k t132 t154 false t136 t137 t138 t143 t144 t145))) = some r := H
  have A19 := Aside0.mk A190
  clear A190
  have HC20 := Aside0.mk H
  clear H
  go_enter Try.func4, Try.ntmps4
  go_upto_region 8 with (first | ((with_reducible refine gate_callee (f := 8) rfl ?_); refine goesL_ (some 26) rfl rfl Try.func8 (by kernel_rfl) rfl #[] rfl (by (try simp only [List.map_toArray, List.map_cons, List.map_nil]); first | done | rfl | (simp only [List.length_drop, List.length_take]; rfl)) ?_; (with_reducible refine (puncheonlaw09_awake.calls  t132 _ A10.out).mono ?_); rintro e w21 ⟨rfl, hb⟩; refine ⟨_, rfl, ?_⟩; have n0_ := Aside0.mk (below_step (by repeat (first | (with_reducible first | exact HB.out | apply below_alloc | apply pw_below_drewN | apply below_drew1) | exact HB.out)) hb); clear HB; have HB := n0_; clear n0_; (try clear hb); (try clear hb2); (try clear hk); (try clear hi)) | ((with_reducible refine gate_callee (f := 14) rfl ?_); refine goesL_ (some 30) rfl rfl Try.func14 (by kernel_rfl) rfl #[.int .u16 a0, .int .u16 a1, .int .u8 a2] rfl (by (try simp only [List.map_toArray, List.map_cons, List.map_nil]); first | done | rfl | (simp only [List.length_drop, List.length_take]; rfl)) ?_; (with_reducible refine (puncheonref09_Made.calls a0 a1 a2 t133 t134 t135 _ A11.out).mono ?_); rintro e w22 ⟨rfl, hb⟩; refine ⟨_, rfl, ?_⟩; have n0_ := Aside0.mk (below_step (by repeat (first | (with_reducible first | exact HB.out | apply below_alloc | apply pw_below_drewN | apply below_drew1) | exact HB.out)) hb); clear HB; have HB := n0_; clear n0_; (try clear hb); (try clear hb2); (try clear hk); (try clear hi)) | ((with_reducible refine gate_callee (f := 10) rfl ?_); refine goesL_ (some 31) rfl rfl Try.func10 (by kernel_rfl) rfl #[.agg #[.int .i64 t133, .int .i64 t134, .int .i64 t135]] rfl (by (try simp only [List.map_toArray, List.map_cons, List.map_nil]); first | done | rfl | (simp only [List.length_drop, List.length_take]; rfl)) ?_; (with_reducible refine (puncheonlaw09_key.calls t133 t134 t135 t136 t137 t138 _ A12.out).mono ?_); rintro e w23 ⟨rfl, hb⟩; refine ⟨_, rfl, ?_⟩; have n0_ := Aside0.mk (below_step (by repeat (first | (with_reducible first | exact HB.out | apply below_alloc | apply pw_below_drewN | apply below_drew1) | exact HB.out)) hb); clear HB; have HB := n0_; clear n0_; (try clear hb); (try clear hb2); (try clear hk); (try clear hi)) | ((with_reducible refine gate_dst (N := 20) rfl ?_); refine box_event ?hg (N := 20) ?hd (cs := #[.int .i64 0, .int .i64 0, .int .i64 0]) (t := 26) ?hr ?_; (case hd => rfl); (case hg => rfl); (case hr => first | (go_simp; done) | (go_simp; rfl)); intro gb139 hg w24 hbox hb; have n0_ := Aside0.mk (below_step (by repeat (first | (with_reducible first | exact HB.out | apply below_alloc | apply pw_below_drewN | apply below_drew1) | exact HB.out)) hb); have n1_ := Aside0.mk (hbox); have n2_ := Aside0.mk ((by rw [hg]; exact (below_size (by repeat (first | (with_reducible first | exact HB.out | apply below_alloc | apply pw_below_drewN | apply below_drew1) | exact HB.out))) : w.heap.size ≤ gb139)); have n3_ := Aside0.mk ((by rw [hg]; exact (below_size (by repeat (first | (with_reducible first | exact HB.out | apply below_alloc | apply pw_below_drewN | apply below_drew1) | exact HB.out))) : w.heap.size ≤ gb139)); clear HB; have HB := n0_; have BK139 := n1_; have GW139 := n2_; have GE139 := n3_; clear n0_ n1_ n2_ n3_; clear hb hbox hg; have hcz25_0 : w24.cell? ⟨gb139, 0, none⟩ = some (.int .i64 0) := (blk_cell BK139.out 0).trans rfl; have hcz25_1 : w24.cell? ⟨gb139, 1, none⟩ = some (.int .i64 0) := (blk_cell BK139.out 1).trans rfl; have hcz25_2 : w24.cell? ⟨gb139, 2, none⟩ = some (.int .i64 0) := (blk_cell BK139.out 2).trans rfl; have hfz25_0 := blk_frozen BK139.out 0; have hfz25_1 := blk_frozen BK139.out 1; have hfz25_2 := blk_frozen BK139.out 2) | ((with_reducible refine gate_callee (f := 14) rfl ?_); refine goesL_ (some 35) rfl rfl Try.func14 (by kernel_rfl) rfl #[.int .u16 a3, .int .u16 a4, .int .u8 a5] rfl (by (try simp only [List.map_toArray, List.map_cons, List.map_nil]); first | done | rfl | (simp only [List.length_drop, List.length_take]; rfl)) ?_; (with_reducible refine (puncheonref09_Made.calls a3 a4 a5 t140 t141 t142 _ A13.out).mono ?_); rintro e w26 ⟨rfl, hb⟩; refine ⟨_, rfl, ?_⟩; have n0_ := Aside0.mk (blk_below (g := gb139) (o := .cells #[.int .i64 t136, .int .i64 t137, .int .i64 t138] 26 (0, 0)) (by (with_reducible repeat (first | refine blk_drewN ?_ _ | refine blk_drew ?_ | refine blk_alloc ?_ _)); refine blk_put (cs := #[.int .i64 t136, .int .i64 t137, .int .i64 0]) ?_ 2 _ rfl; (with_reducible repeat (first | refine blk_drewN ?_ _ | refine blk_drew ?_ | refine blk_alloc ?_ _)); refine blk_put (cs := #[.int .i64 t136, .int .i64 0, .int .i64 0]) ?_ 1 _ rfl; (with_reducible repeat (first | refine blk_drewN ?_ _ | refine blk_drew ?_ | refine blk_alloc ?_ _)); refine blk_put (cs := #[.int .i64 0, .int .i64 0, .int .i64 0]) ?_ 0 _ rfl; (with_reducible repeat (first | refine blk_drewN ?_ _ | refine blk_drew ?_ | refine blk_alloc ?_ _)); exact BK139.out) hb); have n1_ := Aside0.mk (below_step (by repeat (first | (with_reducible first | exact HB.out | apply below_alloc | apply pw_below_drewN | apply below_drew1 | refine below_set ?_ GE139.out) | exact HB.out)) hb); clear BK139; clear HB; have BK139 := n0_; have HB := n1_; clear n0_ n1_; (try clear hb); (try clear hb2); (try clear hk); (try clear hi)) | ((with_reducible refine gate_callee (f := 10) rfl ?_); refine goesL_ (some 36) rfl rfl Try.func10 (by kernel_rfl) rfl #[.agg #[.int .i64 t140, .int .i64 t141, .int .i64 t142]] rfl (by (try simp only [List.map_toArray, List.map_cons, List.map_nil]); first | done | rfl | (simp only [List.length_drop, List.length_take]; rfl)) ?_; (with_reducible refine (puncheonlaw09_key.calls t140 t141 t142 t143 t144 t145 _ A14.out).mono ?_); rintro e w27 ⟨rfl, hb⟩; refine ⟨_, rfl, ?_⟩; have n0_ := Aside0.mk (blk_below (g := gb139) (o := .cells #[.int .i64 t136, .int .i64 t137, .int .i64 t138] 26 (0, 0)) (by (with_reducible repeat (first | refine blk_drewN ?_ _ | refine blk_drew ?_ | refine blk_alloc ?_ _)); exact BK139.out) hb); have n1_ := Aside0.mk (below_step (by repeat (first | (with_reducible first | exact HB.out | apply below_alloc | apply pw_below_drewN | apply below_drew1 | refine below_set ?_ GE139.out) | exact HB.out)) hb); clear BK139; clear HB; have BK139 := n0_; have HB := n1_; clear n0_ n1_; (try clear hb); (try clear hb2); (try clear hk); (try clear hi)) | ((with_reducible refine gate_dst (N := 21) rfl ?_); refine box_event ?hg (N := 21) ?hd (cs := #[.int .i64 0, .int .i64 0, .int .i64 0]) (t := 26) ?hr ?_; (case hd => rfl); (case hg => rfl); (case hr => first | (go_simp; done) | (go_simp; rfl)); intro gb146 hg w28 hbox hb; have n0_ := Aside0.mk (blk_below (g := gb139) (o := .cells #[.int .i64 t136, .int .i64 t137, .int .i64 t138] 26 (0, 0)) (by (with_reducible repeat (first | refine blk_drewN ?_ _ | refine blk_drew ?_ | refine blk_alloc ?_ _)); exact BK139.out) hb); have n1_ := Aside0.mk (below_step (by repeat (first | (with_reducible first | exact HB.out | apply below_alloc | apply pw_below_drewN | apply below_drew1 | refine below_set ?_ GE139.out) | exact HB.out)) hb); have n2_ := Aside0.mk (hbox); have n3_ := Aside0.mk ((by rw [hg]; exact (below_size (by repeat (first | (with_reducible first | exact HB.out | apply below_alloc | apply pw_below_drewN | apply below_drew1 | refine below_set ?_ GE139.out) | exact HB.out))) : w.heap.size ≤ gb146)); have n4_ := Aside0.mk ((by rw [hg]; exact (below_size (by repeat (first | (with_reducible first | exact HB.out | apply below_alloc | apply pw_below_drewN | apply below_drew1 | refine below_set ?_ GE139.out) | exact HB.out))) : w.heap.size ≤ gb146)); have n5_ := Aside0.mk ((by rw [hg]; exact Nat.ne_of_lt (blk_lt (g := gb139) (o := .cells #[.int .i64 t136, .int .i64 t137, .int .i64 t138] 26 (0, 0)) (by (with_reducible repeat (first | refine blk_drewN ?_ _ | refine blk_drew ?_ | refine blk_alloc ?_ _)); exact BK139.out)) : gb139 ≠ gb146)); have n6_ := Aside0.mk ((by rw [hg]; exact Nat.ne_of_gt (blk_lt (g := gb139) (o := .cells #[.int .i64 t136, .int .i64 t137, .int .i64 t138] 26 (0, 0)) (by (with_reducible repeat (first | refine blk_drewN ?_ _ | refine blk_drew ?_ | refine blk_alloc ?_ _)); exact BK139.out)) : gb146 ≠ gb139)); clear BK139; clear HB; have BK139 := n0_; have HB := n1_; have BK146 := n2_; have GW146 := n3_; have GE146 := n4_; have NB139_146 := n5_; have NB146_139 := n6_; clear n0_ n1_ n2_ n3_ n4_ n5_ n6_; clear hb hbox hg; have hnb29 := NB146_139.out; have hnc29 := NB139_146.out; have hcz30_0 : w28.cell? ⟨gb146, 0, none⟩ = some (.int .i64 0) := (blk_cell BK146.out 0).trans rfl; have hcz30_1 : w28.cell? ⟨gb146, 1, none⟩ = some (.int .i64 0) := (blk_cell BK146.out 1).trans rfl; have hcz30_2 : w28.cell? ⟨gb146, 2, none⟩ = some (.int .i64 0) := (blk_cell BK146.out 2).trans rfl; have hfz30_0 := blk_frozen BK146.out 0; have hfz30_1 := blk_frozen BK146.out 1; have hfz30_2 := blk_frozen BK146.out 2) | ((with_reducible refine gate_callee (f := 14) rfl ?_); refine goesL_ (some 40) rfl rfl Try.func14 (by kernel_rfl) rfl #[.int .u16 a6, .int .u16 a7, .int .u8 a8] rfl (by (try simp only [List.map_toArray, List.map_cons, List.map_nil]); first | done | rfl | (simp only [List.length_drop, List.length_take]; rfl)) ?_; (with_reducible refine (puncheonref09_Made.calls a6 a7 a8 t147 t148 t149 _ A15.out).mono ?_); rintro e w31 ⟨rfl, hb⟩; refine ⟨_, rfl, ?_⟩; have n0_ := Aside0.mk (blk_below (g := gb139) (o := .cells #[.int .i64 t136, .int .i64 t137, .int .i64 t138] 26 (0, 0)) (by (with_reducible repeat (first | refine blk_drewN ?_ _ | refine blk_drew ?_ | refine blk_alloc ?_ _)); refine blk_far ?_ NB139_146.out _; (with_reducible repeat (first | refine blk_drewN ?_ _ | refine blk_drew ?_ | refine blk_alloc ?_ _)); refine blk_far ?_ NB139_146.out _; (with_reducible repeat (first | refine blk_drewN ?_ _ | refine blk_drew ?_ | refine blk_alloc ?_ _)); refine blk_far ?_ NB139_146.out _; (with_reducible repeat (first | refine blk_drewN ?_ _ | refine blk_drew ?_ | refine blk_alloc ?_ _)); exact BK139.out) hb); have n1_ := Aside0.mk (blk_below (g := gb146) (o := .cells #[.int .i64 t143, .int .i64 t144, .int .i64 t145] 26 (0, 0)) (by (with_reducible repeat (first | refine blk_drewN ?_ _ | refine blk_drew ?_ | refine blk_alloc ?_ _)); refine blk_put (cs := #[.int .i64 t143, .int .i64 t144, .int .i64 0]) ?_ 2 _ rfl; (with_reducible repeat (first | refine blk_drewN ?_ _ | refine blk_drew ?_ | refine blk_alloc ?_ _)); refine blk_put (cs := #[.int .i64 t143, .int .i64 0, .int .i64 0]) ?_ 1 _ rfl; (with_reducible repeat (first | refine blk_drewN ?_ _ | refine blk_drew ?_ | refine blk_alloc ?_ _)); refine blk_put (cs := #[.int .i64 0, .int .i64 0, .int .i64 0]) ?_ 0 _ rfl; (with_reducible repeat (first | refine blk_drewN ?_ _ | refine blk_drew ?_ | refine blk_alloc ?_ _)); exact BK146.out) hb); have n2_ := Aside0.mk (below_step (by repeat (first | (with_reducible first | exact HB.out | apply below_alloc | apply pw_below_drewN | apply below_drew1 | refine below_set ?_ GE139.out | refine below_set ?_ GE146.out) | exact HB.out)) hb); clear BK139; clear BK146; clear HB; have BK139 := n0_; have BK146 := n1_; have HB := n2_; clear n0_ n1_ n2_; (try clear hb); (try clear hb2); (try clear hk); (try clear hi)) | ((with_reducible refine gate_callee (f := 10) rfl ?_); refine goesL_ (some 41) rfl rfl Try.func10 (by kernel_rfl) rfl #[.agg #[.int .i64 t147, .int .i64 t148, .int .i64 t149]] rfl (by (try simp only [List.map_toArray, List.map_cons, List.map_nil]); first | done | rfl | (simp only [List.length_drop, List.length_take]; rfl)) ?_; (with_reducible refine (puncheonlaw09_key.calls t147 t148 t149 t150 t151 t152 _ A16.out).mono ?_); rintro e w32 ⟨rfl, hb⟩; refine ⟨_, rfl, ?_⟩; have n0_ := Aside0.mk (blk_below (g := gb139) (o := .cells #[.int .i64 t136, .int .i64 t137, .int .i64 t138] 26 (0, 0)) (by (with_reducible repeat (first | refine blk_drewN ?_ _ | refine blk_drew ?_ | refine blk_alloc ?_ _)); exact BK139.out) hb); have n1_ := Aside0.mk (blk_below (g := gb146) (o := .cells #[.int .i64 t143, .int .i64 t144, .int .i64 t145] 26 (0, 0)) (by (with_reducible repeat (first | refine blk_drewN ?_ _ | refine blk_drew ?_ | refine blk_alloc ?_ _)); exact BK146.out) hb); have n2_ := Aside0.mk (below_step (by repeat (first | (with_reducible first | exact HB.out | apply below_alloc | apply pw_below_drewN | apply below_drew1 | refine below_set ?_ GE139.out | refine below_set ?_ GE146.out) | exact HB.out)) hb); clear BK139; clear BK146; clear HB; have BK139 := n0_; have BK146 := n1_; have HB := n2_; clear n0_ n1_ n2_; (try clear hb); (try clear hb2); (try clear hk); (try clear hi)) | ((with_reducible refine gate_dst (N := 22) rfl ?_); refine box_event ?hg (N := 22) ?hd (cs := #[.int .i64 0, .int .i64 0, .int .i64 0]) (t := 26) ?hr ?_; (case hd => rfl); (case hg => rfl); (case hr => first | (go_simp; done) | (go_simp; rfl)); intro gb153 hg w33 hbox hb; have n0_ := Aside0.mk (blk_below (g := gb139) (o := .cells #[.int .i64 t136, .int .i64 t137, .int .i64 t138] 26 (0, 0)) (by (with_reducible repeat (first | refine blk_drewN ?_ _ | refine blk_drew ?_ | refine blk_alloc ?_ _)); exact BK139.out) hb); have n1_ := Aside0.mk (blk_below (g := gb146) (o := .cells #[.int .i64 t143, .int .i64 t144, .int .i64 t145] 26 (0, 0)) (by (with_reducible repeat (first | refine blk_drewN ?_ _ | refine blk_drew ?_ | refine blk_alloc ?_ _)); exact BK146.out) hb); have n2_ := Aside0.mk (below_step (by repeat (first | (with_reducible first | exact HB.out | apply below_alloc | apply pw_below_drewN | apply below_drew1 | refine below_set ?_ GE139.out | refine below_set ?_ GE146.out) | exact HB.out)) hb); have n3_ := Aside0.mk (hbox); have n4_ := Aside0.mk ((by rw [hg]; exact (below_size (by repeat (first | (with_reducible first | exact HB.out | apply below_alloc | apply pw_below_drewN | apply below_drew1 | refine below_set ?_ GE139.out | refine below_set ?_ GE146.out) | exact HB.out))) : w.heap.size ≤ gb153)); have n5_ := Aside0.mk ((by rw [hg]; exact (below_size (by repeat (first | (with_reducible first | exact HB.out | apply below_alloc | apply pw_below_drewN | apply below_drew1 | refine below_set ?_ GE139.out | refine below_set ?_ GE146.out) | exact HB.out))) : w.heap.size ≤ gb153)); have n6_ := Aside0.mk ((by rw [hg]; exact Nat.ne_of_lt (blk_lt (g := gb139) (o := .cells #[.int .i64 t136, .int .i64 t137, .int .i64 t138] 26 (0, 0)) (by (with_reducible repeat (first | refine blk_drewN ?_ _ | refine blk_drew ?_ | refine blk_alloc ?_ _)); exact BK139.out)) : gb139 ≠ gb153)); have n7_ := Aside0.mk ((by rw [hg]; exact Nat.ne_of_gt (blk_lt (g := gb139) (o := .cells #[.int .i64 t136, .int .i64 t137, .int .i64 t138] 26 (0, 0)) (by (with_reducible repeat (first | refine blk_drewN ?_ _ | refine blk_drew ?_ | refine blk_alloc ?_ _)); exact BK139.out)) : gb153 ≠ gb139)); have n8_ := Aside0.mk ((by rw [hg]; exact Nat.ne_of_lt (blk_lt (g := gb146) (o := .cells #[.int .i64 t143, .int .i64 t144, .int .i64 t145] 26 (0, 0)) (by (with_reducible repeat (first | refine blk_drewN ?_ _ | refine blk_drew ?_ | refine blk_alloc ?_ _)); exact BK146.out)) : gb146 ≠ gb153)); have n9_ := Aside0.mk ((by rw [hg]; exact Nat.ne_of_gt (blk_lt (g := gb146) (o := .cells #[.int .i64 t143, .int .i64 t144, .int .i64 t145] 26 (0, 0)) (by (with_reducible repeat (first | refine blk_drewN ?_ _ | refine blk_drew ?_ | refine blk_alloc ?_ _)); exact BK146.out)) : gb153 ≠ gb146)); clear BK139; clear BK146; clear HB; have BK139 := n0_; have BK146 := n1_; have HB := n2_; have BK153 := n3_; have GW153 := n4_; have GE153 := n5_; have NB139_153 := n6_; have NB153_139 := n7_; have NB146_153 := n8_; have NB153_146 := n9_; clear n0_ n1_ n2_ n3_ n4_ n5_ n6_ n7_ n8_ n9_; clear hb hbox hg; have hnb34 := NB153_139.out; have hnc34 := NB139_153.out; have hnb35 := NB153_146.out; have hnc35 := NB146_153.out; have hcz36_0 : w33.cell? ⟨gb153, 0, none⟩ = some (.int .i64 0) := (blk_cell BK153.out 0).trans rfl; have hcz36_1 : w33.cell? ⟨gb153, 1, none⟩ = some (.int .i64 0) := (blk_cell BK153.out 1).trans rfl; have hcz36_2 : w33.cell? ⟨gb153, 2, none⟩ = some (.int .i64 0) := (blk_cell BK153.out 2).trans rfl; have hfz36_0 := blk_frozen BK153.out 0; have hfz36_1 := blk_frozen BK153.out 1; have hfz36_2 := blk_frozen BK153.out 2; have hcz37_0 : w33.cell? ⟨gb139, 0, none⟩ = some (.int .i64 t136) := (blk_cell BK139.out 0).trans rfl; have hcz37_1 : w33.cell? ⟨gb139, 1, none⟩ = some (.int .i64 t137) := (blk_cell BK139.out 1).trans rfl; have hcz37_2 : w33.cell? ⟨gb139, 2, none⟩ = some (.int .i64 t138) := (blk_cell BK139.out 2).trans rfl; have hfz37_0 := blk_frozen BK139.out 0; have hfz37_1 := blk_frozen BK139.out 1; have hfz37_2 := blk_frozen BK139.out 2; have hcz38_0 : w33.cell? ⟨gb146, 0, none⟩ = some (.int .i64 t143) := (blk_cell BK146.out 0).trans rfl; have hcz38_1 : w33.cell? ⟨gb146, 1, none⟩ = some (.int .i64 t144) := (blk_cell BK146.out 1).trans rfl; have hcz38_2 : w33.cell? ⟨gb146, 2, none⟩ = some (.int .i64 t145) := (blk_cell BK146.out 2).trans rfl; have hfz38_0 := blk_frozen BK146.out 0; have hfz38_1 := blk_frozen BK146.out 1; have hfz38_2 := blk_frozen BK146.out 2) | ((with_reducible refine gate_callee (f := 12) rfl ?_); refine goesL_ (some 44) rfl rfl Try.func12 (by kernel_rfl) rfl #[.agg #[.int .i64 t136, .int .i64 t137, .int .i64 t138], .agg #[.int .i64 t143, .int .i64 t144, .int .i64 t145]] rfl (by (try simp only [List.map_toArray, List.map_cons, List.map_nil]); first | done | rfl | (simp only [List.length_drop, List.length_take]; rfl)) ?_; (with_reducible refine (frac_Cmp.calls t136 t137 t138 t143 t144 t145 t154 _ A17.out).mono ?_); rintro e w39 ⟨rfl, hb⟩; refine ⟨_, rfl, ?_⟩; have n0_ := Aside0.mk (blk_below (g := gb139) (o := .cells #[.int .i64 t136, .int .i64 t137, .int .i64 t138] 26 (0, 0)) (by (with_reducible repeat (first | refine blk_drewN ?_ _ | refine blk_drew ?_ | refine blk_alloc ?_ _)); refine blk_far ?_ NB139_153.out _; (with_reducible repeat (first | refine blk_drewN ?_ _ | refine blk_drew ?_ | refine blk_alloc ?_ _)); refine blk_far ?_ NB139_153.out _; (with_reducible repeat (first | refine blk_drewN ?_ _ | refine blk_drew ?_ | refine blk_alloc ?_ _)); refine blk_far ?_ NB139_153.out _; (with_reducible repeat (first | refine blk_drewN ?_ _ | refine blk_drew ?_ | refine blk_alloc ?_ _)); exact BK139.out) hb); have n1_ := Aside0.mk (blk_below (g := gb146) (o := .cells #[.int .i64 t143, .int .i64 t144, .int .i64 t145] 26 (0, 0)) (by (with_reducible repeat (first | refine blk_drewN ?_ _ | refine blk_drew ?_ | refine blk_alloc ?_ _)); refine blk_far ?_ NB146_153.out _; (with_reducible repeat (first | refine blk_drewN ?_ _ | refine blk_drew ?_ | refine blk_alloc ?_ _)); refine blk_far ?_ NB146_153.out _; (with_reducible repeat (first | refine blk_drewN ?_ _ | refine blk_drew ?_ | refine blk_alloc ?_ _)); refine blk_far ?_ NB146_153.out _; (with_reducible repeat (first | refine blk_drewN ?_ _ | refine blk_drew ?_ | refine blk_alloc ?_ _)); exact BK146.out) hb); have n2_ := Aside0.mk (blk_below (g := gb153) (o := .cells #[.int .i64 t150, .int .i64 t151, .int .i64 t152] 26 (0, 0)) (by (with_reducible repeat (first | refine blk_drewN ?_ _ | refine blk_drew ?_ | refine blk_alloc ?_ _)); refine blk_put (cs := #[.int .i64 t150, .int .i64 t151, .int .i64 0]) ?_ 2 _ rfl; (with_reducible repeat (first | refine blk_drewN ?_ _ | refine blk_drew ?_ | refine blk_alloc ?_ _)); refine blk_put (cs := #[.int .i64 t150, .int .i64 0, .int .i64 0]) ?_ 1 _ rfl; (with_reducible repeat (first | refine blk_drewN ?_ _ | refine blk_drew ?_ | refine blk_alloc ?_ _)); refine blk_put (cs := #[.int .i64 0, .int .i64 0, .int .i64 0]) ?_ 0 _ rfl; (with_reducible repeat (first | refine blk_drewN ?_ _ | refine blk_drew ?_ | refine blk_alloc ?_ _)); exact BK153.out) hb); have n3_ := Aside0.mk (below_step (by repeat (first | (with_reducible first | exact HB.out | apply below_alloc | apply pw_below_drewN | apply below_drew1 | refine below_set ?_ GE139.out | refine below_set ?_ GE146.out | refine below_set ?_ GE153.out) | exact HB.out)) hb); clear BK139; clear BK146; clear BK153; clear HB; have BK139 := n0_; have BK146 := n1_; have BK153 := n2_; have HB := n3_; clear n0_ n1_ n2_ n3_; (try clear hb); (try clear hb2); (try clear hk); (try clear hi); have hcz40_0 : w39.cell? ⟨gb146, 0, none⟩ = some (.int .i64 t143) := (blk_cell BK146.out 0).trans rfl; have hcz40_1 : w39.cell? ⟨gb146, 1, none⟩ = some (.int .i64 t144) := (blk_cell BK146.out 1).trans rfl; have hcz40_2 : w39.cell? ⟨gb146, 2, none⟩ = some (.int .i64 t145) := (blk_cell BK146.out 2).trans rfl; have hfz40_0 := blk_frozen BK146.out 0; have hfz40_1 := blk_frozen BK146.out 1; have hfz40_2 := blk_frozen BK146.out 2; have hcz41_0 : w39.cell? ⟨gb153, 0, none⟩ = some (.int .i64 t150) := (blk_cell BK153.out 0).trans rfl; have hcz41_1 : w39.cell? ⟨gb153, 1, none⟩ = some (.int .i64 t151) := (blk_cell BK153.out 1).trans rfl; have hcz41_2 : w39.cell? ⟨gb153, 2, none⟩ = some (.int .i64 t152) := (blk_cell BK153.out 2).trans rfl; have hfz41_0 := blk_frozen BK153.out 0; have hfz41_1 := blk_frozen BK153.out 1; have hfz41_2 := blk_frozen BK153.out 2) | ((with_reducible refine gate_callee (f := 12) rfl ?_); refine goesL_ (some 47) rfl rfl Try.func12 (by kernel_rfl) rfl #[.agg #[.int .i64 t143, .int .i64 t144, .int .i64 t145], .agg #[.int .i64 t150, .int .i64 t151, .int .i64 t152]] rfl (by (try simp only [List.map_toArray, List.map_cons, List.map_nil]); first | done | rfl | (simp only [List.length_drop, List.length_take]; rfl)) ?_; (with_reducible refine (frac_Cmp.calls t143 t144 t145 t150 t151 t152 t155 _ A18.out).mono ?_); rintro e w42 ⟨rfl, hb⟩; refine ⟨_, rfl, ?_⟩; have n0_ := Aside0.mk (blk_below (g := gb139) (o := .cells #[.int .i64 t136, .int .i64 t137, .int .i64 t138] 26 (0, 0)) (by (with_reducible repeat (first | refine blk_drewN ?_ _ | refine blk_drew ?_ | refine blk_alloc ?_ _)); exact BK139.out) hb); have n1_ := Aside0.mk (blk_below (g := gb146) (o := .cells #[.int .i64 t143, .int .i64 t144, .int .i64 t145] 26 (0, 0)) (by (with_reducible repeat (first | refine blk_drewN ?_ _ | refine blk_drew ?_ | refine blk_alloc ?_ _)); exact BK146.out) hb); have n2_ := Aside0.mk (blk_below (g := gb153) (o := .cells #[.int .i64 t150, .int .i64 t151, .int .i64 t152] 26 (0, 0)) (by (with_reducible repeat (first | refine blk_drewN ?_ _ | refine blk_drew ?_ | refine blk_alloc ?_ _)); exact BK153.out) hb); have n3_ := Aside0.mk (below_step (by repeat (first | (with_reducible first | exact HB.out | apply below_alloc | apply pw_below_drewN | apply below_drew1 | refine below_set ?_ GE139.out | refine below_set ?_ GE146.out | refine below_set ?_ GE153.out) | exact HB.out)) hb); clear BK139; clear BK146; clear BK153; clear HB; have BK139 := n0_; have BK146 := n1_; have BK153 := n2_; have HB := n3_; clear n0_ n1_ n2_ n3_; (try clear hb); (try clear hb2); (try clear hk); (try clear hi); have hcz43_0 : w42.cell? ⟨gb139, 0, none⟩ = some (.int .i64 t136) := (blk_cell BK139.out 0).trans rfl; have hcz43_1 : w42.cell? ⟨gb139, 1, none⟩ = some (.int .i64 t137) := (blk_cell BK139.out 1).trans rfl; have hcz43_2 : w42.cell? ⟨gb139, 2, none⟩ = some (.int .i64 t138) := (blk_cell BK139.out 2).trans rfl; have hfz43_0 := blk_frozen BK139.out 0; have hfz43_1 := blk_frozen BK139.out 1; have hfz43_2 := blk_frozen BK139.out 2; have hcz44_0 : w42.cell? ⟨gb153, 0, none⟩ = some (.int .i64 t150) := (blk_cell BK153.out 0).trans rfl; have hcz44_1 : w42.cell? ⟨gb153, 1, none⟩ = some (.int .i64 t151) := (blk_cell BK153.out 1).trans rfl; have hcz44_2 : w42.cell? ⟨gb153, 2, none⟩ = some (.int .i64 t152) := (blk_cell BK153.out 2).trans rfl; have hfz44_0 := blk_frozen BK153.out 0; have hfz44_1 := blk_frozen BK153.out 1; have hfz44_2 := blk_frozen BK153.out 2) | ((with_reducible refine gate_callee (f := 12) rfl ?_); refine goesL_ (some 50) rfl rfl Try.func12 (by kernel_rfl) rfl #[.agg #[.int .i64 t136, .int .i64 t137, .int .i64 t138], .agg #[.int .i64 t150, .int .i64 t151, .int .i64 t152]] rfl (by (try simp only [List.map_toArray, List.map_cons, List.map_nil]); first | done | rfl | (simp only [List.length_drop, List.length_take]; rfl)) ?_; (with_reducible refine (frac_Cmp.calls t136 t137 t138 t150 t151 t152 t156 _ A19.out).mono ?_); rintro e w45 ⟨rfl, hb⟩; refine ⟨_, rfl, ?_⟩; have n0_ := Aside0.mk (blk_below (g := gb139) (o := .cells #[.int .i64 t136, .int .i64 t137, .int .i64 t138] 26 (0, 0)) (by (with_reducible repeat (first | refine blk_drewN ?_ _ | refine blk_drew ?_ | refine blk_alloc ?_ _)); exact BK139.out) hb); have n1_ := Aside0.mk (blk_below (g := gb146) (o := .cells #[.int .i64 t143, .int .i64 t144, .int .i64 t145] 26 (0, 0)) (by (with_reducible repeat (first | refine blk_drewN ?_ _ | refine blk_drew ?_ | refine blk_alloc ?_ _)); exact BK146.out) hb); have n2_ := Aside0.mk (blk_below (g := gb153) (o := .cells #[.int .i64 t150, .int .i64 t151, .int .i64 t152] 26 (0, 0)) (by (with_reducible repeat (first | refine blk_drewN ?_ _ | refine blk_drew ?_ | refine blk_alloc ?_ _)); exact BK153.out) hb); have n3_ := Aside0.mk (below_step (by repeat (first | (with_reducible first | exact HB.out | apply below_alloc | apply pw_below_drewN | apply below_drew1 | refine below_set ?_ GE139.out | refine below_set ?_ GE146.out | refine below_set ?_ GE153.out) | exact HB.out)) hb); clear BK139; clear BK146; clear BK153; clear HB; have BK139 := n0_; have BK146 := n1_; have BK153 := n2_; have HB := n3_; clear n0_ n1_ n2_ n3_; (try clear hb); (try clear hb2); (try clear hk); (try clear hi)))
  (try simp only [Act.put, List.setIfInBounds_toArray, List.set_cons_zero, List.set_cons_succ])
  go_cut [72] (fun v72 wc => ∃ (kq : Nat) (x72_19 : Bool), v72 = .bool x72_19 ∧ Aside0 (puncheonlaw09_FracOrder.j0 kq t132 t154 x72_19 t136 t137 t138 t143 t144 t145 = some r) ∧ Aside0 (kq ≤ k) ∧ Aside0 (wc.heap[gb139]? = some (.cells #[.int .i64 t136, .int .i64 t137, .int .i64 t138] 26 (0, 0))) ∧ Aside0 (wc.heap[gb146]? = some (.cells #[.int .i64 t143, .int .i64 t144, .int .i64 t145] 26 (0, 0))) ∧ Aside0 (wc.heap[gb153]? = some (.cells #[.int .i64 t150, .int .i64 t151, .int .i64 t152] 26 (0, 0))) ∧ Aside0 (Below w.heap.size w wc))
  case first =>
    have H := HC20.out
    clear HC20
    by_cases c46 : t154 ≤ 0
    · rw [if_pos c46] at H
      have c46b0 : decide (t154 ≤ 0) = true := decide_eq_true c46
      clear c46
      (first | rw [c46b0] | (simp only [i64_w, i32_w]; rw [c46b0]) | skip)
      by_cases c47 : t155 ≤ 0
      · rw [if_pos c47] at H
        have c47b0 : decide (t155 ≤ 0) = true := decide_eq_true c47
        clear c47
        by_cases c48 : t156 > 0
        · rw [if_pos c48] at H
          have c48b0 : decide (0 < t156) = true := decide_eq_true c48
          clear c48
          have H' := Aside0.mk H
          clear H
          go_wp2
          go_meet
          case rel => exact ⟨_, (true), (by first | rfl | (simp; done) | (simp [*]; done)), H', ⟨by first | omega | exact Nat.le_refl _⟩, ⟨by (with_reducible repeat (first | refine blk_drewN ?_ _ | refine blk_drew ?_ | refine blk_alloc ?_ _)); exact BK139.out⟩, ⟨by (with_reducible repeat (first | refine blk_drewN ?_ _ | refine blk_drew ?_ | refine blk_alloc ?_ _)); exact BK146.out⟩, ⟨by (with_reducible repeat (first | refine blk_drewN ?_ _ | refine blk_drew ?_ | refine blk_alloc ?_ _)); exact BK153.out⟩, ⟨by repeat (first | (with_reducible first | exact HB.out | apply below_alloc | apply pw_below_drewN | apply below_drew1 | refine below_set ?_ GE139.out | refine below_set ?_ GE146.out | refine below_set ?_ GE153.out) | exact HB.out)⟩⟩
        · rw [if_neg c48] at H
          have c48b0 : decide (0 < t156) = false := decide_eq_false c48
          clear c48
          by_cases c49 : t154 ≥ 0
          · rw [if_pos c49] at H
            have c49b0 : decide (0 ≤ t154) = true := decide_eq_true c49
            clear c49
            by_cases c50 : t155 ≥ 0
            · rw [if_pos c50] at H
              have c50b0 : decide (0 ≤ t155) = true := decide_eq_true c50
              clear c50
              have H' := Aside0.mk H
              clear H
              go_wp2
              go_meet
              case rel => exact ⟨_, (decide (t156 < 0)), (by first | rfl | (simp; done) | (simp [*]; done)), H', ⟨by first | omega | exact Nat.le_refl _⟩, ⟨by (with_reducible repeat (first | refine blk_drewN ?_ _ | refine blk_drew ?_ | refine blk_alloc ?_ _)); exact BK139.out⟩, ⟨by (with_reducible repeat (first | refine blk_drewN ?_ _ | refine blk_drew ?_ | refine blk_alloc ?_ _)); exact BK146.out⟩, ⟨by (with_reducible repeat (first | refine blk_drewN ?_ _ | refine blk_drew ?_ | refine blk_alloc ?_ _)); exact BK153.out⟩, ⟨by repeat (first | (with_reducible first | exact HB.out | apply below_alloc | apply pw_below_drewN | apply below_drew1 | refine below_set ?_ GE139.out | refine below_set ?_ GE146.out | refine below_set ?_ GE153.out) | exact HB.out)⟩⟩
            · rw [if_neg c50] at H
              have c50b0 : decide (0 ≤ t155) = false := decide_eq_false c50
              clear c50
              have H' := Aside0.mk H
              clear H
              go_wp2
              go_meet
              case rel => exact ⟨_, (false), (by first | rfl | (simp; done) | (simp [*]; done)), H', ⟨by first | omega | exact Nat.le_refl _⟩, ⟨by (with_reducible repeat (first | refine blk_drewN ?_ _ | refine blk_drew ?_ | refine blk_alloc ?_ _)); exact BK139.out⟩, ⟨by (with_reducible repeat (first | refine blk_drewN ?_ _ | refine blk_drew ?_ | refine blk_alloc ?_ _)); exact BK146.out⟩, ⟨by (with_reducible repeat (first | refine blk_drewN ?_ _ | refine blk_drew ?_ | refine blk_alloc ?_ _)); exact BK153.out⟩, ⟨by repeat (first | (with_reducible first | exact HB.out | apply below_alloc | apply pw_below_drewN | apply below_drew1 | refine below_set ?_ GE139.out | refine below_set ?_ GE146.out | refine below_set ?_ GE153.out) | exact HB.out)⟩⟩
          · rw [if_neg c49] at H
            have c49b0 : decide (0 ≤ t154) = false := decide_eq_false c49
            clear c49
            have H' := Aside0.mk H
            clear H
            go_wp2
            go_meet
            case rel => exact ⟨_, (false), (by first | rfl | (simp; done) | (simp [*]; done)), H', ⟨by first | omega | exact Nat.le_refl _⟩, ⟨by (with_reducible repeat (first | refine blk_drewN ?_ _ | refine blk_drew ?_ | refine blk_alloc ?_ _)); exact BK139.out⟩, ⟨by (with_reducible repeat (first | refine blk_drewN ?_ _ | refine blk_drew ?_ | refine blk_alloc ?_ _)); exact BK146.out⟩, ⟨by (with_reducible repeat (first | refine blk_drewN ?_ _ | refine blk_drew ?_ | refine blk_alloc ?_ _)); exact BK153.out⟩, ⟨by repeat (first | (with_reducible first | exact HB.out | apply below_alloc | apply pw_below_drewN | apply below_drew1 | refine below_set ?_ GE139.out | refine below_set ?_ GE146.out | refine below_set ?_ GE153.out) | exact HB.out)⟩⟩
      · rw [if_neg c47] at H
        have c47b0 : decide (t155 ≤ 0) = false := decide_eq_false c47
        clear c47
        by_cases c51 : t154 ≥ 0
        · rw [if_pos c51] at H
          have c51b0 : decide (0 ≤ t154) = true := decide_eq_true c51
          clear c51
          by_cases c52 : t155 ≥ 0
          · rw [if_pos c52] at H
            have c52b0 : decide (0 ≤ t155) = true := decide_eq_true c52
            clear c52
            have H' := Aside0.mk H
            clear H
            go_wp2
            go_meet
            case rel => exact ⟨_, (decide (t156 < 0)), (by first | rfl | (simp; done) | (simp [*]; done)), H', ⟨by first | omega | exact Nat.le_refl _⟩, ⟨by (with_reducible repeat (first | refine blk_drewN ?_ _ | refine blk_drew ?_ | refine blk_alloc ?_ _)); exact BK139.out⟩, ⟨by (with_reducible repeat (first | refine blk_drewN ?_ _ | refine blk_drew ?_ | refine blk_alloc ?_ _)); exact BK146.out⟩, ⟨by (with_reducible repeat (first | refine blk_drewN ?_ _ | refine blk_drew ?_ | refine blk_alloc ?_ _)); exact BK153.out⟩, ⟨by repeat (first | (with_reducible first | exact HB.out | apply below_alloc | apply pw_below_drewN | apply below_drew1 | refine below_set ?_ GE139.out | refine below_set ?_ GE146.out | refine below_set ?_ GE153.out) | exact HB.out)⟩⟩
          · rw [if_neg c52] at H
            have c52b0 : decide (0 ≤ t155) = false := decide_eq_false c52
            clear c52
            have H' := Aside0.mk H
            clear H
            go_wp2
            go_meet
            case rel => exact ⟨_, (false), (by first | rfl | (simp; done) | (simp [*]; done)), H', ⟨by first | omega | exact Nat.le_refl _⟩, ⟨by (with_reducible repeat (first | refine blk_drewN ?_ _ | refine blk_drew ?_ | refine blk_alloc ?_ _)); exact BK139.out⟩, ⟨by (with_reducible repeat (first | refine blk_drewN ?_ _ | refine blk_drew ?_ | refine blk_alloc ?_ _)); exact BK146.out⟩, ⟨by (with_reducible repeat (first | refine blk_drewN ?_ _ | refine blk_drew ?_ | refine blk_alloc ?_ _)); exact BK153.out⟩, ⟨by repeat (first | (with_reducible first | exact HB.out | apply below_alloc | apply pw_below_drewN | apply below_drew1 | refine below_set ?_ GE139.out | refine below_set ?_ GE146.out | refine below_set ?_ GE153.out) | exact HB.out)⟩⟩
        · rw [if_neg c51] at H
          have c51b0 : decide (0 ≤ t154) = false := decide_eq_false c51
          clear c51
          have H' := Aside0.mk H
          clear H
          go_wp2
          go_meet
          case rel => exact ⟨_, (false), (by first | rfl | (simp; done) | (simp [*]; done)), H', ⟨by first | omega | exact Nat.le_refl _⟩, ⟨by (with_reducible repeat (first | refine blk_drewN ?_ _ | refine blk_drew ?_ | refine blk_alloc ?_ _)); exact BK139.out⟩, ⟨by (with_reducible repeat (first | refine blk_drewN ?_ _ | refine blk_drew ?_ | refine blk_alloc ?_ _)); exact BK146.out⟩, ⟨by (with_reducible repeat (first | refine blk_drewN ?_ _ | refine blk_drew ?_ | refine blk_alloc ?_ _)); exact BK153.out⟩, ⟨by repeat (first | (with_reducible first | exact HB.out | apply below_alloc | apply pw_below_drewN | apply below_drew1 | refine below_set ?_ GE139.out | refine below_set ?_ GE146.out | refine below_set ?_ GE153.out) | exact HB.out)⟩⟩
    · rw [if_neg c46] at H
      have c46b0 : decide (t154 ≤ 0) = false := decide_eq_false c46
      clear c46
      (first | rw [c46b0] | (simp only [i64_w, i32_w]; rw [c46b0]) | skip)
      by_cases c53 : t154 ≥ 0
      · rw [if_pos c53] at H
        have c53b0 : decide (0 ≤ t154) = true := decide_eq_true c53
        clear c53
        by_cases c54 : t155 ≥ 0
        · rw [if_pos c54] at H
          have c54b0 : decide (0 ≤ t155) = true := decide_eq_true c54
          clear c54
          have H' := Aside0.mk H
          clear H
          go_wp2
          go_meet
          case rel => exact ⟨_, (decide (t156 < 0)), (by first | rfl | (simp; done) | (simp [*]; done)), H', ⟨by first | omega | exact Nat.le_refl _⟩, ⟨by (with_reducible repeat (first | refine blk_drewN ?_ _ | refine blk_drew ?_ | refine blk_alloc ?_ _)); exact BK139.out⟩, ⟨by (with_reducible repeat (first | refine blk_drewN ?_ _ | refine blk_drew ?_ | refine blk_alloc ?_ _)); exact BK146.out⟩, ⟨by (with_reducible repeat (first | refine blk_drewN ?_ _ | refine blk_drew ?_ | refine blk_alloc ?_ _)); exact BK153.out⟩, ⟨by repeat (first | (with_reducible first | exact HB.out | apply below_alloc | apply pw_below_drewN | apply below_drew1 | refine below_set ?_ GE139.out | refine below_set ?_ GE146.out | refine below_set ?_ GE153.out) | exact HB.out)⟩⟩
        · rw [if_neg c54] at H
          have c54b0 : decide (0 ≤ t155) = false := decide_eq_false c54
          clear c54
          have H' := Aside0.mk H
          clear H
          go_wp2
          go_meet
          case rel => exact ⟨_, (false), (by first | rfl | (simp; done) | (simp [*]; done)), H', ⟨by first | omega | exact Nat.le_refl _⟩, ⟨by (with_reducible repeat (first | refine blk_drewN ?_ _ | refine blk_drew ?_ | refine blk_alloc ?_ _)); exact BK139.out⟩, ⟨by (with_reducible repeat (first | refine blk_drewN ?_ _ | refine blk_drew ?_ | refine blk_alloc ?_ _)); exact BK146.out⟩, ⟨by (with_reducible repeat (first | refine blk_drewN ?_ _ | refine blk_drew ?_ | refine blk_alloc ?_ _)); exact BK153.out⟩, ⟨by repeat (first | (with_reducible first | exact HB.out | apply below_alloc | apply pw_below_drewN | apply below_drew1 | refine below_set ?_ GE139.out | refine below_set ?_ GE146.out | refine below_set ?_ GE153.out) | exact HB.out)⟩⟩
      · rw [if_neg c53] at H
        have c53b0 : decide (0 ≤ t154) = false := decide_eq_false c53
        clear c53
        have H' := Aside0.mk H
        clear H
        go_wp2
        go_meet
        case rel => exact ⟨_, (false), (by first | rfl | (simp; done) | (simp [*]; done)), H', ⟨by first | omega | exact Nat.le_refl _⟩, ⟨by (with_reducible repeat (first | refine blk_drewN ?_ _ | refine blk_drew ?_ | refine blk_alloc ?_ _)); exact BK139.out⟩, ⟨by (with_reducible repeat (first | refine blk_drewN ?_ _ | refine blk_drew ?_ | refine blk_alloc ?_ _)); exact BK146.out⟩, ⟨by (with_reducible repeat (first | refine blk_drewN ?_ _ | refine blk_drew ?_ | refine blk_alloc ?_ _)); exact BK153.out⟩, ⟨by repeat (first | (with_reducible first | exact HB.out | apply below_alloc | apply pw_below_drewN | apply below_drew1 | refine below_set ?_ GE139.out | refine below_set ?_ GE146.out | refine below_set ?_ GE153.out) | exact HB.out)⟩⟩
  case rest =>
    clear HC20
    try clear c1
    try clear c2
    try clear p2
    try clear c3
    try clear c4
    try clear c5
    try clear c8
    try clear c10
    try clear c12
    try clear c14
    try clear c29
    try clear c34
    try clear c35
    try clear c46
    try clear c46b0
    try clear c47
    try clear c47b0
    try clear c48
    try clear c48b0
    try clear c49
    try clear c49b0
    try clear c50
    try clear c50b0
    try clear c51
    try clear c51b0
    try clear c52
    try clear c52b0
    try clear c53
    try clear c53b0
    try clear c54
    try clear c54b0
    try clear hcz25_0
    try clear hcz25_1
    try clear hcz25_2
    try clear hcz30_0
    try clear hcz30_1
    try clear hcz30_2
    try clear hcz36_0
    try clear hcz36_1
    try clear hcz36_2
    try clear hcz37_0
    try clear hcz37_1
    try clear hcz37_2
    try clear hcz38_0
    try clear hcz38_1
    try clear hcz38_2
    try clear hcz40_0
    try clear hcz40_1
    try clear hcz40_2
    try clear hcz41_0
    try clear hcz41_1
    try clear hcz41_2
    try clear hcz43_0
    try clear hcz43_1
    try clear hcz43_2
    try clear hcz44_0
    try clear hcz44_1
    try clear hcz44_2
    try clear hfz25_0
    try clear hfz25_1
    try clear hfz25_2
    try clear hfz30_0
    try clear hfz30_1
    try clear hfz30_2
    try clear hfz36_0
    try clear hfz36_1
    try clear hfz36_2
    try clear hfz37_0
    try clear hfz37_1
    try clear hfz37_2
    try clear hfz38_0
    try clear hfz38_1
    try clear hfz38_2
    try clear hfz40_0
    try clear hfz40_1
    try clear hfz40_2
    try clear hfz41_0
    try clear hfz41_1
    try clear hfz41_2
    try clear hfz43_0
    try clear hfz43_1
    try clear hfz43_2
    try clear hfz44_0
    try clear hfz44_1
    try clear hfz44_2
    obtain ⟨kq, x72_19, rfl, HA, HJ19, BK139, BK146, BK153, HB⟩ := hcut
    cases kq with
    | zero => exact absurd HA.out (by simp [puncheonlaw09_FracOrder.j0])
    | succ kj19 =>
      have H := HA.out
      clear HA
      simp only [puncheonlaw09_FracOrder.j0] at H
      by_cases c55 : x72_19 = true
      · subst c55
        have H1 : (some false) = some r := by rw [if_pos rfl] at H; exact H
        clear H
        have H := H1
        clear H1
        obtain rfl := Option.some.inj H
        go_wp2
        go_ret
        exact ⟨by first | rfl | (simp [errW_none, errW_some] <;> rfl) | (simp [*, errW_none, errW_some] <;> rfl), by repeat (first | (with_reducible first | exact HB.out | apply below_alloc | apply pw_below_drewN | apply below_drew1 | refine below_set ?_ GE139.out | refine below_set ?_ GE146.out | refine below_set ?_ GE153.out) | exact HB.out)⟩
      · replace c55 := Bool.eq_false_iff.mpr c55
        subst c55
        have H1 : (if t132 = true then ((frac_Cmp.f t143 t144 t145 t136 t137 t138).bind fun t157 => (if t157 = (wrap64 (-t154)) then (if (wrap64 (t136 * t144)) = (wrap64 (t143 * t137)) then (if ((t154 == 0) == (t138 == t145)) = true then ((frac_Cmp.f t136 t137 t138 t136 t137 t138).bind fun t158 => (some (t158 == 0))) else (some false)) else (if ((t154 == 0) == false) = true then ((frac_Cmp.f t136 t137 t138 t136 t137 t138).bind fun t159 => (some (t159 == 0))) else (some false))) else (some false))) else (some false)) = some r := by rw [if_neg (show ¬ (false = true) by decide)] at H; exact H
        clear H
        have H := H1
        clear H1
        by_cases c56 : t132 = true
        · subst c56
          have H1 : ((frac_Cmp.f t143 t144 t145 t136 t137 t138).bind fun t157 => (if t157 = (wrap64 (-t154)) then (if (wrap64 (t136 * t144)) = (wrap64 (t143 * t137)) then (if ((t154 == 0) == (t138 == t145)) = true then ((frac_Cmp.f t136 t137 t138 t136 t137 t138).bind fun t158 => (some (t158 == 0))) else (some false)) else (if ((t154 == 0) == false) = true then ((frac_Cmp.f t136 t137 t138 t136 t137 t138).bind fun t159 => (some (t159 == 0))) else (some false))) else (some false))) = some r := by rw [if_pos rfl] at H; exact H
          clear H
          have H := H1
          clear H1
          replace H := Option.bind_eq_some_iff.mp H
          obtain ⟨t157, A570, H⟩ := H
          replace H : (if t157 = (wrap64 (-t154)) then (if (wrap64 (t136 * t144)) = (wrap64 (t143 * t137)) then (if ((t154 == 0) == (t138 == t145)) = true then ((frac_Cmp.f t136 t137 t138 t136 t137 t138).bind fun t158 => (some (t158 == 0))) else (some false)) else (if ((t154 == 0) == false) = true then ((frac_Cmp.f t136 t137 t138 t136 t137 t138).bind fun t159 => (some (t159 == 0))) else (some false))) else (some false)) = some r := H
          have A57 := Aside0.mk A570
          clear A570
          by_cases c58 : t157 = (wrap64 (-t154))
          · rw [if_pos c58] at H
            have c58b0 : (t157 == (wrap64 (-t154))) = true := beq_iff_eq.mpr c58
            have c58b1 : (t157 != (wrap64 (-t154))) = false := bne_eq_false_iff_eq.mpr c58
            clear c58
            by_cases c59 : (wrap64 (t136 * t144)) = (wrap64 (t143 * t137))
            · rw [if_pos c59] at H
              have c59b0 : ((wrap64 (t136 * t144)) == (wrap64 (t143 * t137))) = true := beq_iff_eq.mpr c59
              have c59b1 : ((wrap64 (t136 * t144)) != (wrap64 (t143 * t137))) = false := bne_eq_false_iff_eq.mpr c59
              clear c59
              by_cases c60 : ((t154 == 0) == (t138 == t145)) = true
              · rw [if_pos c60] at H
                have c60b0 : ((t154 == 0) == (t138 == t145)) = true := c60
                (try (have c60b1 : decide ((t154 == 0) = (t138 == t145)) = true := by simpa using c60))
                (try (have c60b2 : ((t154 == 0) == (t138 == t145)) = true := by simpa using c60))
                clear c60
                replace H := Option.bind_eq_some_iff.mp H
                obtain ⟨t158, A610, H⟩ := H
                replace H : (some (t158 == 0)) = some r := H
                have A61 := Aside0.mk A610
                clear A610
                obtain rfl := Option.some.inj H
                have hnb62 := NB146_139.out
                have hnc62 := NB139_146.out
                have hnb63 := NB146_153.out
                have hnc63 := NB153_146.out
                have hcz64_0 : wc.cell? ⟨gb146, 0, none⟩ = some (.int .i64 t143) := (blk_cell BK146.out 0).trans rfl
                have hcz64_1 : wc.cell? ⟨gb146, 1, none⟩ = some (.int .i64 t144) := (blk_cell BK146.out 1).trans rfl
                have hcz64_2 : wc.cell? ⟨gb146, 2, none⟩ = some (.int .i64 t145) := (blk_cell BK146.out 2).trans rfl
                have hfz64_0 := blk_frozen BK146.out 0
                have hfz64_1 := blk_frozen BK146.out 1
                have hfz64_2 := blk_frozen BK146.out 2
                have hnb65 := NB139_153.out
                have hnc65 := NB153_139.out
                have hcz66_0 : wc.cell? ⟨gb139, 0, none⟩ = some (.int .i64 t136) := (blk_cell BK139.out 0).trans rfl
                have hcz66_1 : wc.cell? ⟨gb139, 1, none⟩ = some (.int .i64 t137) := (blk_cell BK139.out 1).trans rfl
                have hcz66_2 : wc.cell? ⟨gb139, 2, none⟩ = some (.int .i64 t138) := (blk_cell BK139.out 2).trans rfl
                have hfz66_0 := blk_frozen BK139.out 0
                have hfz66_1 := blk_frozen BK139.out 1
                have hfz66_2 := blk_frozen BK139.out 2
                go_wp2_with (first | (go_at_call 12; (with_reducible refine (frac_Cmp.calls t143 t144 t145 t136 t137 t138 t157 _ A57.out).mono ?_); rintro e w67 ⟨rfl, hb⟩; have n0_ := Aside0.mk (blk_below (g := gb139) (o := .cells #[.int .i64 t136, .int .i64 t137, .int .i64 t138] 26 (0, 0)) (by (with_reducible repeat (first | refine blk_drewN ?_ _ | refine blk_drew ?_ | refine blk_alloc ?_ _)); exact BK139.out) hb); have n1_ := Aside0.mk (blk_below (g := gb146) (o := .cells #[.int .i64 t143, .int .i64 t144, .int .i64 t145] 26 (0, 0)) (by (with_reducible repeat (first | refine blk_drewN ?_ _ | refine blk_drew ?_ | refine blk_alloc ?_ _)); exact BK146.out) hb); have n2_ := Aside0.mk (blk_below (g := gb153) (o := .cells #[.int .i64 t150, .int .i64 t151, .int .i64 t152] 26 (0, 0)) (by (with_reducible repeat (first | refine blk_drewN ?_ _ | refine blk_drew ?_ | refine blk_alloc ?_ _)); exact BK153.out) hb); have n3_ := Aside0.mk (below_step (by repeat (first | (with_reducible first | exact HB.out | apply below_alloc | apply pw_below_drewN | apply below_drew1 | refine below_set ?_ GE139.out | refine below_set ?_ GE146.out | refine below_set ?_ GE153.out) | exact HB.out)) hb); clear BK139; clear BK146; clear BK153; clear HB; have BK139 := n0_; have BK146 := n1_; have BK153 := n2_; have HB := n3_; clear n0_ n1_ n2_ n3_; (try clear hb); (try clear hb2); (try clear hk); (try clear hi); have hcz68_0 : w67.cell? ⟨gb139, 0, none⟩ = some (.int .i64 t136) := (blk_cell BK139.out 0).trans rfl; have hcz68_1 : w67.cell? ⟨gb139, 1, none⟩ = some (.int .i64 t137) := (blk_cell BK139.out 1).trans rfl; have hcz68_2 : w67.cell? ⟨gb139, 2, none⟩ = some (.int .i64 t138) := (blk_cell BK139.out 2).trans rfl; have hfz68_0 := blk_frozen BK139.out 0; have hfz68_1 := blk_frozen BK139.out 1; have hfz68_2 := blk_frozen BK139.out 2; have hcz69_0 : w67.cell? ⟨gb146, 0, none⟩ = some (.int .i64 t143) := (blk_cell BK146.out 0).trans rfl; have hcz69_1 : w67.cell? ⟨gb146, 1, none⟩ = some (.int .i64 t144) := (blk_cell BK146.out 1).trans rfl; have hcz69_2 : w67.cell? ⟨gb146, 2, none⟩ = some (.int .i64 t145) := (blk_cell BK146.out 2).trans rfl; have hfz69_0 := blk_frozen BK146.out 0; have hfz69_1 := blk_frozen BK146.out 1; have hfz69_2 := blk_frozen BK146.out 2) | (go_at_call 12; (with_reducible refine (frac_Cmp.calls t136 t137 t138 t136 t137 t138 t158 _ A61.out).mono ?_); rintro e w70 ⟨rfl, hb⟩; have n0_ := Aside0.mk (blk_below (g := gb139) (o := .cells #[.int .i64 t136, .int .i64 t137, .int .i64 t138] 26 (0, 0)) (by (with_reducible repeat (first | refine blk_drewN ?_ _ | refine blk_drew ?_ | refine blk_alloc ?_ _)); exact BK139.out) hb); have n1_ := Aside0.mk (blk_below (g := gb146) (o := .cells #[.int .i64 t143, .int .i64 t144, .int .i64 t145] 26 (0, 0)) (by (with_reducible repeat (first | refine blk_drewN ?_ _ | refine blk_drew ?_ | refine blk_alloc ?_ _)); exact BK146.out) hb); have n2_ := Aside0.mk (blk_below (g := gb153) (o := .cells #[.int .i64 t150, .int .i64 t151, .int .i64 t152] 26 (0, 0)) (by (with_reducible repeat (first | refine blk_drewN ?_ _ | refine blk_drew ?_ | refine blk_alloc ?_ _)); exact BK153.out) hb); have n3_ := Aside0.mk (below_step (by repeat (first | (with_reducible first | exact HB.out | apply below_alloc | apply pw_below_drewN | apply below_drew1 | refine below_set ?_ GE139.out | refine below_set ?_ GE146.out | refine below_set ?_ GE153.out) | exact HB.out)) hb); clear BK139; clear BK146; clear BK153; clear HB; have BK139 := n0_; have BK146 := n1_; have BK153 := n2_; have HB := n3_; clear n0_ n1_ n2_ n3_; (try clear hb); (try clear hb2); (try clear hk); (try clear hi)))
                go_ret
                exact ⟨by first | rfl | (simp [errW_none, errW_some] <;> rfl) | (simp [*, errW_none, errW_some] <;> rfl), by repeat (first | (with_reducible first | exact HB.out | apply below_alloc | apply pw_below_drewN | apply below_drew1 | refine below_set ?_ GE139.out | refine below_set ?_ GE146.out | refine below_set ?_ GE153.out) | exact HB.out)⟩
              · rw [if_neg c60] at H
                have c60b0 : ((t154 == 0) == (t138 == t145)) = false := by simpa using c60
                (try (have c60b1 : decide ((t154 == 0) = (t138 == t145)) = false := by simpa using c60))
                (try (have c60b2 : ((t154 == 0) == (t138 == t145)) = false := by simpa using c60))
                (try (have c60b3 : ¬ ((t154 == 0) = (t138 == t145)) := by simpa using c60))
                clear c60
                obtain rfl := Option.some.inj H
                have hnb71 := NB146_139.out
                have hnc71 := NB139_146.out
                have hnb72 := NB146_153.out
                have hnc72 := NB153_146.out
                have hcz73_0 : wc.cell? ⟨gb146, 0, none⟩ = some (.int .i64 t143) := (blk_cell BK146.out 0).trans rfl
                have hcz73_1 : wc.cell? ⟨gb146, 1, none⟩ = some (.int .i64 t144) := (blk_cell BK146.out 1).trans rfl
                have hcz73_2 : wc.cell? ⟨gb146, 2, none⟩ = some (.int .i64 t145) := (blk_cell BK146.out 2).trans rfl
                have hfz73_0 := blk_frozen BK146.out 0
                have hfz73_1 := blk_frozen BK146.out 1
                have hfz73_2 := blk_frozen BK146.out 2
                have hnb74 := NB139_153.out
                have hnc74 := NB153_139.out
                have hcz75_0 : wc.cell? ⟨gb139, 0, none⟩ = some (.int .i64 t136) := (blk_cell BK139.out 0).trans rfl
                have hcz75_1 : wc.cell? ⟨gb139, 1, none⟩ = some (.int .i64 t137) := (blk_cell BK139.out 1).trans rfl
                have hcz75_2 : wc.cell? ⟨gb139, 2, none⟩ = some (.int .i64 t138) := (blk_cell BK139.out 2).trans rfl
                have hfz75_0 := blk_frozen BK139.out 0
                have hfz75_1 := blk_frozen BK139.out 1
                have hfz75_2 := blk_frozen BK139.out 2
                go_wp2_with (first | (go_at_call 12; (with_reducible refine (frac_Cmp.calls t143 t144 t145 t136 t137 t138 t157 _ A57.out).mono ?_); rintro e w76 ⟨rfl, hb⟩; have n0_ := Aside0.mk (blk_below (g := gb139) (o := .cells #[.int .i64 t136, .int .i64 t137, .int .i64 t138] 26 (0, 0)) (by (with_reducible repeat (first | refine blk_drewN ?_ _ | refine blk_drew ?_ | refine blk_alloc ?_ _)); exact BK139.out) hb); have n1_ := Aside0.mk (blk_below (g := gb146) (o := .cells #[.int .i64 t143, .int .i64 t144, .int .i64 t145] 26 (0, 0)) (by (with_reducible repeat (first | refine blk_drewN ?_ _ | refine blk_drew ?_ | refine blk_alloc ?_ _)); exact BK146.out) hb); have n2_ := Aside0.mk (blk_below (g := gb153) (o := .cells #[.int .i64 t150, .int .i64 t151, .int .i64 t152] 26 (0, 0)) (by (with_reducible repeat (first | refine blk_drewN ?_ _ | refine blk_drew ?_ | refine blk_alloc ?_ _)); exact BK153.out) hb); have n3_ := Aside0.mk (below_step (by repeat (first | (with_reducible first | exact HB.out | apply below_alloc | apply pw_below_drewN | apply below_drew1 | refine below_set ?_ GE139.out | refine below_set ?_ GE146.out | refine below_set ?_ GE153.out) | exact HB.out)) hb); clear BK139; clear BK146; clear BK153; clear HB; have BK139 := n0_; have BK146 := n1_; have BK153 := n2_; have HB := n3_; clear n0_ n1_ n2_ n3_; (try clear hb); (try clear hb2); (try clear hk); (try clear hi); have hcz77_0 : w76.cell? ⟨gb139, 0, none⟩ = some (.int .i64 t136) := (blk_cell BK139.out 0).trans rfl; have hcz77_1 : w76.cell? ⟨gb139, 1, none⟩ = some (.int .i64 t137) := (blk_cell BK139.out 1).trans rfl; have hcz77_2 : w76.cell? ⟨gb139, 2, none⟩ = some (.int .i64 t138) := (blk_cell BK139.out 2).trans rfl; have hfz77_0 := blk_frozen BK139.out 0; have hfz77_1 := blk_frozen BK139.out 1; have hfz77_2 := blk_frozen BK139.out 2; have hcz78_0 : w76.cell? ⟨gb146, 0, none⟩ = some (.int .i64 t143) := (blk_cell BK146.out 0).trans rfl; have hcz78_1 : w76.cell? ⟨gb146, 1, none⟩ = some (.int .i64 t144) := (blk_cell BK146.out 1).trans rfl; have hcz78_2 : w76.cell? ⟨gb146, 2, none⟩ = some (.int .i64 t145) := (blk_cell BK146.out 2).trans rfl; have hfz78_0 := blk_frozen BK146.out 0; have hfz78_1 := blk_frozen BK146.out 1; have hfz78_2 := blk_frozen BK146.out 2))
                go_ret
                exact ⟨by first | rfl | (simp [errW_none, errW_some] <;> rfl) | (simp [*, errW_none, errW_some] <;> rfl), by repeat (first | (with_reducible first | exact HB.out | apply below_alloc | apply pw_below_drewN | apply below_drew1 | refine below_set ?_ GE139.out | refine below_set ?_ GE146.out | refine below_set ?_ GE153.out) | exact HB.out)⟩
            · rw [if_neg c59] at H
              have c59b0 : ((wrap64 (t136 * t144)) == (wrap64 (t143 * t137))) = false := beq_eq_false_iff_ne.mpr c59
              have c59b1 : ((wrap64 (t136 * t144)) != (wrap64 (t143 * t137))) = true := bne_iff_ne.mpr c59
              by_cases c79 : ((t154 == 0) == false) = true
              · rw [if_pos c79] at H
                have c79b0 : ((t154 == 0) == false) = true := c79
                (try (have c79b1 : decide ((t154 == 0) = false) = true := by simpa using c79))
                (try (have c79b2 : ((t154 == 0) == false) = true := by simpa using c79))
                clear c79
                replace H := Option.bind_eq_some_iff.mp H
                obtain ⟨t159, A800, H⟩ := H
                replace H : (some (t159 == 0)) = some r := H
                have A80 := Aside0.mk A800
                clear A800
                obtain rfl := Option.some.inj H
                have hnb81 := NB146_139.out
                have hnc81 := NB139_146.out
                have hnb82 := NB146_153.out
                have hnc82 := NB153_146.out
                have hcz83_0 : wc.cell? ⟨gb146, 0, none⟩ = some (.int .i64 t143) := (blk_cell BK146.out 0).trans rfl
                have hcz83_1 : wc.cell? ⟨gb146, 1, none⟩ = some (.int .i64 t144) := (blk_cell BK146.out 1).trans rfl
                have hcz83_2 : wc.cell? ⟨gb146, 2, none⟩ = some (.int .i64 t145) := (blk_cell BK146.out 2).trans rfl
                have hfz83_0 := blk_frozen BK146.out 0
                have hfz83_1 := blk_frozen BK146.out 1
                have hfz83_2 := blk_frozen BK146.out 2
                have hnb84 := NB139_153.out
                have hnc84 := NB153_139.out
                have hcz85_0 : wc.cell? ⟨gb139, 0, none⟩ = some (.int .i64 t136) := (blk_cell BK139.out 0).trans rfl
                have hcz85_1 : wc.cell? ⟨gb139, 1, none⟩ = some (.int .i64 t137) := (blk_cell BK139.out 1).trans rfl
                have hcz85_2 : wc.cell? ⟨gb139, 2, none⟩ = some (.int .i64 t138) := (blk_cell BK139.out 2).trans rfl
                have hfz85_0 := blk_frozen BK139.out 0
                have hfz85_1 := blk_frozen BK139.out 1
                have hfz85_2 := blk_frozen BK139.out 2
                go_wp2_with (first | (go_at_call 12; (with_reducible refine (frac_Cmp.calls t143 t144 t145 t136 t137 t138 t157 _ A57.out).mono ?_); rintro e w86 ⟨rfl, hb⟩; have n0_ := Aside0.mk (blk_below (g := gb139) (o := .cells #[.int .i64 t136, .int .i64 t137, .int .i64 t138] 26 (0, 0)) (by (with_reducible repeat (first | refine blk_drewN ?_ _ | refine blk_drew ?_ | refine blk_alloc ?_ _)); exact BK139.out) hb); have n1_ := Aside0.mk (blk_below (g := gb146) (o := .cells #[.int .i64 t143, .int .i64 t144, .int .i64 t145] 26 (0, 0)) (by (with_reducible repeat (first | refine blk_drewN ?_ _ | refine blk_drew ?_ | refine blk_alloc ?_ _)); exact BK146.out) hb); have n2_ := Aside0.mk (blk_below (g := gb153) (o := .cells #[.int .i64 t150, .int .i64 t151, .int .i64 t152] 26 (0, 0)) (by (with_reducible repeat (first | refine blk_drewN ?_ _ | refine blk_drew ?_ | refine blk_alloc ?_ _)); exact BK153.out) hb); have n3_ := Aside0.mk (below_step (by repeat (first | (with_reducible first | exact HB.out | apply below_alloc | apply pw_below_drewN | apply below_drew1 | refine below_set ?_ GE139.out | refine below_set ?_ GE146.out | refine below_set ?_ GE153.out) | exact HB.out)) hb); clear BK139; clear BK146; clear BK153; clear HB; have BK139 := n0_; have BK146 := n1_; have BK153 := n2_; have HB := n3_; clear n0_ n1_ n2_ n3_; (try clear hb); (try clear hb2); (try clear hk); (try clear hi); have hcz87_0 : w86.cell? ⟨gb139, 0, none⟩ = some (.int .i64 t136) := (blk_cell BK139.out 0).trans rfl; have hcz87_1 : w86.cell? ⟨gb139, 1, none⟩ = some (.int .i64 t137) := (blk_cell BK139.out 1).trans rfl; have hcz87_2 : w86.cell? ⟨gb139, 2, none⟩ = some (.int .i64 t138) := (blk_cell BK139.out 2).trans rfl; have hfz87_0 := blk_frozen BK139.out 0; have hfz87_1 := blk_frozen BK139.out 1; have hfz87_2 := blk_frozen BK139.out 2; have hcz88_0 : w86.cell? ⟨gb146, 0, none⟩ = some (.int .i64 t143) := (blk_cell BK146.out 0).trans rfl; have hcz88_1 : w86.cell? ⟨gb146, 1, none⟩ = some (.int .i64 t144) := (blk_cell BK146.out 1).trans rfl; have hcz88_2 : w86.cell? ⟨gb146, 2, none⟩ = some (.int .i64 t145) := (blk_cell BK146.out 2).trans rfl; have hfz88_0 := blk_frozen BK146.out 0; have hfz88_1 := blk_frozen BK146.out 1; have hfz88_2 := blk_frozen BK146.out 2) | (go_at_call 12; (with_reducible refine (frac_Cmp.calls t136 t137 t138 t136 t137 t138 t159 _ A80.out).mono ?_); rintro e w89 ⟨rfl, hb⟩; have n0_ := Aside0.mk (blk_below (g := gb139) (o := .cells #[.int .i64 t136, .int .i64 t137, .int .i64 t138] 26 (0, 0)) (by (with_reducible repeat (first | refine blk_drewN ?_ _ | refine blk_drew ?_ | refine blk_alloc ?_ _)); exact BK139.out) hb); have n1_ := Aside0.mk (blk_below (g := gb146) (o := .cells #[.int .i64 t143, .int .i64 t144, .int .i64 t145] 26 (0, 0)) (by (with_reducible repeat (first | refine blk_drewN ?_ _ | refine blk_drew ?_ | refine blk_alloc ?_ _)); exact BK146.out) hb); have n2_ := Aside0.mk (blk_below (g := gb153) (o := .cells #[.int .i64 t150, .int .i64 t151, .int .i64 t152] 26 (0, 0)) (by (with_reducible repeat (first | refine blk_drewN ?_ _ | refine blk_drew ?_ | refine blk_alloc ?_ _)); exact BK153.out) hb); have n3_ := Aside0.mk (below_step (by repeat (first | (with_reducible first | exact HB.out | apply below_alloc | apply pw_below_drewN | apply below_drew1 | refine below_set ?_ GE139.out | refine below_set ?_ GE146.out | refine below_set ?_ GE153.out) | exact HB.out)) hb); clear BK139; clear BK146; clear BK153; clear HB; have BK139 := n0_; have BK146 := n1_; have BK153 := n2_; have HB := n3_; clear n0_ n1_ n2_ n3_; (try clear hb); (try clear hb2); (try clear hk); (try clear hi)))
                go_ret
                exact ⟨by first | rfl | (simp [errW_none, errW_some] <;> rfl) | (simp [*, errW_none, errW_some] <;> rfl), by repeat (first | (with_reducible first | exact HB.out | apply below_alloc | apply pw_below_drewN | apply below_drew1 | refine below_set ?_ GE139.out | refine below_set ?_ GE146.out | refine below_set ?_ GE153.out) | exact HB.out)⟩
              · rw [if_neg c79] at H
                have c79b0 : ((t154 == 0) == false) = false := by simpa using c79
                (try (have c79b1 : decide ((t154 == 0) = false) = false := by simpa using c79))
                (try (have c79b2 : ((t154 == 0) == false) = false := by simpa using c79))
                (try (have c79b3 : ¬ ((t154 == 0) = false) := by simpa using c79))
                clear c79
                obtain rfl := Option.some.inj H
                have hnb90 := NB146_139.out
                have hnc90 := NB139_146.out
                have hnb91 := NB146_153.out
                have hnc91 := NB153_146.out
                have hcz92_0 : wc.cell? ⟨gb146, 0, none⟩ = some (.int .i64 t143) := (blk_cell BK146.out 0).trans rfl
                have hcz92_1 : wc.cell? ⟨gb146, 1, none⟩ = some (.int .i64 t144) := (blk_cell BK146.out 1).trans rfl
                have hcz92_2 : wc.cell? ⟨gb146, 2, none⟩ = some (.int .i64 t145) := (blk_cell BK146.out 2).trans rfl
                have hfz92_0 := blk_frozen BK146.out 0
                have hfz92_1 := blk_frozen BK146.out 1
                have hfz92_2 := blk_frozen BK146.out 2
                have hnb93 := NB139_153.out
                have hnc93 := NB153_139.out
                have hcz94_0 : wc.cell? ⟨gb139, 0, none⟩ = some (.int .i64 t136) := (blk_cell BK139.out 0).trans rfl
                have hcz94_1 : wc.cell? ⟨gb139, 1, none⟩ = some (.int .i64 t137) := (blk_cell BK139.out 1).trans rfl
                have hcz94_2 : wc.cell? ⟨gb139, 2, none⟩ = some (.int .i64 t138) := (blk_cell BK139.out 2).trans rfl
                have hfz94_0 := blk_frozen BK139.out 0
                have hfz94_1 := blk_frozen BK139.out 1
                have hfz94_2 := blk_frozen BK139.out 2
                go_wp2_with (first | (go_at_call 12; (with_reducible refine (frac_Cmp.calls t143 t144 t145 t136 t137 t138 t157 _ A57.out).mono ?_); rintro e w95 ⟨rfl, hb⟩; have n0_ := Aside0.mk (blk_below (g := gb139) (o := .cells #[.int .i64 t136, .int .i64 t137, .int .i64 t138] 26 (0, 0)) (by (with_reducible repeat (first | refine blk_drewN ?_ _ | refine blk_drew ?_ | refine blk_alloc ?_ _)); exact BK139.out) hb); have n1_ := Aside0.mk (blk_below (g := gb146) (o := .cells #[.int .i64 t143, .int .i64 t144, .int .i64 t145] 26 (0, 0)) (by (with_reducible repeat (first | refine blk_drewN ?_ _ | refine blk_drew ?_ | refine blk_alloc ?_ _)); exact BK146.out) hb); have n2_ := Aside0.mk (blk_below (g := gb153) (o := .cells #[.int .i64 t150, .int .i64 t151, .int .i64 t152] 26 (0, 0)) (by (with_reducible repeat (first | refine blk_drewN ?_ _ | refine blk_drew ?_ | refine blk_alloc ?_ _)); exact BK153.out) hb); have n3_ := Aside0.mk (below_step (by repeat (first | (with_reducible first | exact HB.out | apply below_alloc | apply pw_below_drewN | apply below_drew1 | refine below_set ?_ GE139.out | refine below_set ?_ GE146.out | refine below_set ?_ GE153.out) | exact HB.out)) hb); clear BK139; clear BK146; clear BK153; clear HB; have BK139 := n0_; have BK146 := n1_; have BK153 := n2_; have HB := n3_; clear n0_ n1_ n2_ n3_; (try clear hb); (try clear hb2); (try clear hk); (try clear hi); have hcz96_0 : w95.cell? ⟨gb139, 0, none⟩ = some (.int .i64 t136) := (blk_cell BK139.out 0).trans rfl; have hcz96_1 : w95.cell? ⟨gb139, 1, none⟩ = some (.int .i64 t137) := (blk_cell BK139.out 1).trans rfl; have hcz96_2 : w95.cell? ⟨gb139, 2, none⟩ = some (.int .i64 t138) := (blk_cell BK139.out 2).trans rfl; have hfz96_0 := blk_frozen BK139.out 0; have hfz96_1 := blk_frozen BK139.out 1; have hfz96_2 := blk_frozen BK139.out 2; have hcz97_0 : w95.cell? ⟨gb146, 0, none⟩ = some (.int .i64 t143) := (blk_cell BK146.out 0).trans rfl; have hcz97_1 : w95.cell? ⟨gb146, 1, none⟩ = some (.int .i64 t144) := (blk_cell BK146.out 1).trans rfl; have hcz97_2 : w95.cell? ⟨gb146, 2, none⟩ = some (.int .i64 t145) := (blk_cell BK146.out 2).trans rfl; have hfz97_0 := blk_frozen BK146.out 0; have hfz97_1 := blk_frozen BK146.out 1; have hfz97_2 := blk_frozen BK146.out 2))
                go_ret
                exact ⟨by first | rfl | (simp [errW_none, errW_some] <;> rfl) | (simp [*, errW_none, errW_some] <;> rfl), by repeat (first | (with_reducible first | exact HB.out | apply below_alloc | apply pw_below_drewN | apply below_drew1 | refine below_set ?_ GE139.out | refine below_set ?_ GE146.out | refine below_set ?_ GE153.out) | exact HB.out)⟩
          · rw [if_neg c58] at H
            have c58b0 : (t157 == (wrap64 (-t154))) = false := beq_eq_false_iff_ne.mpr c58
            have c58b1 : (t157 != (wrap64 (-t154))) = true := bne_iff_ne.mpr c58
            obtain rfl := Option.some.inj H
            have hnb98 := NB146_139.out
            have hnc98 := NB139_146.out
            have hnb99 := NB146_153.out
            have hnc99 := NB153_146.out
            have hcz100_0 : wc.cell? ⟨gb146, 0, none⟩ = some (.int .i64 t143) := (blk_cell BK146.out 0).trans rfl
            have hcz100_1 : wc.cell? ⟨gb146, 1, none⟩ = some (.int .i64 t144) := (blk_cell BK146.out 1).trans rfl
            have hcz100_2 : wc.cell? ⟨gb146, 2, none⟩ = some (.int .i64 t145) := (blk_cell BK146.out 2).trans rfl
            have hfz100_0 := blk_frozen BK146.out 0
            have hfz100_1 := blk_frozen BK146.out 1
            have hfz100_2 := blk_frozen BK146.out 2
            have hnb101 := NB139_153.out
            have hnc101 := NB153_139.out
            have hcz102_0 : wc.cell? ⟨gb139, 0, none⟩ = some (.int .i64 t136) := (blk_cell BK139.out 0).trans rfl
            have hcz102_1 : wc.cell? ⟨gb139, 1, none⟩ = some (.int .i64 t137) := (blk_cell BK139.out 1).trans rfl
            have hcz102_2 : wc.cell? ⟨gb139, 2, none⟩ = some (.int .i64 t138) := (blk_cell BK139.out 2).trans rfl
            have hfz102_0 := blk_frozen BK139.out 0
            have hfz102_1 := blk_frozen BK139.out 1
            have hfz102_2 := blk_frozen BK139.out 2
            go_wp2_with (first | (go_at_call 12; (with_reducible refine (frac_Cmp.calls t143 t144 t145 t136 t137 t138 t157 _ A57.out).mono ?_); rintro e w103 ⟨rfl, hb⟩; have n0_ := Aside0.mk (blk_below (g := gb139) (o := .cells #[.int .i64 t136, .int .i64 t137, .int .i64 t138] 26 (0, 0)) (by (with_reducible repeat (first | refine blk_drewN ?_ _ | refine blk_drew ?_ | refine blk_alloc ?_ _)); exact BK139.out) hb); have n1_ := Aside0.mk (blk_below (g := gb146) (o := .cells #[.int .i64 t143, .int .i64 t144, .int .i64 t145] 26 (0, 0)) (by (with_reducible repeat (first | refine blk_drewN ?_ _ | refine blk_drew ?_ | refine blk_alloc ?_ _)); exact BK146.out) hb); have n2_ := Aside0.mk (blk_below (g := gb153) (o := .cells #[.int .i64 t150, .int .i64 t151, .int .i64 t152] 26 (0, 0)) (by (with_reducible repeat (first | refine blk_drewN ?_ _ | refine blk_drew ?_ | refine blk_alloc ?_ _)); exact BK153.out) hb); have n3_ := Aside0.mk (below_step (by repeat (first | (with_reducible first | exact HB.out | apply below_alloc | apply pw_below_drewN | apply below_drew1 | refine below_set ?_ GE139.out | refine below_set ?_ GE146.out | refine below_set ?_ GE153.out) | exact HB.out)) hb); clear BK139; clear BK146; clear BK153; clear HB; have BK139 := n0_; have BK146 := n1_; have BK153 := n2_; have HB := n3_; clear n0_ n1_ n2_ n3_; (try clear hb); (try clear hb2); (try clear hk); (try clear hi)))
            go_ret
            exact ⟨by first | rfl | (simp [errW_none, errW_some] <;> rfl) | (simp [*, errW_none, errW_some] <;> rfl), by repeat (first | (with_reducible first | exact HB.out | apply below_alloc | apply pw_below_drewN | apply below_drew1 | refine below_set ?_ GE139.out | refine below_set ?_ GE146.out | refine below_set ?_ GE153.out) | exact HB.out)⟩
        · replace c56 := Bool.eq_false_iff.mpr c56
          subst c56
          have H1 : (some false) = some r := by rw [if_neg (show ¬ (false = true) by decide)] at H; exact H
          clear H
          have H := H1
          clear H1
          obtain rfl := Option.some.inj H
          go_wp2
          go_ret
          exact ⟨by first | rfl | (simp [errW_none, errW_some] <;> rfl) | (simp [*, errW_none, errW_some] <;> rfl), by repeat (first | (with_reducible first | exact HB.out | apply below_alloc | apply pw_below_drewN | apply below_drew1 | refine below_set ?_ GE139.out | refine below_set ?_ GE146.out | refine below_set ?_ GE153.out) | exact HB.out)⟩

/-- THE ONE PURE STATEMENT of puncheonlaw09_FracOrder: yours. -/
def puncheonlaw09_FracOrder.Pure : Prop := ∀ (a0 : Int) (a1 : Int) (a2 : Int) (a3 : Int) (a4 : Int) (a5 : Int) (a6 : Int) (a7 : Int) (a8 : Int), (Lit.int .u16 a0).wf = true → (Lit.int .u16 a1).wf = true → (Lit.int .u8 a2).wf = true → (Lit.int .u16 a3).wf = true → (Lit.int .u16 a4).wf = true → (Lit.int .u8 a5).wf = true → (Lit.int .u16 a6).wf = true → (Lit.int .u16 a7).wf = true → (Lit.int .u8 a8).wf = true → ∃ k, puncheonlaw09_FracOrder.f k a0 a1 a2 a3 a4 a5 a6 a7 a8 = some true
theorem puncheonlaw09_FracOrder.walk (P : puncheonlaw09_FracOrder.Pure) (a0 : Int) (a1 : Int) (a2 : Int) (a3 : Int) (a4 : Int) (a5 : Int) (a6 : Int) (a7 : Int) (a8 : Int) (w : World) (w0 : (Lit.int .u16 a0).wf = true) (w1 : (Lit.int .u16 a1).wf = true) (w2 : (Lit.int .u8 a2).wf = true) (w3 : (Lit.int .u16 a3).wf = true) (w4 : (Lit.int .u16 a4).wf = true) (w5 : (Lit.int .u8 a5).wf = true) (w6 : (Lit.int .u16 a6).wf = true) (w7 : (Lit.int .u16 a7).wf = true) (w8 : (Lit.int .u8 a8).wf = true) :
    Calls Try.prog 4 #[.int .u16 a0, .int .u16 a1, .int .u8 a2, .int .u16 a3, .int .u16 a4, .int .u8 a5, .int .u16 a6, .int .u16 a7, .int .u8 a8] w fun e w' => e = .returned (.bool true) ∧ Below w.heap.size w w' := by
  obtain ⟨k, h⟩ := P a0 a1 a2 a3 a4 a5 a6 a7 a8 w0 w1 w2 w3 w4 w5 w6 w7 w8
  refine (puncheonlaw09_FracOrder.calls k a0 a1 a2 a3 a4 a5 a6 a7 a8 true w h).mono ?_
  rintro e w' ⟨rfl, hd⟩
  exact ⟨rfl, hd⟩

end Go.Proofs.Ytdiklmnponnlnaa.PFrac
