import Derived.Test.YtdiklmnponnlnaaFa
namespace Go.Proofs.Ytdiklmnponnlnaa
open Go.RowKit

def Ret (v : Value) (w : World) (e : Ending) (w' : World) : Prop := e = .returned v ∧ Below w.heap.size w w'

def rightB (i q s : Int) : Bool := decide (1 ≤ q ∧ q ≤ 4096 ∧ q ≤ i ∧ i < 2 * q ∧ 0 ≤ s ∧ s < 256)

theorem ret_bool_ {b c : Bool} (h : b = c) : Ending.returned (.bool b) = Ending.returned (.bool c) := by rw [h]

set_option maxHeartbeats 400000 in
theorem fracRight_any (i q s : Int) (w : World) :
    Calls Try.prog 9 #[.agg #[.int .i64 i, .int .i64 q, .int .i64 s]] w (Ret (.bool (rightB i q s)) w) := by
  by_cases h1 : 1 ≤ q
  · by_cases h2 : q ≤ 4096
    · by_cases h3 : q ≤ i
      · by_cases h4 : i < 2 * q
        · by_cases h5 : 0 ≤ s
          · by_cases h6 : s < 256
            all_goals
              go_enter Try.func9, Try.ntmps9
              go_wp2
              go_ret
              exact ⟨ret_bool_ (by simp [rightB, *]), (Below.refl _ _).alloc (Nat.le_refl _) _⟩
          · go_enter Try.func9, Try.ntmps9
            go_wp2
            go_ret
            exact ⟨ret_bool_ (by unfold rightB; symm; apply decide_eq_false; omega), (Below.refl _ _).alloc (Nat.le_refl _) _⟩
        · go_enter Try.func9, Try.ntmps9
          go_wp2
          go_ret
          exact ⟨ret_bool_ (by unfold rightB; symm; apply decide_eq_false; omega), (Below.refl _ _).alloc (Nat.le_refl _) _⟩
      · go_enter Try.func9, Try.ntmps9
        go_wp2
        go_ret
        exact ⟨ret_bool_ (by unfold rightB; symm; apply decide_eq_false; omega), (Below.refl _ _).alloc (Nat.le_refl _) _⟩
    · go_enter Try.func9, Try.ntmps9
      go_wp2
      go_ret
      exact ⟨ret_bool_ (by unfold rightB; symm; apply decide_eq_false; omega), (Below.refl _ _).alloc (Nat.le_refl _) _⟩
  · go_enter Try.func9, Try.ntmps9
    go_wp2
    go_ret
    exact ⟨ret_bool_ (by unfold rightB; symm; apply decide_eq_false; omega), (Below.refl _ _).alloc (Nat.le_refl _) _⟩

set_option maxHeartbeats 400000 in
theorem byWorth_any (i q s j p t : Int) (w : World) :
    Calls Try.prog 17 #[.agg #[.int .i64 i, .int .i64 q, .int .i64 s], .agg #[.int .i64 j, .int .i64 p, .int .i64 t]] w (Ret (.int .i64 (cmpI (wrap64 (i * p)) (wrap64 (j * q)))) w) := by
  go_enter Try.func17, Try.ntmps17
  go_wp2_with (go_at_call 19; refine (compare_any _ _ _).mono ?_; rintro e w' ⟨rfl, rfl⟩)
  go_ret
  exact ⟨rfl, ((Below.refl _ _).alloc (Nat.le_refl _) _).alloc (by simp) _⟩

set_option maxHeartbeats 400000 in
theorem bySymbol_any (i q s j p t : Int) (w : World) :
    Calls Try.prog 18 #[.agg #[.int .i64 i, .int .i64 q, .int .i64 s], .agg #[.int .i64 j, .int .i64 p, .int .i64 t]] w (Ret (.int .i64 (cmpI s t)) w) := by
  go_enter Try.func18, Try.ntmps18
  go_wp2_with (go_at_call 19; refine (compare_any _ _ _).mono ?_; rintro e w' ⟨rfl, rfl⟩)
  go_ret
  exact ⟨rfl, ((Below.refl _ _).alloc (Nat.le_refl _) _).alloc (by simp) _⟩
end Go.Proofs.Ytdiklmnponnlnaa
