/- The references, as the kit's print reads them (laid by a program of this session; what is not named is left out). -/
import Derived.Test.YtfnobinenolhhaaWApart
import Derived.Test.YtfnobinenolhhaaWEqStruct
import Derived.Test.YtfnobinenolhhaaWInv
import Derived.Test.YtfnobinenolhhaaWRepsOne
import Derived.Test.YtfnobinenolhhaaWAt
import Derived.Test.YtfnobinenolhhaaR1
import Derived.Test.YtfnobinenolhhaaWInvWords
import Derived.Test.YtfnobinenolhhaaWFootNe
import Derived.Test.YtfnobinenolhhaaWFoot
import Derived.Test.YtfnobinenolhhaaWShare
import Derived.Test.YtfnobinenolhhaaWWords
import Derived.Test.YtfnobinenolhhaaWFour
import Derived.Test.YtfnobinenolhhaaWMore
import Derived.Test.YtfnobinenolhhaaWArr
import Derived.Test.YtfnobinenolhhaaWQPut
import Derived.Test.YtfnobinenolhhaaWTab
import Derived.Test.YtfnobinenolhhaaWZeros
import Derived.Test.YtfnobinenolhhaaWKept
import Derived.Test.YtfnobinenolhhaaWN
import Derived.Test.YtfnobinenolhhaaWNEv
import Derived.Test.YtfnobinenolhhaaWLast
import Derived.Test.YtfnobinenolhhaaWGuard
namespace Go.Proofs.Ytfnobinenolhhaa.PRef
open Go.RowKit Go.Proofs.YtfnobinenolhhaaW.PrintWords Go.Proofs.YtfnobinenolhhaaW.PrintLast Go.Proofs.YtfnobinenolhhaaW.PrintMore
attribute [local go_sem] max2_int min2_int max_two min_two max_three min_three max_four min_four   -- for this text's walks alone
set_option linter.unusedVariables false
set_option linter.unusedSimpArgs false

mutual
def puncheonref11_Of.l0 : Nat → List Int → Int → Int → List (S77) → Int → Option ((List (S77)) × Int)
  | 0, _, _, _, _, _ => none
  | k + 1, x0, x4, x5, x6, x7 => if x7 < 256 then (if 0 ≤ x7 then (if x7 < (x0.length : Int) then (puncheonref11_Of.l1 k x0 x4 x5 x6 x7 (rd x0 x7)) else (none)) else (none)) else (some (x6, 0))
def puncheonref11_Of.l1 : Nat → List Int → Int → Int → List (S77) → Int → Int → Option ((List (S77)) × Int)
  | 0, _, _, _, _, _, _ => none
  | k + 1, x0, x4, x5, x6, x7, x8 => if 0 ≤ x7 then (if x7 < (x0.length : Int) then (if x8 < (wrap64 (2 * (rd x0 x7))) then ((puncheonref07_Floor.f k x8).bind fun t225 => ((puncheonref10_Place.f k x0 x7 x8).bind fun t226 => (if 0 ≤ (wrap64 (x4 - t225)) then (if 0 ≤ t226 then (if t226 < (x6.length : Int) then (puncheonref11_Of.l1 k x0 x4 x5 (x6.set (t226 : Int).toNat (⟨(x7) % 256, wrap64 (x4 - t225), wrap64 ((wrap64 (x8 * (shl .i64 1 (wrap64 (x4 - t225))))) - x5)⟩ : S77)) x7 (wrap64 (x8 + 1))) else (none)) else (none)) else (none)))) else (puncheonref11_Of.l0 k x0 x4 x5 x6 (wrap64 (x7 + 1)))) else (none)) else (none)
end
def puncheonref11_Of.f (k : Nat) (l0 : List Int) : Option ((List (S77)) × Int) := (puncheonref08_Log.f k l0).bind fun t219 => (if t219 = 0 then (some (([] : List (S77)), 1)) else (if 0 ≤ t219 then (if 0 ≤ (shl .i64 1 t219) then (if (shl .i64 1 t219 : Int).toNat ≤ 11728124029610 then (puncheonref11_Of.l0 k l0 t219 (shl .i64 1 t219) (List.replicate (shl .i64 1 t219 : Int).toNat z77) 0) else (none)) else (none)) else (none)))
theorem puncheonref11_Of.mono_l : ∀ k, (∀ y0 y1 y2 y3 y4, LeO (puncheonref11_Of.l0 k y0 y1 y2 y3 y4) (puncheonref11_Of.l0 (k + 1) y0 y1 y2 y3 y4)) ∧ (∀ y0 y1 y2 y3 y4 y5, LeO (puncheonref11_Of.l1 k y0 y1 y2 y3 y4 y5) (puncheonref11_Of.l1 (k + 1) y0 y1 y2 y3 y4 y5))
  | 0 => ⟨fun _ _ _ _ _ r h => by simp [puncheonref11_Of.l0] at h, fun _ _ _ _ _ _ r h => by simp [puncheonref11_Of.l1] at h⟩
  | k + 1 => by
    obtain ⟨ih0, ih1⟩ := puncheonref11_Of.mono_l k
    refine ⟨?_, ?_⟩
    · intro y0 y1 y2 y3 y4
      unfold puncheonref11_Of.l0
      repeat' first
      | (with_reducible exact ih0 _ _ _ _ _)
      | (with_reducible exact ih1 _ _ _ _ _ _)
      | (with_reducible exact puncheonref07_Floor.mono _ _)
      | (with_reducible exact puncheonref08_Log.mono _ _)
      | (with_reducible exact puncheonref10_Place.mono _ _ _ _)
      | (with_reducible exact LeO.refl _)
      | (with_reducible exact LeO.none _)
      | (with_reducible refine LeO.ite ?_ ?_)
      | (with_reducible refine LeO.bind ?_ (fun _ => ?_))
      | exact ih0 _ _ _ _ _
      | exact ih1 _ _ _ _ _ _
      | exact puncheonref07_Floor.mono _ _
      | exact puncheonref08_Log.mono _ _
      | exact puncheonref10_Place.mono _ _ _ _
      | exact LeO.none _
      | refine LeO.ite ?_ ?_
      | refine LeO.bind ?_ (fun _ => ?_)
    · intro y0 y1 y2 y3 y4 y5
      unfold puncheonref11_Of.l1
      repeat' first
      | (with_reducible exact ih0 _ _ _ _ _)
      | (with_reducible exact ih1 _ _ _ _ _ _)
      | (with_reducible exact puncheonref07_Floor.mono _ _)
      | (with_reducible exact puncheonref08_Log.mono _ _)
      | (with_reducible exact puncheonref10_Place.mono _ _ _ _)
      | (with_reducible exact LeO.refl _)
      | (with_reducible exact LeO.none _)
      | (with_reducible refine LeO.ite ?_ ?_)
      | (with_reducible refine LeO.bind ?_ (fun _ => ?_))
      | exact ih0 _ _ _ _ _
      | exact ih1 _ _ _ _ _ _
      | exact puncheonref07_Floor.mono _ _
      | exact puncheonref08_Log.mono _ _
      | exact puncheonref10_Place.mono _ _ _ _
      | exact LeO.none _
      | refine LeO.ite ?_ ?_
      | refine LeO.bind ?_ (fun _ => ?_)
theorem puncheonref11_Of.mono : ∀ a0 k, LeO (puncheonref11_Of.f k a0) (puncheonref11_Of.f (k + 1) a0) := by
  intro a0 k
  obtain ⟨ih0, ih1⟩ := puncheonref11_Of.mono_l k
  unfold puncheonref11_Of.f
  repeat' first
      | (with_reducible exact ih0 _ _ _ _ _)
      | (with_reducible exact ih1 _ _ _ _ _ _)
      | (with_reducible exact puncheonref07_Floor.mono _ _)
      | (with_reducible exact puncheonref08_Log.mono _ _)
      | (with_reducible exact puncheonref10_Place.mono _ _ _ _)
      | (with_reducible exact LeO.refl _)
      | (with_reducible exact LeO.none _)
      | (with_reducible refine LeO.ite ?_ ?_)
      | (with_reducible refine LeO.bind ?_ (fun _ => ?_))
      | exact ih0 _ _ _ _ _
      | exact ih1 _ _ _ _ _ _
      | exact puncheonref07_Floor.mono _ _
      | exact puncheonref08_Log.mono _ _
      | exact puncheonref10_Place.mono _ _ _ _
      | exact LeO.none _
      | refine LeO.ite ?_ ?_
      | refine LeO.bind ?_ (fun _ => ?_)
def puncheonref11_Of.T13 : Bool × List (List Nat × List Nat) := (true, [([], []), ([], []), ([], []), ([], []), ([1, 2, 3], [1, 2, 3]), ([], []), ([5], [5]), ([], []), ([], []), ([], []), ([9], [9]), ([8, 10], [8, 10]), ([], []), ([11, 12], [11, 12]), ([6, 7, 13], [6, 7, 13]), ([0, 4, 0, 1, 2, 3, 4, 5, 6, 7, 8, 9, 10, 11, 12, 13, 14], [0, 4]), ([15, 14, 4, 0, 1, 2, 3, 4, 5, 6, 7, 8, 9, 10, 11, 12, 13, 14], [14, 15])])
def puncheonref11_Of.B13 : List Nat := [0, 0, 0, 0, 14, 0, 32, 0, 0, 0, 512, 1792, 0, 7936, 16352, 32767, 65535]
theorem puncheonref11_Of.tab13 : rtab .any (opsOf Try.f41 13) = puncheonref11_Of.T13 := by kernel_rfl
theorem puncheonref11_Of.bits13 : waitsOk puncheonref11_Of.T13.2 puncheonref11_Of.B13 = true := by kernel_rfl
set_option maxHeartbeats 8000000 in
set_option maxRecDepth 100000 in
theorem puncheonref11_Of.calls (k : Nat) (A0 : Option Addr) (c0 : Nat) (l0 : List Int) (r1 : List (S77)) (r2 : Int) (w : World) (hr0 : Kd.C (Kd.int .i64) w A0 l0.length l0) (hc0 : l0.length ≤ c0) (h : puncheonref11_Of.f k l0 = some (r1, r2)) :
    Calls Try.prog 41 #[.slice A0 l0.length c0] w fun e w' => ∃ v0_ : Value, e = .returned (.tuple #[v0_, .int .i64 r2]) ∧ Kd.R k77 77 w' w.heap.size (fun _ => True) v0_ r1 ∧ Below w.heap.size w w' := by
  have hu77 := Try.underlying77
  have HR0 := Aside0.mk hr0
  have HC0 := Aside0.mk hc0
  clear hr0 hc0
  have HB := Aside0.mk (Below.refl w.heap.size w)
  have H : ((puncheonref08_Log.f k l0).bind fun t219 => (if t219 = 0 then (some (([] : List (S77)), 1)) else (if 0 ≤ t219 then (if 0 ≤ (shl .i64 1 t219) then (if (shl .i64 1 t219 : Int).toNat ≤ 11728124029610 then (puncheonref11_Of.l0 k l0 t219 (shl .i64 1 t219) (List.replicate (shl .i64 1 t219 : Int).toNat z77) 0) else (none)) else (none)) else (none)))) = some (r1, r2) := h
  clear h
  replace H := Option.bind_eq_some_iff.mp H
  obtain ⟨t219, A20, H⟩ := H
  replace H : (if t219 = 0 then (some (([] : List (S77)), 1)) else (if 0 ≤ t219 then (if 0 ≤ (shl .i64 1 t219) then (if (shl .i64 1 t219 : Int).toNat ≤ 11728124029610 then (puncheonref11_Of.l0 k l0 t219 (shl .i64 1 t219) (List.replicate (shl .i64 1 t219 : Int).toNat z77) 0) else (none)) else (none)) else (none))) = some (r1, r2) := H
  have A2 := Aside0.mk A20
  clear A20
  by_cases c3 : t219 = 0
  · rw [if_pos c3] at H
    have c3b0 : (t219 == 0) = true := beq_iff_eq.mpr c3
    have c3b1 : (t219 != 0) = false := bne_eq_false_iff_eq.mpr c3
    clear c3
    simp only [Option.some.injEq, Prod.mk.injEq] at H
    obtain ⟨rfl, rfl⟩ := H
    go_enter Try.func41, Try.ntmps41
    go_wp2_with (first | ((with_reducible refine gate_callee (f := 57) rfl ?_); refine goesL_ (some 11) rfl rfl Try.func57 (by kernel_rfl) rfl #[.slice A0 l0.length c0] rfl (by (try simp only [List.map_toArray, List.map_cons, List.map_nil]); first | done | rfl | (simp only [List.length_drop, List.length_take]; rfl)) ?_; (with_reducible refine (puncheonref08_Log.calls k _ _ l0 t219 _ ?side1 ?side2 A2.out).mono ?_); (case side1 => repeat (first | exact HR0.out | (with_reducible refine Kd.C_alloc ?_ _) | (with_reducible refine Kd.C_drewN ?_ _) | (with_reducible refine Kd.C_drew ?_))); (case side2 => exact HC0.out); rintro e w' ⟨rfl, ⟨nd, rfl⟩⟩; refine ⟨_, rfl, ?_⟩))
    go_ret2
    exact ⟨_, by first | rfl | (simp [errW_none, errW_some] <;> rfl) | (simp [*, errW_none, errW_some] <;> rfl), by first | exact Kd.R_nil _ _ _ _ _ | exact Kd.N_nil _ _ _ _ _ | exact Kd.V_nil _ _ _ _ _ | exact Kd.Q_nil _ _ _ _ _ | exact Kd.S_nil _ _ _ _ _, by repeat (first | (with_reducible first | exact HB.out | apply below_alloc | apply pw_below_drewN | apply below_drew1) | exact HB.out)⟩
  · rw [if_neg c3] at H
    have c3b0 : (t219 == 0) = false := beq_eq_false_iff_ne.mpr c3
    have c3b1 : (t219 != 0) = true := bne_iff_ne.mpr c3
    by_cases c4 : 0 ≤ t219
    · rw [if_pos c4] at H
      have c4b0 := eq_true c4
      have c4b1 : decide (0 ≤ t219) = true := decide_eq_true c4
      clear c4
      obtain ⟨ji5, hji5⟩ : ∃ j_ : Int, (shl .i64 1 t219) = j_ := ⟨_, rfl⟩
      replace H : (if 0 ≤ (ji5) then (if (ji5 : Int).toNat ≤ 11728124029610 then (puncheonref11_Of.l0 k l0 t219 ji5 (List.replicate (ji5 : Int).toNat z77) 0) else (none)) else (none)) = some (r1, r2) := by first | (rw [hji5] at H; exact H) | (simp only [hji5] at H ⊢; exact H)
      (try rw [hji5] at A2)
      have hji5_ : (IntKind.i64.wrap (1 * 2 ^ min t219.toNat 64)) = ji5 := hji5
      have hji5z : t219 ≤ 64 → (IntKind.i64.wrap (1 * 2 ^ t219.toNat)) = ji5 := shl_small hji5
      have hji5u : (IntKind.i64.wrap (2 ^ min t219.toNat 64)) = ji5 := by have h_ := hji5_; rw [Int.one_mul] at h_; exact h_
      have hji5v : t219 ≤ 64 → (IntKind.i64.wrap (2 ^ t219.toNat)) = ji5 := fun hle_ => by have h_ := hji5z hle_; rw [Int.one_mul] at h_; exact h_
      have hji5y : (wrap64 (1 * 2 ^ min t219.toNat 64)) = ji5 := (i64_w _).symm.trans hji5_
      have hji5x : t219 ≤ 64 → (wrap64 (1 * 2 ^ t219.toNat)) = ji5 := fun h_ => (i64_w _).symm.trans (hji5z h_)
      by_cases c6 : 0 ≤ (ji5)
      · rw [if_pos c6] at H
        have c6b0 := eq_true c6
        have c6b1 : decide (0 ≤ (ji5)) = true := decide_eq_true c6
        clear c6
        by_cases c7 : (ji5 : Int).toNat ≤ 11728124029610
        · rw [if_pos c7] at H
          have c7b0 := eq_true c7
          have c7b1 : decide ((ji5 : Int).toNat ≤ 11728124029610) = true := decide_eq_true c7
          clear c7
          obtain ⟨y220, hy220⟩ : ∃ y_ : List (S77), y_ = (List.replicate (ji5 : Int).toNat z77) := ⟨_, rfl⟩
          replace H : (puncheonref11_Of.l0 k l0 t219 ji5 y220 0) = some (r1, r2) := by first | (rw [hy220]; with_reducible exact H) | (have H2_ := (Option.bind_some _ _).symm.trans H; rw [hy220]; with_reducible exact H2_) | (have H2_ := (Option.bind_some _ _).symm.trans H; with_reducible exact H2_) | with_reducible exact H | (rw [hy220]; exact H) | exact H
          have Ny220 := Aside0.mk hy220
          clear hy220
          have H' := Aside0.mk H
          clear H
          go_enter Try.func41, Try.ntmps41
          go_wp2_with (first | ((with_reducible refine gate_callee (f := 57) rfl ?_); refine goesL_ (some 11) rfl rfl Try.func57 (by kernel_rfl) rfl #[.slice A0 l0.length c0] rfl (by (try simp only [List.map_toArray, List.map_cons, List.map_nil]); first | done | rfl | (simp only [List.length_drop, List.length_take]; rfl)) ?_; (with_reducible refine (puncheonref08_Log.calls k _ _ l0 t219 _ ?side1 ?side2 A2.out).mono ?_); (case side1 => repeat (first | exact HR0.out | (with_reducible refine Kd.C_alloc ?_ _) | (with_reducible refine Kd.C_drewN ?_ _) | (with_reducible refine Kd.C_drew ?_))); (case side2 => exact HC0.out); rintro e w' ⟨rfl, ⟨nd, rfl⟩⟩; refine ⟨_, rfl, ?_⟩) | ((with_reducible refine gate_dst (N := 17) rfl ?_); refine Kd.R_make k77 _ 77 rfl (N := 17) rfl 73 _ _ rfl ji5 rfl rfl Try.underlying73 (.agg #[(.int .u8 0), (.int .i64 0), (.int .i64 0)]) 24 info77 rfl (by decide) (by omega) z77 (ok := fun _ => True) (okp := fun _ => True) (k77_mkM _ _ _ z77 ) (fun _ hk => hk) trivial (of_decide_eq_true (by first | (with_reducible assumption) | assumption)) (Nat.le_trans (Nat.mul_le_mul_right _ (of_decide_eq_true (by first | (with_reducible assumption) | assumption) : ji5.toNat ≤ 11728124029610)) (by omega)) (Below.refl _ _) (Nat.le_refl _) ?_; intro v221 w8 ho9 hb hg_ hnew_; clear hg_ hnew_; (first | rw [← Ny220.out] at ho9 | (simp only [Int.reduceToNat] at ho9; rw [← Ny220.out] at ho9)); have n0_ := Aside0.mk (Kd.R_lower ho9 (below_size (by repeat (first | (with_reducible first | exact HB.out | apply below_alloc | apply pw_below_drewN | apply below_drew1) | exact HB.out)))); have n1_ := Aside0.mk (below_step (by repeat (first | (with_reducible first | exact HB.out | apply below_alloc | apply pw_below_drewN | apply below_drew1) | exact HB.out)) hb); clear HB; have HO222 := n0_; have HB := n1_; clear n0_ n1_; clear hb ho9))
          go_loopg [7] k (fun kq v7 w' => ∃ (x6_1 : List (S77)) (x7_1 : Int), v7 = .int .i64 x7_1 ∧ Aside0 (puncheonref11_Of.l0 kq l0 t219 ji5 x6_1 x7_1 = some (r1, r2)) ∧ Aside0 (kq ≤ k) ∧ Aside0 (Kd.R k77 77 w' w.heap.size (fun _ => True) v221 x6_1) ∧ Aside0 (Below w.heap.size w w'))
          case atStart => exact ⟨(y220), (0), (by first | rfl | (simp; done) | (simp [*]; done)), H', ⟨Nat.le_refl _⟩, ⟨by (with_reducible repeat (first | apply Kd.R_alloc | apply Kd.R_drewN | apply Kd.R_drew)); exact HO222.out⟩, ⟨by repeat (first | (with_reducible first | exact HB.out | apply below_alloc | apply pw_below_drewN | apply below_drew1) | exact HB.out)⟩⟩
          case round =>
            clear H'
            try clear p2
            try clear c3
            try clear c3b0
            try clear c3b1
            try clear c4
            try clear c4b0
            try clear c4b1
            try clear c5
            try clear c6
            try clear c6b0
            try clear c6b1
            try clear p6
            try clear c7
            try clear c7b0
            try clear c7b1
            obtain ⟨x6_1, x7_1, rfl, HA, HK1, HO_6, HB⟩ := hrel
            cases gk with
            | zero => exact absurd HA.out (by simp [puncheonref11_Of.l0])
            | succ k1 =>
              have H := HA.out
              clear HA
              simp only [puncheonref11_Of.l0] at H
              by_cases c10 : x7_1 < 256
              · rw [if_pos c10] at H
                have c10b0 : decide (x7_1 < 256) = true := decide_eq_true c10
                clear c10
                by_cases c11 : 0 ≤ x7_1
                · rw [if_pos c11] at H
                  have c11b0 : decide (0 ≤ x7_1) = true := decide_eq_true c11
                  clear c11
                  by_cases c12 : x7_1 < (l0.length : Int)
                  · rw [if_pos c12] at H
                    have c12b0 : decide (x7_1 < (l0.length : Int)) = true := decide_eq_true c12
                    clear c12
                    have H' := Aside0.mk H
                    clear H
                    have p223 : 0 ≤ (x7_1 : Int) := of_decide_eq_true (by first | (with_reducible assumption) | assumption)
                    have q223 : x7_1 < (l0.length : Int) := of_decide_eq_true (by first | (with_reducible assumption) | assumption)
                    obtain ⟨ad223, e223, hx223_0⟩ := Kd.at_int HR0.out x7_1 p223 q223
                    cases e223
                    replace hx223_0 := (HB.out.cell (World.block_lt_of_cell? w _ hx223_0)).trans hx223_0
                    replace p223 := eq_true p223
                    replace q223 := eq_true q223
                    go_wp2
                    go_loopg [8] k1 (fun kq v8 w' => ∃ (x6_2 : List (S77)) (x8_2 : Int), v8 = .int .i64 x8_2 ∧ Aside0 (puncheonref11_Of.l1 kq l0 t219 ji5 x6_2 x7_1 x8_2 = some (r1, r2)) ∧ Aside0 (kq ≤ k1) ∧ Aside0 (Kd.R k77 77 w' w.heap.size (fun _ => True) v221 x6_2) ∧ Aside0 (Below w.heap.size w w'))
                    case atStart => exact ⟨(x6_1), (rd l0 x7_1), (by first | rfl | (simp; done) | (simp [*]; done)), H', ⟨Nat.le_refl _⟩, ⟨by (with_reducible repeat (first | apply Kd.R_alloc | apply Kd.R_drewN | apply Kd.R_drew)); exact HO_6.out⟩, ⟨by repeat (first | (with_reducible first | exact HB.out | apply below_alloc | apply pw_below_drewN | apply below_drew1) | exact HB.out)⟩⟩
                    case round =>
                      clear H'
                      try clear c1
                      try clear p2
                      try clear q2
                      try clear hx2
                      try clear c3
                      try clear c3b0
                      try clear c3b1
                      try clear c4
                      try clear c4b0
                      try clear c4b1
                      try clear c5
                      try clear c6
                      try clear c6b0
                      try clear c6b1
                      try clear p6
                      try clear c7
                      try clear c7b0
                      try clear c7b1
                      try clear c10
                      try clear c10b0
                      try clear c11
                      try clear c11b0
                      try clear c12
                      try clear c12b0
                      try clear hx223_0
                      try clear p2
                      try clear p223
                      try clear p6
                      try clear q223
                      obtain ⟨x6_2, x8_2, rfl, HA, HK2, HO_6, HB⟩ := hrel
                      cases gk with
                      | zero => exact absurd HA.out (by simp [puncheonref11_Of.l1])
                      | succ k2 =>
                        have H := HA.out
                        clear HA
                        simp only [puncheonref11_Of.l1] at H
                        by_cases c13 : 0 ≤ x7_1
                        · rw [if_pos c13] at H
                          have c13b0 : decide (0 ≤ x7_1) = true := decide_eq_true c13
                          clear c13
                          by_cases c14 : x7_1 < (l0.length : Int)
                          · rw [if_pos c14] at H
                            have c14b0 : decide (x7_1 < (l0.length : Int)) = true := decide_eq_true c14
                            clear c14
                            by_cases c15 : x8_2 < (wrap64 (2 * (rd l0 x7_1)))
                            · rw [if_pos c15] at H
                              have c15b0 : decide (x8_2 < (wrap64 (2 * (rd l0 x7_1)))) = true := decide_eq_true c15
                              clear c15
                              replace H := Option.bind_eq_some_iff.mp H
                              obtain ⟨t225, A160, H⟩ := H
                              replace H : ((puncheonref10_Place.f k2 l0 x7_1 x8_2).bind fun t226 => (if 0 ≤ (wrap64 (t219 - t225)) then (if 0 ≤ t226 then (if t226 < (x6_2.length : Int) then (puncheonref11_Of.l1 k2 l0 t219 ji5 (x6_2.set (t226 : Int).toNat (⟨(x7_1) % 256, wrap64 (t219 - t225), wrap64 ((wrap64 (x8_2 * (shl .i64 1 (wrap64 (t219 - t225))))) - ji5)⟩ : S77)) x7_1 (wrap64 (x8_2 + 1))) else (none)) else (none)) else (none))) = some (r1, r2) := H
                              have A16 := Aside0.mk A160
                              clear A160
                              replace H := Option.bind_eq_some_iff.mp H
                              obtain ⟨t226, A170, H⟩ := H
                              replace H : (if 0 ≤ (wrap64 (t219 - t225)) then (if 0 ≤ t226 then (if t226 < (x6_2.length : Int) then (puncheonref11_Of.l1 k2 l0 t219 ji5 (x6_2.set (t226 : Int).toNat (⟨(x7_1) % 256, wrap64 (t219 - t225), wrap64 ((wrap64 (x8_2 * (shl .i64 1 (wrap64 (t219 - t225))))) - ji5)⟩ : S77)) x7_1 (wrap64 (x8_2 + 1))) else (none)) else (none)) else (none)) = some (r1, r2) := H
                              have A17 := Aside0.mk A170
                              clear A170
                              obtain ⟨ji18, hji18⟩ : ∃ j_ : Int, (wrap64 (t219 - t225)) = j_ := ⟨_, rfl⟩
                              replace H : (if 0 ≤ (ji18) then (if 0 ≤ t226 then (if t226 < (x6_2.length : Int) then (puncheonref11_Of.l1 k2 l0 t219 ji5 (x6_2.set (t226 : Int).toNat (⟨(x7_1) % 256, ji18, wrap64 ((wrap64 (x8_2 * (shl .i64 1 (ji18)))) - ji5)⟩ : S77)) x7_1 (wrap64 (x8_2 + 1))) else (none)) else (none)) else (none)) = some (r1, r2) := by first | (rw [hji18] at H; exact H) | (simp only [hji18] at H ⊢; exact H)
                              (try rw [hji18] at A16)
                              (try rw [hji18] at A17)
                              have hji18w : (IntKind.i64.wrap (t219 - t225)) = ji18 := (i64_w _).trans hji18
                              by_cases c19 : 0 ≤ (ji18)
                              · rw [if_pos c19] at H
                                have c19b0 := eq_true c19
                                have c19b1 : decide (0 ≤ (ji18)) = true := decide_eq_true c19
                                clear c19
                                obtain ⟨ji20, hji20⟩ : ∃ j_ : Int, (shl .i64 1 (ji18)) = j_ := ⟨_, rfl⟩
                                replace H : (if 0 ≤ t226 then (if t226 < (x6_2.length : Int) then (puncheonref11_Of.l1 k2 l0 t219 ji5 (x6_2.set (t226 : Int).toNat (⟨(x7_1) % 256, ji18, wrap64 ((wrap64 (x8_2 * (ji20))) - ji5)⟩ : S77)) x7_1 (wrap64 (x8_2 + 1))) else (none)) else (none)) = some (r1, r2) := by first | (rw [hji20] at H; exact H) | (simp only [hji20] at H ⊢; exact H)
                                (try rw [hji20] at A16)
                                (try rw [hji20] at A17)
                                have hji20_ : (IntKind.i64.wrap (1 * 2 ^ min (ji18).toNat 64)) = ji20 := hji20
                                have hji20z : (ji18) ≤ 64 → (IntKind.i64.wrap (1 * 2 ^ (ji18).toNat)) = ji20 := shl_small hji20
                                have hji20u : (IntKind.i64.wrap (2 ^ min (ji18).toNat 64)) = ji20 := by have h_ := hji20_; rw [Int.one_mul] at h_; exact h_
                                have hji20v : (ji18) ≤ 64 → (IntKind.i64.wrap (2 ^ (ji18).toNat)) = ji20 := fun hle_ => by have h_ := hji20z hle_; rw [Int.one_mul] at h_; exact h_
                                have hji20y : (wrap64 (1 * 2 ^ min (ji18).toNat 64)) = ji20 := (i64_w _).symm.trans hji20_
                                have hji20x : (ji18) ≤ 64 → (wrap64 (1 * 2 ^ (ji18).toNat)) = ji20 := fun h_ => (i64_w _).symm.trans (hji20z h_)
                                by_cases c21 : 0 ≤ t226
                                · rw [if_pos c21] at H
                                  have c21b0 : decide (0 ≤ t226) = true := decide_eq_true c21
                                  clear c21
                                  by_cases c22 : t226 < (x6_2.length : Int)
                                  · rw [if_pos c22] at H
                                    have c22b0 : decide (t226 < (x6_2.length : Int)) = true := decide_eq_true c22
                                    clear c22
                                    obtain ⟨y227, hy227⟩ : ∃ y_ : List (S77), y_ = (x6_2.set (t226 : Int).toNat (⟨(x7_1) % 256, ji18, wrap64 ((wrap64 (x8_2 * (ji20))) - ji5)⟩ : S77)) := ⟨_, rfl⟩
                                    replace H : (puncheonref11_Of.l1 k2 l0 t219 ji5 y227 x7_1 (wrap64 (x8_2 + 1))) = some (r1, r2) := by first | (rw [hy227]; with_reducible exact H) | (have H2_ := (Option.bind_some _ _).symm.trans H; rw [hy227]; with_reducible exact H2_) | (have H2_ := (Option.bind_some _ _).symm.trans H; with_reducible exact H2_) | with_reducible exact H | (rw [hy227]; exact H) | exact H
                                    have Ny227 := Aside0.mk hy227
                                    clear hy227
                                    have H' := Aside0.mk H
                                    clear H
                                    have p224 : 0 ≤ (x7_1 : Int) := of_decide_eq_true (by first | (with_reducible assumption) | assumption)
                                    have q224 : x7_1 < (l0.length : Int) := of_decide_eq_true (by first | (with_reducible assumption) | assumption)
                                    obtain ⟨ad224, e224, hx224_0⟩ := Kd.at_int HR0.out x7_1 p224 q224
                                    obtain rfl : ad223 = ad224 := (by injection e224)
                                    replace hx224_0 := (HB.out.cell (World.block_lt_of_cell? w _ hx224_0)).trans hx224_0
                                    replace p224 := eq_true p224
                                    replace q224 := eq_true q224
                                    try go_wp2_with (first | ((with_reducible refine gate_callee (f := 68) rfl ?_); refine goesL_ (some 37) rfl rfl Try.func68 (by kernel_rfl) rfl #[.int .i64 x8_2] rfl (by (try simp only [List.map_toArray, List.map_cons, List.map_nil]); first | done | rfl | (simp only [List.length_drop, List.length_take]; rfl)) ?_; (with_reducible refine (puncheonref07_Floor.calls k2 x8_2 t225 _ A16.out).mono ?_); rintro e w' ⟨rfl, ⟨nd, rfl⟩⟩; refine ⟨_, rfl, ?_⟩; (try (rw [drewN_self wr]; generalize hq_ : World.drewN wr _ = wr; have n0_ : Aside0 (Kd.R k77 77 wr w.heap.size (fun _ => True) v221 x6_2) := ⟨by rw [← hq_]; exact (by (with_reducible repeat (first | apply Kd.R_alloc | apply Kd.R_drewN | apply Kd.R_drew)); exact HO_6.out)⟩; have n1_ : Aside0 (Below w.heap.size w wr) := ⟨by rw [← hq_]; exact (by repeat (first | (with_reducible first | exact HB.out | apply below_alloc | apply pw_below_drewN | apply below_drew1) | exact HB.out))⟩; clear HO_6 HB hq_; have HO_6 := n0_; have HB := n1_; clear n0_ n1_))))
                                    have n0_ := Aside0.mk (Kd.R_drew HO_6.out)
                                    have n1_ := Aside0.mk (below_drew1 HB.out)
                                    clear HO_6
                                    clear HB
                                    have HO_6 := n0_
                                    have HB := n1_
                                    clear n0_ n1_
                                    refine start_ (n := 17) (S := fun w' => True) (ds := [16]) #[false, false, false, false, false, false, false, false, false, false, false, false, false, false, false, false, false] (by kernel_rfl) rfl rfl trivial (fun hHeld => ?_); refine with_tabW puncheonref11_Of.tab13 puncheonref11_Of.bits13 (fun HT_ HW_ => ?_)
                                    generalize wr.drew = w24 at HO_6 HB hHeld ⊢
                                    refine pure_ (i := 0) (N := some 39) (v := ?_) (a' := ?_) #[true, false, false, false, false, false, false, false, false, false, false, false, false, false, false, false, false] rfl rfl (any_of HT_.out (by kernel_rfl)) (fun _ _ _ h => h) (Or.inl ⟨by rfl, ?_⟩) ?_ ?_
                                    rotate_left
                                    · intro w'
                                      go_simp
                                      with_reducible rfl
                                    rotate_left
                                    · simp only [Act.put, List.setIfInBounds_toArray, List.set_cons_zero, List.set_cons_succ, i64_w, i32_w]
                                      rfl
                                    refine pure_ (i := 1) (N := some 40) (v := ?_) (a' := ?_) #[true, true, false, false, false, false, false, false, false, false, false, false, false, false, false, false, false] rfl rfl (any_of HT_.out (by kernel_rfl)) (fun _ _ _ h => h) (Or.inl ⟨by rfl, ?_⟩) ?_ ?_
                                    rotate_left
                                    · intro w'
                                      go_simp
                                      with_reducible rfl
                                    rotate_left
                                    · simp only [Act.put, List.setIfInBounds_toArray, List.set_cons_zero, List.set_cons_succ, i64_w, i32_w]
                                      rfl
                                    refine pure_ (i := 2) (N := some 41) (v := ?_) (a' := ?_) #[true, true, true, false, false, false, false, false, false, false, false, false, false, false, false, false, false] rfl rfl (any_of HT_.out (by kernel_rfl)) (fun _ _ _ h => h) (Or.inl ⟨by rfl, ?_⟩) ?_ ?_
                                    rotate_left
                                    · intro w'
                                      go_simp
                                      with_reducible rfl
                                    rotate_left
                                    · simp only [Act.put, List.setIfInBounds_toArray, List.set_cons_zero, List.set_cons_succ, i64_w, i32_w]
                                      rfl
                                    refine pure_ (i := 3) (N := some 42) (v := ?_) (a' := ?_) #[true, true, true, true, false, false, false, false, false, false, false, false, false, false, false, false, false] rfl rfl (any_of HT_.out (by kernel_rfl)) (fun _ _ _ h => h) (Or.inl ⟨by rfl, ?_⟩) ?_ ?_
                                    rotate_left
                                    · intro w'
                                      go_simp
                                      with_reducible rfl
                                    rotate_left
                                    · simp only [Act.put, List.setIfInBounds_toArray, List.set_cons_zero, List.set_cons_succ, i64_w, i32_w]
                                      rfl
                                    refine pure_ (i := 5) (N := some 44) (v := ?_) (a' := ?_) #[true, true, true, true, false, true, false, false, false, false, false, false, false, false, false, false, false] rfl rfl (any_of HT_.out (by kernel_rfl)) (fun _ _ _ h => h) (Or.inl ⟨by rfl, ?_⟩) ?_ ?_
                                    rotate_left
                                    · intro w'
                                      go_simp
                                      with_reducible rfl
                                    rotate_left
                                    · simp only [Act.put, List.setIfInBounds_toArray, List.set_cons_zero, List.set_cons_succ, i64_w, i32_w]
                                      rfl
                                    refine pure_ (i := 6) (N := some 45) (v := ?_) (a' := ?_) #[true, true, true, true, false, true, true, false, false, false, false, false, false, false, false, false, false] rfl rfl (any_of HT_.out (by kernel_rfl)) (fun _ _ _ h => h) (Or.inl ⟨by rfl, ?_⟩) ?_ ?_
                                    rotate_left
                                    · intro w'
                                      go_simp
                                      with_reducible rfl
                                    rotate_left
                                    · simp only [Act.put, List.setIfInBounds_toArray, List.set_cons_zero, List.set_cons_succ, i64_w, i32_w]
                                      rfl
                                    refine pure_ (i := 7) (N := some 46) (v := ?_) (a' := ?_) #[true, true, true, true, false, true, true, true, false, false, false, false, false, false, false, false, false] rfl rfl (any_of HT_.out (by kernel_rfl)) (fun _ _ _ h => h) (Or.inl ⟨by rfl, ?_⟩) ?_ ?_
                                    rotate_left
                                    · intro w'
                                      go_simp
                                      with_reducible rfl
                                    rotate_left
                                    · simp only [Act.put, List.setIfInBounds_toArray, List.set_cons_zero, List.set_cons_succ, i64_w, i32_w]
                                      rfl
                                    refine pure_ (i := 8) (N := some 47) (v := ?_) (a' := ?_) #[true, true, true, true, false, true, true, true, true, false, false, false, false, false, false, false, false] rfl rfl (any_of HT_.out (by kernel_rfl)) (fun _ _ _ h => h) (Or.inl ⟨by rfl, ?_⟩) ?_ ?_
                                    rotate_left
                                    · intro w'
                                      go_simp
                                      with_reducible rfl
                                    rotate_left
                                    · simp only [Act.put, List.setIfInBounds_toArray, List.set_cons_zero, List.set_cons_succ, i64_w, i32_w]
                                      rfl
                                    refine pure_ (i := 9) (N := some 48) (v := ?_) (a' := ?_) #[true, true, true, true, false, true, true, true, true, true, false, false, false, false, false, false, false] rfl rfl (any_of HT_.out (by kernel_rfl)) (fun _ _ _ h => h) (Or.inl ⟨by rfl, ?_⟩) ?_ ?_
                                    rotate_left
                                    · intro w'
                                      go_simp
                                      with_reducible rfl
                                    rotate_left
                                    · simp only [Act.put, List.setIfInBounds_toArray, List.set_cons_zero, List.set_cons_succ, i64_w, i32_w]
                                      rfl
                                    refine pure_ (i := 10) (N := some 49) (v := ?_) (a' := ?_) #[true, true, true, true, false, true, true, true, true, true, true, false, false, false, false, false, false] rfl rfl (any_of HT_.out (by kernel_rfl)) (fun _ _ _ h => h) (Or.inl ⟨by rfl, ?_⟩) ?_ ?_
                                    rotate_left
                                    · intro w'
                                      go_simp
                                      with_reducible rfl
                                    rotate_left
                                    · simp only [Act.put, List.setIfInBounds_toArray, List.set_cons_zero, List.set_cons_succ, i64_w, i32_w]
                                      rfl
                                    refine pure_ (i := 11) (N := some 50) (v := ?_) (a' := ?_) #[true, true, true, true, false, true, true, true, true, true, true, true, false, false, false, false, false] rfl rfl (any_of HT_.out (by kernel_rfl)) (fun _ _ _ h => h) (Or.inl ⟨by rfl, ?_⟩) ?_ ?_
                                    rotate_left
                                    · intro w'
                                      go_simp
                                      with_reducible rfl
                                    rotate_left
                                    · simp only [Act.put, List.setIfInBounds_toArray, List.set_cons_zero, List.set_cons_succ, i64_w, i32_w]
                                      rfl
                                    refine pure_ (i := 12) (N := some 51) (v := ?_) (a' := ?_) #[true, true, true, true, false, true, true, true, true, true, true, true, true, false, false, false, false] rfl rfl (any_of HT_.out (by kernel_rfl)) (fun _ _ _ h => h) (Or.inl ⟨by rfl, ?_⟩) ?_ ?_
                                    rotate_left
                                    · intro w'
                                      go_simp
                                      with_reducible rfl
                                    rotate_left
                                    · simp only [Act.put, List.setIfInBounds_toArray, List.set_cons_zero, List.set_cons_succ, i64_w, i32_w]
                                      rfl
                                    refine pure_ (i := 13) (N := some 52) (v := ?_) (a' := ?_) #[true, true, true, true, false, true, true, true, true, true, true, true, true, true, false, false, false] rfl rfl (any_of HT_.out (by kernel_rfl)) (fun _ _ _ h => h) (Or.inl ⟨by rfl, ?_⟩) ?_ ?_
                                    rotate_left
                                    · intro w'
                                      go_simp
                                      with_reducible rfl
                                    rotate_left
                                    · simp only [Act.put, List.setIfInBounds_toArray, List.set_cons_zero, List.set_cons_succ, i64_w, i32_w]
                                      rfl
                                    refine pure_ (i := 14) (N := some 53) (v := ?_) (a' := ?_) #[true, true, true, true, false, true, true, true, true, true, true, true, true, true, true, false, false] rfl rfl (any_of HT_.out (by kernel_rfl)) (fun _ _ _ h => h) (Or.inl ⟨by rfl, ?_⟩) ?_ ?_
                                    rotate_left
                                    · intro w'
                                      go_simp
                                      with_reducible rfl
                                    rotate_left
                                    · simp only [Act.put, List.setIfInBounds_toArray, List.set_cons_zero, List.set_cons_succ, i64_w, i32_w]
                                      rfl
                                    refine one_ (i := 4) (N := some 43) #[true, true, true, true, true, true, true, true, true, true, true, true, true, true, true, false, false] rfl rfl (one_of HT_.out (by kernel_rfl)) (by decide) (fun K hK => ?_)
                                    refine goes_ Try.func58 (by kernel_rfl) rfl #[.slice (some ad223) l0.length c0, .int .i64 x7_1, .int .i64 x8_2] (by rfl) rfl rfl (by (try simp only [List.map_toArray, List.map_cons, List.map_nil]); first | done | rfl | (simp only [List.length_drop, List.length_take]; rfl)) ?_
                                    with_reducible refine (puncheonref10_Place.calls k2 _ _ l0 x7_1 x8_2 t226 _ ?side1 ?side2 A17.out).mono ?_
                                    (case side1 => repeat (first | exact (Kd.C_below HR0.out HB.out) | (with_reducible refine Kd.C_alloc ?_ _) | (with_reducible refine Kd.C_drewN ?_ _) | (with_reducible refine Kd.C_drew ?_)))
                                    (case side2 => exact HC0.out)
                                    rintro e w' ⟨rfl, ⟨nd, rfl⟩⟩
                                    refine ⟨_, rfl, ?_⟩
                                    have p23 : 0 ≤ (t226 : Int) := of_decide_eq_true (by first | (with_reducible assumption) | assumption)
                                    have q23 : (t226 : Int) < ((x6_2.length : Int) : Int) := of_decide_eq_true (by first | (with_reducible assumption) | assumption)
                                    obtain ⟨go23, co23, eo23, gb23, gl23, cl23, HG23⟩ := Kd.R_form HO_6.out (by omega)
                                    (first | cases eo23 | (injection eo23 with ea_ en_ ec_; (first | subst ea_ | (injection ea_ with ea_; subst ea_)); subst ec_; clear en_))
                                    have GB23 := Aside0.mk gb23
                                    have GG23 := Aside0.mk HG23
                                    clear gb23 gl23 HG23
                                    obtain ⟨ce23, hcl23, hM23, hcc23, hfr23⟩ := Kd.R_elem HO_6.out z77 (t226 : Int) p23 q23
                                    obtain rfl := k77_openM hM23
                                    have hx23_0 : World.cell? _ ⟨go23, (t226 : Int).toNat * 3, none⟩ = some (.int .u8 ((rd_T77 x6_2 t226).f0)) := hcc23 0 _ rfl
                                    have hx23_1 : World.cell? _ ⟨go23, (t226 : Int).toNat * 3 + 1, none⟩ = some (.int .i64 ((rd_T77 x6_2 t226).f1)) := hcc23 1 _ rfl
                                    have hx23_2 : World.cell? _ ⟨go23, (t226 : Int).toNat * 3 + 2, none⟩ = some (.int .i64 ((rd_T77 x6_2 t226).f2)) := hcc23 2 _ rfl
                                    have hf23_0 : World.frozen? _ ⟨go23, (t226 : Int).toNat * 3, none⟩ = false := hfr23 0
                                    have hf23_1 : World.frozen? _ ⟨go23, (t226 : Int).toNat * 3 + 1, none⟩ = false := hfr23 1
                                    have hf23_2 : World.frozen? _ ⟨go23, (t226 : Int).toNat * 3 + 2, none⟩ = false := hfr23 2
                                    clear hcl23 hcc23 hfr23 hM23
                                    replace p23 := eq_true p23
                                    replace q23 := eq_true q23
                                    obtain ⟨ce25, hcl25, hM25, hcc25, hfr25⟩ := Kd.R_elem HO_6.out z77 (t226 : Int) (of_decide_eq_true (by first | (with_reducible assumption) | assumption)) (by have h_ : (t226 : Int) < ((x6_2.length : Int) : Int) := of_decide_eq_true (by first | (with_reducible assumption) | assumption); first | exact h_ | (have e_ := (Kd.R_reads' HO_6.out).1; omega) | simpa using h_)
                                    obtain rfl := k77_openM hM25
                                    have HP25 := (Kd.R_seg HO_6.out (t226 : Int) (of_decide_eq_true (by first | (with_reducible assumption) | assumption)) (by have h_ : (t226 : Int) < ((x6_2.length : Int) : Int) := of_decide_eq_true (by first | (with_reducible assumption) | assumption); first | exact h_ | (have e_ := (Kd.R_reads' HO_6.out).1; omega) | simpa using h_) (seg := [.int .u8 ((x7_1) % 256), .int .i64 ji18, .int .i64 (wrap64 ((wrap64 (x8_2 * (ji20))) - ji5))]) (j := 0) hcl25 hcc25 (show 3 ≤ 3 from by decide) (x' := (⟨(x7_1) % 256, ji18, wrap64 ((wrap64 (x8_2 * (ji20))) - ji5)⟩ : S77)) (k77_mkM _ _ _ (⟨(x7_1) % 256, ji18, wrap64 ((wrap64 (x8_2 * (ji20))) - ji5)⟩ : S77) ) (fun _ hk => hk)).1
                                    rw [← Ny227.out] at HP25
                                    have HQ25 := Aside0.mk HP25
                                    clear hcl25 hcc25 hfr25 hM25 HP25
                                    refine hK.out _ _ trivial (fun hHeld => ?_)
                                    clear hK K
                                    refine norm_ (a' := ?_) ?_ ?_
                                    rotate_left
                                    · show Act.put _ (some 43) _ = _
                                      simp only [Act.put, List.setIfInBounds_toArray, List.set_cons_zero, List.set_cons_succ, i64_w, i32_w]
                                      rfl
                                    refine pure_ (i := 15) (N := some 54) (v := ?_) (a' := ?_) #[true, true, true, true, true, true, true, true, true, true, true, true, true, true, true, true, false] rfl rfl (any_of HT_.out (by kernel_rfl)) (fun _ _ _ h => h) (Or.inl ⟨by rfl, ?_⟩) ?_ ?_
                                    rotate_left
                                    · intro w'
                                      go_simp
                                      with_reducible rfl
                                    rotate_left
                                    · simp only [Act.put, List.setIfInBounds_toArray, List.set_cons_zero, List.set_cons_succ, i64_w, i32_w]
                                      rfl
                                    refine last_ (i := 16) (N := none) #[true, true, true, true, true, true, true, true, true, true, true, true, true, true, true, true, true] rfl rfl (one_of HT_.out (by kernel_rfl)) (by decide) (fun K hK => ?_)
                                    refine skip_ (w1 := ?_) (by rfl) rfl ?_ ?_
                                    rotate_left
                                    · go_simp
                                      rfl
                                    refine hK.out _ _ ?_
                                    clear hK K
                                    refine done_ (done_of HT_.out (by kernel_rfl)) ?_
                                    try go_wp2
                                    go_roundg k2
                                    case measure => have := HK1.out; have := HK2.out; omega
                                    case rel => exact ⟨(y227), (wrap64 (x8_2 + 1)), (by first | rfl | (simp; done) | (simp [*]; done)), H', ⟨by have := HK1.out; have := HK2.out; omega⟩, ⟨by (with_reducible repeat (first | apply Kd.R_alloc | apply Kd.R_drewN | apply Kd.R_drew)); exact HQ25.out⟩, ⟨by repeat (first | (with_reducible first | exact HB.out | apply below_alloc | apply pw_below_drewN | apply below_drew1 | refine below_set ?_ GB23.out | refine below_set ?_ GB23.out | refine below_set ?_ GB23.out) | exact HB.out)⟩⟩
                                  · rw [if_neg c22] at H
                                    exact absurd H (by simp)
                                · rw [if_neg c21] at H
                                  exact absurd H (by simp)
                              · rw [if_neg c19] at H
                                exact absurd H (by simp)
                            · rw [if_neg c15] at H
                              have c15b0 : decide (x8_2 < (wrap64 (2 * (rd l0 x7_1)))) = false := decide_eq_false c15
                              clear c15
                              have H' := Aside0.mk H
                              clear H
                              have p224 : 0 ≤ (x7_1 : Int) := of_decide_eq_true (by first | (with_reducible assumption) | assumption)
                              have q224 : x7_1 < (l0.length : Int) := of_decide_eq_true (by first | (with_reducible assumption) | assumption)
                              obtain ⟨ad224, e224, hx224_0⟩ := Kd.at_int HR0.out x7_1 p224 q224
                              obtain rfl : ad223 = ad224 := (by injection e224)
                              replace hx224_0 := (HB.out.cell (World.block_lt_of_cell? w _ hx224_0)).trans hx224_0
                              replace p224 := eq_true p224
                              replace q224 := eq_true q224
                              go_wp2
                              go_roundg k2
                              case measure => have := HK1.out; have := HK2.out; omega
                              case rel => exact ⟨(x6_2), (wrap64 (x7_1 + 1)), (by first | rfl | (simp; done) | (simp [*]; done)), H', ⟨by have := HK1.out; have := HK2.out; omega⟩, ⟨by (with_reducible repeat (first | apply Kd.R_alloc | apply Kd.R_drewN | apply Kd.R_drew)); exact HO_6.out⟩, ⟨by repeat (first | (with_reducible first | exact HB.out | apply below_alloc | apply pw_below_drewN | apply below_drew1) | exact HB.out)⟩⟩
                          · rw [if_neg c14] at H
                            exact absurd H (by simp)
                        · rw [if_neg c13] at H
                          exact absurd H (by simp)
                  · rw [if_neg c12] at H
                    exact absurd H (by simp)
                · rw [if_neg c11] at H
                  exact absurd H (by simp)
              · rw [if_neg c10] at H
                have c10b0 : decide (x7_1 < 256) = false := decide_eq_false c10
                clear c10
                simp only [Option.some.injEq, Prod.mk.injEq] at H
                obtain ⟨rfl, rfl⟩ := H
                go_wp2
                go_ret2
                exact ⟨_, by first | rfl | (simp [errW_none, errW_some] <;> rfl) | (simp only [← hji5]; first | rfl | (simp [errW_none, errW_some] <;> rfl)) | (simp [*, errW_none, errW_some] <;> rfl), by (with_reducible repeat (first | apply Kd.R_alloc | apply Kd.R_drewN | apply Kd.R_drew)); exact HO_6.out, by repeat (first | (with_reducible first | exact HB.out | apply below_alloc | apply pw_below_drewN | apply below_drew1) | exact HB.out)⟩
        · rw [if_neg c7] at H
          exact absurd H (by simp)
      · rw [if_neg c6] at H
        exact absurd H (by simp)
    · rw [if_neg c4] at H
      exact absurd H (by simp)

end Go.Proofs.Ytfnobinenolhhaa.PRef
