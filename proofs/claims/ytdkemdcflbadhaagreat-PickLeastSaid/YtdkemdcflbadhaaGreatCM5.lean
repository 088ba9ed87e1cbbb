/- The walk of pick.Encode. -/
import Derived.Test.YtdkemdcflbadhaaGreatCM2
import Derived.Test.YtdkemdcflbadhaaGreatCM1
import Derived.Test.YtdkemdcflbadhaaGreatCM4
import Derived.Test.YtdkemdcflbadhaaGreatCS1
import Derived.Test.YtdkemdcflbadhaaGreatCM0
import Derived.OwnWalk
import Derived.BigQuiet
namespace Go.Proofs.YtdkemdcflbadhaaGreat
open Go.RowKit Go.IntWalk Go.Proofs.YtdkemdcflbadhaaGreatW.PrintWords
set_option maxRecDepth 100000 in
theorem pickIs_any (k : Int) (w : World) : Calls Tryz.prog 93 #[.int .i64 k] w fun e w' => e = .returned (.bool (decide (0 ≤ k ∧ k < 4))) ∧ w = w' := by
  by_cases h0 : 0 ≤ k
  · by_cases h1 : k < 4
    · have d : decide (0 ≤ k ∧ k < 4) = true := decide_eq_true ⟨h0, h1⟩
      rw [d]
      have d0 := decide_eq_true h0
      have d1 := decide_eq_true h1
      clear d
      go_enter Tryz.func93, Tryz.ntmps93
      go_wp2_with fail
      go_ret
      exact ⟨rfl, rfl⟩
    · have d : decide (0 ≤ k ∧ k < 4) = false := decide_eq_false (fun h => h1 h.2)
      rw [d]
      have d1 := decide_eq_false h1
      clear d h1
      go_enter Tryz.func93, Tryz.ntmps93
      go_wp2_with fail
      go_ret
      exact ⟨by simp, rfl⟩
  · have d : decide (0 ≤ k ∧ k < 4) = false := decide_eq_false (fun h => h0 h.1)
    rw [d]
    have d0 := decide_eq_false h0
    clear d h0
    go_enter Tryz.func93, Tryz.ntmps93
    go_wp2_with fail
    go_ret
    exact ⟨by simp, rfl⟩
set_option maxRecDepth 100000 in
theorem asIs1_any {x : Int × List Int} (A : Option Addr) (c p : Nat) (k : Int) (b : List Int) (w : World) (hp : w.cell? ⟨p, 0, none⟩ = some (.int .i64 k)) (h : Calls Tryz.prog 205 #[.int .i64 k, .slice A b.length c] w (Told x.1 x.2 w)) :
    Calls Tryz.prog 204 #[.slice A b.length c, .pointer (some ⟨p, 0, none⟩)] w (Told x.1 x.2 w) := by
  have H := Lib.hid h
  clear h
  go_enter Tryz.func204, Tryz.ntmps204
  go_wp2_with fail
  refine H.out.mono ?_
  rintro e w' ⟨A1, c1, rfl, hv, hb⟩
  have H1 := Lib.hid (And.intro hv hb)
  clear hv hb
  go_wp2_with fail
  go_ret2
  exact ⟨A1, c1, rfl, H1.out.1, H1.out.2⟩
theorem index_coders0 (p q : Nat) (w : World) : (Instr.index 113 (.agg (codersV p q)) (.int .i64 0)).run Tryz.prog w = .ok (.agg #[.func (.func 204) #[] #[.pointer (some ⟨p, 0, none⟩)], .func (.func 206) #[] #[.pointer (some ⟨p, 0, none⟩)], .func (.func 158) #[] #[]]) w := by
  obtain ⟨i0, hi0, hsz⟩ := Option.map_eq_some_iff.1 sizeCoder
  have hag : (isAgg 112).run Tryz.prog w = .ok true w := by simp [isAgg, Tryz.underlying112, go_sem, run_underlying]
  unfold Instr.index codersV
  simp [run_underlying (P := Tryz.prog) Tryz.underlying113, asIntOf, sizeOf, typeInfo, hi0, hsz, part, hag, Result.andThen]
theorem index_coders1 (p q : Nat) (w : World) : (Instr.index 113 (.agg (codersV p q)) (.int .i64 1)).run Tryz.prog w = .ok (.agg #[.func (.func 204) #[] #[.pointer (some ⟨q, 0, none⟩)], .func (.func 206) #[] #[.pointer (some ⟨q, 0, none⟩)], .func (.func 159) #[] #[]]) w := by
  obtain ⟨i0, hi0, hsz⟩ := Option.map_eq_some_iff.1 sizeCoder
  have hag : (isAgg 112).run Tryz.prog w = .ok true w := by simp [isAgg, Tryz.underlying112, go_sem, run_underlying]
  unfold Instr.index codersV
  simp [run_underlying (P := Tryz.prog) Tryz.underlying113, asIntOf, sizeOf, typeInfo, hi0, hsz, part, hag, Result.andThen]
theorem index_coders2 (p q : Nat) (w : World) : (Instr.index 113 (.agg (codersV p q)) (.int .i64 2)).run Tryz.prog w = .ok (.agg #[.func (.func 33) #[] #[], .func (.func 34) #[] #[], .func (.func 160) #[] #[]]) w := by
  obtain ⟨i0, hi0, hsz⟩ := Option.map_eq_some_iff.1 sizeCoder
  have hag : (isAgg 112).run Tryz.prog w = .ok true w := by simp [isAgg, Tryz.underlying112, go_sem, run_underlying]
  unfold Instr.index codersV
  simp [run_underlying (P := Tryz.prog) Tryz.underlying113, asIntOf, sizeOf, typeInfo, hi0, hsz, part, hag, Result.andThen]
theorem index_coders3 (p q : Nat) (w : World) : (Instr.index 113 (.agg (codersV p q)) (.int .i64 3)).run Tryz.prog w = .ok (.agg #[.func (.func 21) #[] #[], .func (.func 26) #[] #[], .func (.func 160) #[] #[]]) w := by
  obtain ⟨i0, hi0, hsz⟩ := Option.map_eq_some_iff.1 sizeCoder
  have hag : (isAgg 112).run Tryz.prog w = .ok true w := by simp [isAgg, Tryz.underlying112, go_sem, run_underlying]
  unfold Instr.index codersV
  simp [run_underlying (P := Tryz.prog) Tryz.underlying113, asIntOf, sizeOf, typeInfo, hi0, hsz, part, hag, Result.andThen]
theorem kfield0 (a b c : Value) (w : World) : (Instr.field 112 (.agg #[a, b, c]) 0).run Tryz.prog w = .ok a w := by kernel_rfl
theorem pickE_not {k : Int} {b : List Int} (h : ¬ (0 ≤ k ∧ k < 4)) : pickE k b = (10, []) := by unfold pickE; rw [if_pos (by omega)]
theorem pickE_lo {k : Int} {b : List Int} (h0 : 0 ≤ k) (h1 : k ≤ 1) : pickE k b = plainE k b := by unfold pickE; rw [if_neg (by omega), if_pos h1]
theorem pickE_nil {k : Int} {b : List Int} (h0 : 2 ≤ k) (h1 : k ≤ 3) (hb : b.length = 0) : pickE k b = (1, []) := by unfold pickE; rw [if_neg (by omega), if_neg (by omega), if_pos hb]
theorem pickE_2 {b : List Int} (hb : 0 < b.length) : pickE 2 b = (0, body0L b) := by unfold pickE; rw [if_neg (by decide), if_neg (by decide), if_neg (by omega), if_pos rfl]
theorem pickE_3 {b : List Int} (hb : 0 < b.length) : pickE 3 b = (0, body1L b) := by unfold pickE; rw [if_neg (by decide), if_neg (by decide), if_neg (by omega), if_neg (by decide)]
set_option maxRecDepth 100000 in
theorem pickEnc_not (A : Option Addr) (c : Nat) (k : Int) (b : List Int) (w : World) (h : ¬ (0 ≤ k ∧ k < 4)) :
    Calls Tryz.prog 39 #[.int .i64 k, .slice A b.length c] w (Told 10 [] w) := by
  have hd := decide_eq_false h
  have HI := Lib.hid (pickIs_any k w)
  rw [hd] at HI
  clear hd h
  go_enter Tryz.func39, Tryz.ntmps39
  go_wp2_with fail
  refine HI.out.mono ?_
  rintro e w' ⟨rfl, rfl⟩
  go_wp2_with fail
  go_ret2
  exact Told.nil 10 (Below.refl _ _)
set_option maxRecDepth 100000 in
theorem pickEnc_0 {x : Int × List Int} (A : Option Addr) (c : Nat) (b : List Int) (w : World) (h : ∀ (W : World) (p q : Nat), Below w.heap.size w W → W.cell? ⟨p, 0, none⟩ = some (.int .i64 0) → W.cell? ⟨q, 0, none⟩ = some (.int .i64 1) → Calls Tryz.prog 204 #[.slice A b.length c, .pointer (some ⟨p, 0, none⟩)] W (Told x.1 x.2 W)) :
    Calls Tryz.prog 39 #[.int .i64 0, .slice A b.length c] w (Told x.1 x.2 w) := by
  have H := Lib.hid h
  clear h
  go_enter Tryz.func39, Tryz.ntmps39
  go_wp2_with fail
  refine (pickIs_any 0 w).mono ?_
  rintro e w' ⟨rfl, rfl⟩
  go_wp2_with fail
  refine (coders_any w).mono ?_
  rintro e w1 ⟨p, q, rfl, hp, hq, hb⟩
  have H1 := Lib.hid (H.out w1 p q hb hp hq)
  have HB := Lib.hid hb
  have hix := fun W => index_coders0 p q W
  have hkf := kfield0
  obtain ⟨V, hV⟩ : ∃ V, V = codersV p q := ⟨_, rfl⟩
  rw [← hV] at hix ⊢
  clear hb hp hq hV
  go_wp2_with fail
  refine H1.out.mono ?_
  rintro e w2 ⟨A1, c1, rfl, hv, hb⟩
  have H2 := Lib.hid (And.intro hv hb)
  clear hv hb hix hkf
  go_wp2_with fail
  go_ret2
  exact ⟨A1, c1, rfl, Kd.R_lower H2.out.1 HB.out.size, below_tr HB.out H2.out.2⟩
set_option maxRecDepth 100000 in
theorem pickEnc_1 {x : Int × List Int} (A : Option Addr) (c : Nat) (b : List Int) (w : World) (h : ∀ (W : World) (p q : Nat), Below w.heap.size w W → W.cell? ⟨p, 0, none⟩ = some (.int .i64 0) → W.cell? ⟨q, 0, none⟩ = some (.int .i64 1) → Calls Tryz.prog 204 #[.slice A b.length c, .pointer (some ⟨q, 0, none⟩)] W (Told x.1 x.2 W)) :
    Calls Tryz.prog 39 #[.int .i64 1, .slice A b.length c] w (Told x.1 x.2 w) := by
  have H := Lib.hid h
  clear h
  go_enter Tryz.func39, Tryz.ntmps39
  go_wp2_with fail
  refine (pickIs_any 1 w).mono ?_
  rintro e w' ⟨rfl, rfl⟩
  go_wp2_with fail
  refine (coders_any w).mono ?_
  rintro e w1 ⟨p, q, rfl, hp, hq, hb⟩
  have H1 := Lib.hid (H.out w1 p q hb hp hq)
  have HB := Lib.hid hb
  have hix := fun W => index_coders1 p q W
  have hkf := kfield0
  obtain ⟨V, hV⟩ : ∃ V, V = codersV p q := ⟨_, rfl⟩
  rw [← hV] at hix ⊢
  clear hb hp hq hV
  go_wp2_with fail
  refine H1.out.mono ?_
  rintro e w2 ⟨A1, c1, rfl, hv, hb⟩
  have H2 := Lib.hid (And.intro hv hb)
  clear hv hb hix hkf
  go_wp2_with fail
  go_ret2
  exact ⟨A1, c1, rfl, Kd.R_lower H2.out.1 HB.out.size, below_tr HB.out H2.out.2⟩
set_option maxRecDepth 100000 in
theorem pickEnc_2 {x : Int × List Int} (A : Option Addr) (c : Nat) (b : List Int) (w : World) (h : ∀ (W : World) (p q : Nat), Below w.heap.size w W → W.cell? ⟨p, 0, none⟩ = some (.int .i64 0) → W.cell? ⟨q, 0, none⟩ = some (.int .i64 1) → Calls Tryz.prog 33 #[.slice A b.length c] W (Told x.1 x.2 W)) :
    Calls Tryz.prog 39 #[.int .i64 2, .slice A b.length c] w (Told x.1 x.2 w) := by
  have H := Lib.hid h
  clear h
  go_enter Tryz.func39, Tryz.ntmps39
  go_wp2_with fail
  refine (pickIs_any 2 w).mono ?_
  rintro e w' ⟨rfl, rfl⟩
  go_wp2_with fail
  refine (coders_any w).mono ?_
  rintro e w1 ⟨p, q, rfl, hp, hq, hb⟩
  have H1 := Lib.hid (H.out w1 p q hb hp hq)
  have HB := Lib.hid hb
  have hix := fun W => index_coders2 p q W
  have hkf := kfield0
  obtain ⟨V, hV⟩ : ∃ V, V = codersV p q := ⟨_, rfl⟩
  rw [← hV] at hix ⊢
  clear hb hp hq hV
  go_wp2_with fail
  refine H1.out.mono ?_
  rintro e w2 ⟨A1, c1, rfl, hv, hb⟩
  have H2 := Lib.hid (And.intro hv hb)
  clear hv hb hix hkf
  go_wp2_with fail
  go_ret2
  exact ⟨A1, c1, rfl, Kd.R_lower H2.out.1 HB.out.size, below_tr HB.out H2.out.2⟩
set_option maxRecDepth 100000 in
theorem pickEnc_3 {x : Int × List Int} (A : Option Addr) (c : Nat) (b : List Int) (w : World) (h : ∀ (W : World) (p q : Nat), Below w.heap.size w W → W.cell? ⟨p, 0, none⟩ = some (.int .i64 0) → W.cell? ⟨q, 0, none⟩ = some (.int .i64 1) → Calls Tryz.prog 21 #[.slice A b.length c] W (Told x.1 x.2 W)) :
    Calls Tryz.prog 39 #[.int .i64 3, .slice A b.length c] w (Told x.1 x.2 w) := by
  have H := Lib.hid h
  clear h
  go_enter Tryz.func39, Tryz.ntmps39
  go_wp2_with fail
  refine (pickIs_any 3 w).mono ?_
  rintro e w' ⟨rfl, rfl⟩
  go_wp2_with fail
  refine (coders_any w).mono ?_
  rintro e w1 ⟨p, q, rfl, hp, hq, hb⟩
  have H1 := Lib.hid (H.out w1 p q hb hp hq)
  have HB := Lib.hid hb
  have hix := fun W => index_coders3 p q W
  have hkf := kfield0
  obtain ⟨V, hV⟩ : ∃ V, V = codersV p q := ⟨_, rfl⟩
  rw [← hV] at hix ⊢
  clear hb hp hq hV
  go_wp2_with fail
  refine H1.out.mono ?_
  rintro e w2 ⟨A1, c1, rfl, hv, hb⟩
  have H2 := Lib.hid (And.intro hv hb)
  clear hv hb hix hkf
  go_wp2_with fail
  go_ret2
  exact ⟨A1, c1, rfl, Kd.R_lower H2.out.1 HB.out.size, below_tr HB.out H2.out.2⟩
theorem pickEncode_any (A : Option Addr) (c : Nat) (k : Int) (b : List Int) (w : World) (hr : (Kd.int .u8).C w A b.length b) (hb : Bytes b) (hl : b.length ≤ 40000) :
    Calls Tryz.prog 39 #[.int .i64 k, .slice A b.length c] w (Told (pickE k b).1 (pickE k b).2 w) := by
  by_cases h : 0 ≤ k ∧ k < 4
  · by_cases k0 : k = 0
    · subst k0
      exact pickEnc_0 A c b w (fun W p q hB hp _ => asIs1_any A c p 0 b W hp (by rw [pickE_lo (by decide) (by decide), plainE0 hl]; exact plainE0_any A c b W (Kd.C_below hr hB) hl))
    by_cases k1 : k = 1
    · subst k1
      exact pickEnc_1 A c b w (fun W p q hB _ hq => asIs1_any A c q 1 b W hq (by rw [pickE_lo (by decide) (by decide)]; exact plainE1_any A c b W (Kd.C_below hr hB) hl))
    rcases Nat.eq_zero_or_pos b.length with h0 | h0
    · rw [pickE_nil (by omega) (by omega) h0]
      by_cases k2 : k = 2
      · subst k2
        exact pickEnc_2 (x := (1, [])) A c b w (fun W p q hB _ _ => (encode0_any A c b W (Kd.C_below hr hB) hb hl).mono fun e w' h => by
          rcases h with ⟨_, rfl, hbl⟩ | ⟨h, _⟩
          · exact Told.nil 1 hbl
          · omega)
      · obtain rfl : k = 3 := by omega
        exact pickEnc_3 (x := (1, [])) A c b w (fun W p q hB _ _ => by
          rw [h0]
          exact (encode1_none A c W).mono fun e w' ⟨he, hbl⟩ => by subst he; exact Told.nil 1 hbl)
    · by_cases k2 : k = 2
      · subst k2
        rw [pickE_2 h0]
        exact pickEnc_2 (x := (0, body0L b)) A c b w (fun W p q hB _ _ => encode0_told A c b W (Kd.C_below hr hB) hb hl h0)
      · obtain rfl : k = 3 := by omega
        rw [pickE_3 h0]
        exact pickEnc_3 (x := (0, body1L b)) A c b w (fun W p q hB _ _ => encode1_told A c b W (Kd.C_below hr hB) hb hl h0)
  · rw [pickE_not h]; exact pickEnc_not A c k b w h
end Go.Proofs.YtdkemdcflbadhaaGreat
namespace Go.Proofs.YtdkemdcflbadhaaGreat
open Go.RowKit Go.IntWalk Go.Proofs.YtdkemdcflbadhaaGreatW.PrintWords
/-- the best one of the kinds up to k -/
def bestN (b : List Int) : Nat → Int × List Int
  | 0 => (0, b)
  | k + 1 => betterK ((k + 1 : Nat) : Int) b (bestN b k)
theorem bestN_3 (b : List Int) : bestN b 3 = bestP b := rfl
theorem bestN_len (b : List Int) : ∀ k, (bestN b k).2.length ≤ b.length
  | 0 => Nat.le_refl _
  | k + 1 => Nat.le_trans (better_len _ b _).1 (bestN_len b k)
theorem better_take {k : Int} {b : List Int} {x : Int × List Int} (h0 : (pickE k b).1 = 0) (h1 : (pickE k b).2.length < x.2.length) : betterK k b x = (k, (pickE k b).2) := by unfold betterK; rw [if_pos ⟨h0, h1⟩]
theorem better_keep {k : Int} {b : List Int} {x : Int × List Int} (h : ¬ ((pickE k b).1 = 0 ∧ (pickE k b).2.length < x.2.length)) : betterK k b x = x := by unfold betterK; rw [if_neg h]
def BestPost (b : List Int) (w : World) (e : Ending) (w' : World) : Prop :=
  ∃ A c, e = .returned (.tuple #[.int .i64 (bestP b).1, .slice A (bestP b).2.length c, .int .i64 0]) ∧ (Kd.int .u8).R 5 w' w.heap.size (fun _ => True) (.slice A (bestP b).2.length c) (bestP b).2 ∧ Below w.heap.size w w'
set_option maxRecDepth 100000 in
set_option maxHeartbeats 1000000 in
theorem best_any (A : Option Addr) (c : Nat) (b : List Int) (w : World) (hr : (Kd.int .u8).C w A b.length b) (hb : Bytes b) (hl : b.length ≤ 40000) :
    Calls Tryz.prog 37 #[.slice A b.length c] w (BestPost b w) := by
  have HE := Lib.hid (fun (k : Int) (W : World) (hB : Below w.heap.size w W) => pickEncode_any A c k b W (Kd.C_below hr hB) hb hl)
  have HE0 := Lib.hid (HE.out 0 w (Below.refl _ _))
  have e0 : pickE 0 b = (0, b) := by rw [pickE_lo (by decide) (by decide), plainE0 hl]
  rw [e0] at HE0
  have HL := Lib.hid (And.intro hl e0)
  clear hr hb hl e0
  go_enter Tryz.func37, Tryz.ntmps37
  go_wp2_with fail
  refine HE0.out.mono ?_
  rintro e w1 ⟨A1, c1, rfl, hv1, hb1⟩
  have H1 := Lib.hid (And.intro hv1 hb1)
  clear hv1 hb1
  dsimp only
  go_wp2_with fail
  go_loopw [2, 3, 5, 6, 7] (fun nv bv kv xv fv wr => ∃ (k n : Nat) (y : List Int) (B : Option Addr) (cb : Nat), nv = .int .i64 n ∧ bv = .slice B y.length cb ∧ kv = .int .i64 ((k + 1 : Nat) : Int) ∧ k ≤ 3 ∧ Hid (bestN b k = ((n : Int), y) ∧ (Kd.int .u8).R 5 wr w.heap.size (fun _ => True) (.slice B y.length cb) y ∧ Below w.heap.size w wr)) (fun _ _ kv _ _ _ => 4 - (intOf kv).toNat)
  case atStart => exact ⟨0, 0, b, A1, c1, rfl, rfl, rfl, by omega, Lib.hid ⟨rfl, H1.out.1, H1.out.2⟩⟩
  case round =>
    obtain ⟨k, n, y, B, cb, rfl, rfl, rfl, hk, H⟩ := hrel
    by_cases hlt : k < 3
    · have hI : ((k + 1 : Nat) : Int) < 4 := by omega
      have HC := Lib.hid (HE.out ((k + 1 : Nat) : Int) wr H.out.2.2)
      have hyl := bestN_len b k
      rw [H.out.1] at hyl
      have hyl2 : y.length ≤ b.length := hyl
      obtain ⟨x, hx⟩ : ∃ x, x = pickE ((k + 1 : Nat) : Int) b := ⟨_, rfl⟩
      have HX := Lib.hid hx
      rw [← hx] at HC
      obtain ⟨f, z⟩ := x
      have hz : Hid (f = 0 → z.length ≤ 1000000 ∨ True) := Lib.hid (fun _ => .inr trivial)
      clear hx hyl hz
      go_wp2_with fail
      refine HC.out.mono ?_
      rintro e w2 ⟨A2, c2, rfl, hv2, hb2⟩
      have H2 := Lib.hid (And.intro hv2 hb2)
      clear hv2 hb2
      dsimp only at H2 ⊢
      have HB2 := Lib.hid (below_tr H.out.2.2 H2.out.2)
      have HR2 := Lib.hid (Kd.R_below H.out.2.1 H2.out.2)
      by_cases h0 : f = 0
      · subst h0
        by_cases h1 : z.length < y.length
        · have hI1 : decide (z.length < y.length) = true := decide_eq_true h1
          have HN := Lib.hid (show bestN b (k + 1) = (((k + 1 : Nat) : Int), z) from by
            have e1 : bestN b (k + 1) = betterK ((k + 1 : Nat) : Int) b (bestN b k) := rfl
            rw [e1, better_take (by rw [← HX.out]) (by rw [← HX.out, H.out.1]; exact h1), ← HX.out])
          clear h1
          go_wp2_with fail
          go_roundw
          case rel => exact ⟨k + 1, k + 1, z, A2, c2, rfl, rfl, by go_num, by omega, Lib.hid ⟨HN.out, Kd.R_lower H2.out.1 H.out.2.2.size, HB2.out⟩⟩
          case measure => simp [intOf]; omega
        · have hI1 : decide (z.length < y.length) = false := decide_eq_false h1
          have HN := Lib.hid (show bestN b (k + 1) = ((n : Int), y) from by
            have e1 : bestN b (k + 1) = betterK ((k + 1 : Nat) : Int) b (bestN b k) := rfl
            rw [e1, better_keep (by rw [← HX.out, H.out.1]; exact fun h => h1 h.2), H.out.1])
          clear h1
          go_wp2_with fail
          go_roundw
          case rel => exact ⟨k + 1, n, y, B, cb, rfl, rfl, by go_num, by omega, Lib.hid ⟨HN.out, HR2.out, HB2.out⟩⟩
          case measure => simp [intOf]; omega
      · have hf : (f == 0) = false := by simpa using h0
        have HN := Lib.hid (show bestN b (k + 1) = ((n : Int), y) from by
          have e1 : bestN b (k + 1) = betterK ((k + 1 : Nat) : Int) b (bestN b k) := rfl
          rw [e1, better_keep (by rw [← HX.out]; exact fun h => h0 h.1), H.out.1])
        clear h0
        go_wp2_with fail
        go_roundw
        case rel => exact ⟨k + 1, n, y, B, cb, rfl, rfl, by go_num, by omega, Lib.hid ⟨HN.out, HR2.out, HB2.out⟩⟩
        case measure => simp [intOf]; omega
    · obtain rfl : k = 3 := by omega
      go_wp2_with fail
      go_ret3
      have e3 := H.out.1
      rw [bestN_3] at e3
      unfold BestPost
      rw [e3]
      exact ⟨B, cb, rfl, H.out.2.1, H.out.2.2⟩
end Go.Proofs.YtdkemdcflbadhaaGreat
namespace Go.Proofs.YtdkemdcflbadhaaGreat
open Go.RowKit Go.IntWalk Go.Proofs.YtdkemdcflbadhaaGreatW.PrintWords
theorem pickE_pos {k : Int} {b : List Int} (hb : Bytes b) (hl : b.length ≤ 40000) (h0 : 0 < b.length) (he : (pickE k b).1 = 0) : 0 < (pickE k b).2.length := by
  by_cases h : 0 ≤ k ∧ k < 4
  · by_cases k0 : k = 0
    · subst k0; rw [pickE_lo (by decide) (by decide), plainE0 hl]; exact h0
    by_cases k1 : k = 1
    · subst k1
      rw [pickE_lo (by decide) (by decide)] at he ⊢
      cases ha : alikeB b with
      | false => rw [plainE1_not ha] at he; cases he
      | true => rw [plainE1 hl ha]; exact Nat.one_pos
    by_cases k2 : k = 2
    · subst k2; rw [pickE_2 h0]; have := body0L_len hb hl h0; show 0 < (body0L b).length; omega
    · obtain rfl : k = 3 := by omega
      rw [pickE_3 h0]; have := body1L_len hb hl h0; show 0 < (body1L b).length; omega
  · rw [pickE_not h] at he; cases he
theorem better_stay {k : Int} {b : List Int} {x : Int × List Int} (hb : Bytes b) (hl : b.length ≤ 40000) (h0 : 0 < b.length) (h1 : x.2.length ≤ 1) : betterK k b x = x := by
  refine better_keep ?_
  rintro ⟨he, hlt⟩
  have := pickE_pos hb hl h0 he
  omega
theorem best_nil : bestP [] = (0, []) := by
  have h1 : ∀ k x, betterK k [] (x, []) = (x, ([] : List Int)) := fun k x => better_keep (fun h => by simp at h)
  unfold bestP; rw [h1, h1, h1]
theorem best_alike {b : List Int} (hb : Bytes b) (hl : b.length ≤ 40000) (ha : alikeB b = true) : bestP b = (1, [b.getD 0 0]) := by
  have h0 := (alike_rep ha).2
  have e : betterK 1 b (0, b) = (1, [b.getD 0 0]) := by
    have e1 : pickE 1 b = (0, [b.getD 0 0]) := by rw [pickE_lo (by decide) (by decide), plainE1 hl ha]
    rw [better_take (by rw [e1]) (by rw [e1]; exact h0), e1]
  unfold bestP
  have hs : ∀ k, betterK k b (1, [b.getD 0 0]) = (1, [b.getD 0 0]) := fun k => better_stay hb hl (by omega) (Nat.le_refl 1)
  rw [e, hs, hs]
theorem best_single {b : List Int} (hb : Bytes b) (h1 : b.length = 1) : bestP b = (0, b) := by
  have hs : ∀ k, betterK k b (0, b) = (0, b) := fun k => better_stay hb (by omega) (by omega) (by show b.length ≤ 1; omega)
  unfold bestP
  rw [hs, hs, hs]
theorem b4 : Bytes [4] := by intro x hx; simp at hx; omega
theorem b99 : Bytes [9, 9] := by intro x hx; simp at hx; omega
theorem BestPost.out {b : List Int} {w : World} {e : Ending} {w' : World} (h : BestPost b w e w') (hb : Bytes b) : ∃ A c, e = .returned (.tuple #[.int .i64 (bestP b).1, .slice A (bestP b).2.length c, .int .i64 0]) ∧ BSl w' A c (bestP b).2 ∧ Below w.heap.size w w' := by
  obtain ⟨A, c, he, hr, hbl⟩ := h
  exact ⟨A, c, he, BSl.of hr (best_bytes hb), hbl⟩
set_option maxRecDepth 100000 in
set_option maxHeartbeats 1000000 in
theorem awake22_any (w : World) : Calls Tryz.prog 36 #[] w (Ret (.bool true) w) := by
  go_enter Tryz.func36, Tryz.ntmps36
  go_wp2_with fail
  refine (best_any none 0 [] w (Kd.R_reads' (Kd.R_nil (Kd.int .u8) 5 w w.heap.size (fun _ => True))).2.2 (by intro x hx; cases hx) (by decide)).mono ?_
  intro e w1 h1
  obtain ⟨A1, c1, rfl, hs1, hb1⟩ := h1.out (by intro x hx; cases hx)
  rw [best_nil] at hs1 ⊢
  have HB1 := Lib.hid hb1
  clear h1 hs1 hb1
  go_wp2_with fail
  obtain ⟨w2, hw2⟩ : ∃ w2, w2 = w1.alloc (.cells #[.int .u8 4] 5) := ⟨_, rfl⟩
  have HB2 : Hid (Below w.heap.size w w2) := by show Below _ _ _; rw [hw2]; exact HB1.out.alloc HB1.out.size _
  have HS2 : Hid (BSl w2 (some ⟨w1.heap.size, 0, none⟩) 1 [4]) := by show BSl _ _ _ _; rw [hw2]; exact lit_row [4] b4 (by decide)
  rw [← hw2]
  clear hw2
  refine (best_any (some ⟨w1.heap.size, 0, none⟩) 1 [4] w2 HS2.out.row b4 (by decide)).mono ?_
  intro e w3 h3
  obtain ⟨A3, c3, rfl, hs3, hb3⟩ := h3.out b4
  rw [best_single b4 rfl] at hs3 ⊢
  have HB3 := Lib.hid (below_tr HB2.out hb3)
  have HS3 := Lib.hid hs3
  clear h3 hs3 hb3
  go_wp2_with fail
  obtain ⟨w4, hw4⟩ : ∃ w4, w4 = w3.alloc (.cells #[.int .u8 9, .int .u8 9] 5) := ⟨_, rfl⟩
  have HB4 : Hid (Below w.heap.size w w4) := by show Below _ _ _; rw [hw4]; exact HB3.out.alloc HB3.out.size _
  have HB34 : Hid (Below w3.heap.size w3 w4) := by show Below _ _ _; rw [hw4]; exact (Below.refl _ _).alloc (Nat.le_refl _) _
  have HS4 : Hid (BSl w4 (some ⟨w3.heap.size, 0, none⟩) 2 [9, 9]) := by show BSl _ _ _ _; rw [hw4]; exact lit_row [9, 9] b99 (by decide)
  rw [← hw4]
  clear hw4
  refine (best_any (some ⟨w3.heap.size, 0, none⟩) 2 [9, 9] w4 HS4.out.row b99 (by decide)).mono ?_
  intro e w5 h5
  obtain ⟨A5, c5, rfl, hs5, hb5⟩ := h5.out b99
  rw [best_alike b99 (by decide) (by decide)] at hs5 ⊢
  have HB5 := Lib.hid (below_tr HB4.out hb5)
  have h35 := below_tr HB34.out hb5
  have v1 : (convert 22 9 (.slice A3 1 c3)).run Tryz.prog w5 = .ok (.string ⟨#[4]⟩) w5 := (HS3.out.below h35).str
  have v2 : (convert 22 9 (.slice A5 1 c5)).run Tryz.prog w5 = .ok (.string ⟨#[9]⟩) w5 := hs5.str
  clear h5 hs5 hb5 h35
  go_wp2_with fail
  go_ret
  exact ⟨rfl, HB5.out⟩
end Go.Proofs.YtdkemdcflbadhaaGreat
namespace Go.Proofs.YtdkemdcflbadhaaGreat
open Go.RowKit Go.IntWalk Go.Proofs.YtdkemdcflbadhaaGreatW.PrintWords Go.Proofs.YtdkemdcflbadhaaGreatW.PrintMore
set_option maxRecDepth 100000 in
set_option maxHeartbeats 1000000 in
theorem pickShort_law (A : Option Addr) (ca : Nat) (b : List Int) (w : World) (hr : (Kd.int .u8).C w A b.length b) (hc : b.length ≤ ca) (hby : Bytes b) (_ : b.length * 1 ≤ 140737488351232) :
    Calls Tryz.prog 10 #[.slice A b.length ca] w (Ret (.bool true) w) := by
  have HR := Lib.hid hr
  have HX := Lib.hid hby
  clear hr hc hby
  by_cases h1 : b.length ≤ 200 ∧ 0 < b.length
  · obtain ⟨h1a, h1b⟩ := h1
    have d1 : decide (200 < (b.length : Int)) = false := decide_eq_false (by omega)
    have d2 : ((b.length : Int) == 0) = false := by simp; intro e; subst e; simp at h1b
    have HL := Lib.hid (And.intro h1a h1b)
    clear h1a h1b
    go_enter Tryz.func10, Tryz.ntmps10
    go_wp2_with fail
    refine (awake22_any w).mono ?_
    rintro e w1 ⟨rfl, hb1⟩
    have HB1 := Lib.hid hb1
    clear hb1
    go_wp2_with fail
    refine (best_any A ca b w1 (Kd.C_below HR.out HB1.out) HX.out (by have := HL.out.1; omega)).mono ?_
    intro e w2 h2
    obtain ⟨A2, c2, rfl, hs2, hb2⟩ := h2.out HX.out
    have HO := Lib.hid (best_ok (b := b) (by have := HL.out.1; omega))
    have HBL := Lib.hid (best_len b)
    obtain ⟨⟨k, x⟩, hx⟩ : ∃ x, x = bestP b := ⟨_, rfl⟩
    rw [← hx] at HO HBL ⊢
    have HB2 := Lib.hid (below_tr HB1.out hb2)
    clear h2 hs2 hb2 hx
    dsimp only
    go_wp2_with fail
    refine (encode0_told A ca b w2 (Kd.C_below HR.out HB2.out) HX.out (by have := HL.out.1; omega) HL.out.2).mono ?_
    rintro e w3 ⟨A3, c3, rfl, -, hb3⟩
    have HB3 := Lib.hid (below_tr HB2.out hb3)
    clear hb3
    go_wp2_with fail
    refine (encode1_told A ca b w3 (Kd.C_below HR.out HB3.out) HX.out (by have := HL.out.1; omega) HL.out.2).mono ?_
    rintro e w4 ⟨A4, c4, rfl, -, hb4⟩
    have HB4 := Lib.hid (below_tr HB3.out hb4)
    clear hb4
    have hle : x.length ≤ (body0L b).length ∧ x.length ≤ (body1L b).length ∧ x.length ≤ b.length := by
      have l2 := (HO.out.least 2 (by decide) (by decide) (by rw [pickE_2 HL.out.2])).1
      have l3 := (HO.out.least 3 (by decide) (by decide) (by rw [pickE_3 HL.out.2])).1
      rw [pickE_2 HL.out.2] at l2
      rw [pickE_3 HL.out.2] at l3
      exact ⟨l2, l3, HBL.out⟩
    obtain ⟨n0, hn0⟩ : ∃ n, n = (body0L b).length := ⟨_, rfl⟩
    obtain ⟨n1, hn1⟩ : ∃ n, n = (body1L b).length := ⟨_, rfl⟩
    rw [← hn0, ← hn1] at hle
    rw [← hn0, ← hn1]
    clear hn0 hn1
    go_wp2_with fail
    all_goals
      go_ret
      refine ⟨ret_bool ?_, HB4.out⟩
      first
        | rfl
        | (refine decide_eq_true ?_; omega)
        | (simp; omega)
  · by_cases h2 : 200 < b.length
    · have hI : decide ((200 : Int) < (b.length : Int)) = true := decide_eq_true (by omega)
      clear h1
      go_enter Tryz.func10, Tryz.ntmps10
      go_wp2_with fail
      refine (awake22_any w).mono ?_
      rintro e w1 ⟨rfl, hb1⟩
      have HB1 := Lib.hid hb1
      clear hb1
      go_wp2_with fail
      go_ret
      exact ⟨rfl, HB1.out⟩
    · have h0 : b.length = 0 := by omega
      rw [h0]
      clear h1 h2
      go_enter Tryz.func10, Tryz.ntmps10
      go_wp2_with fail
      refine (awake22_any w).mono ?_
      rintro e w1 ⟨rfl, hb1⟩
      have HB1 := Lib.hid hb1
      clear hb1
      go_wp2_with fail
      go_ret
      exact ⟨rfl, HB1.out⟩
end Go.Proofs.YtdkemdcflbadhaaGreat
namespace Go.Proofs.YtdkemdcflbadhaaGreat
open Go.RowKit Go.IntWalk Go.Proofs.YtdkemdcflbadhaaGreatW.PrintWords
/-- are the first i bytes like the first one? -/
def alkN (b : List Int) (i : Nat) : Bool := decide (0 < b.length) && (b.take i).all (fun x => decide (x = b.getD 0 0))
theorem alkN_zero (b : List Int) : alkN b 0 = decide (0 < b.length) := by unfold alkN; simp
theorem alkN_succ {b : List Int} {i : Nat} (h : i < b.length) : alkN b (i + 1) = (alkN b i && decide (b.getD i 0 = b.getD 0 0)) := by
  have e : b[i] = b.getD i 0 := by rw [List.getD_eq_getElem?_getD, List.getElem?_eq_getElem h]; rfl
  unfold alkN
  rw [List.take_succ_eq_append_getElem h, List.all_append, e]
  simp only [List.all_cons, List.all_nil, Bool.and_true, Bool.and_assoc]
theorem alkN_best {b : List Int} (hb : Bytes b) (hl : b.length ≤ 40000) (h : alkN b b.length = true) : (bestP b).2.length = 1 := by
  unfold alkN at h
  rw [List.take_length, Bool.and_eq_true] at h
  have h0 := of_decide_eq_true h.1
  by_cases h1 : b.length = 1
  · rw [best_single hb h1]; exact h1
  · rw [best_alike hb hl (by unfold alikeB; rw [decide_eq_true (by omega), h.2]; rfl)]; rfl
set_option maxRecDepth 100000 in
set_option maxHeartbeats 2000000 in
theorem pickLeast_any (A : Option Addr) (ca : Nat) (b : List Int) (n : Nat) (w : World) (hr : (Kd.int .u8).C w A b.length b) (hby : Bytes b) (hn : n < 256) :
    Calls Tryz.prog 9 #[.slice A b.length ca, .int .u8 n] w (Ret (.bool true) w) := by
  have HR := Lib.hid hr
  have HX := Lib.hid hby
  clear hr hby
  by_cases h1 : b.length ≤ 200
  · have d1 : decide (200 < (b.length : Int)) = false := decide_eq_false (by omega)
    have HL := Lib.hid h1
    clear h1
    go_enter Tryz.func9, Tryz.ntmps9
    go_wp2_with fail
    refine (awake22_any w).mono ?_
    rintro e w1 ⟨rfl, hb1⟩
    have HB1 := Lib.hid hb1
    clear hb1
    go_wp2_with fail
    refine (best_any A ca b w1 (Kd.C_below HR.out HB1.out) HX.out (by have := HL.out; omega)).mono ?_
    intro e w2 h2
    obtain ⟨A2, c2, rfl, hs2, hb2⟩ := h2.out HX.out
    have HO := Lib.hid (best_ok (b := b) (by have := HL.out; omega))
    have HAl := Lib.hid (fun h => alkN_best HX.out (by have := HL.out; omega) h)
    obtain ⟨⟨k, x⟩, hx⟩ : ∃ x, x = bestP b := ⟨_, rfl⟩
    rw [← hx] at HO HAl hs2 ⊢
    have HB2 := Lib.hid (below_tr HB1.out hb2)
    have HS2 := Lib.hid hs2
    clear h2 hs2 hb2 hx
    dsimp only at HO HAl HS2 ⊢
    go_wp2_with fail
    have HJ : Hid (0 ≤ ((n : Int) % 4) ∧ ((n : Int) % 4) ≤ 3) := Lib.hid (by omega)
    obtain ⟨j, hj⟩ : ∃ j, j = ((n : Int) % 4) := ⟨_, rfl⟩
    rw [← hj] at HJ ⊢
    clear hj
    refine (pickEncode_any A ca j b w2 (Kd.C_below HR.out HB2.out) HX.out (by have := HL.out; omega)).mono ?_
    intro e w3 h3
    obtain ⟨A3, c3, rfl, hs3, hb3⟩ := h3.out (pickE_bytes HX.out)
    have HLs := Lib.hid (HO.out.least j HJ.out.1 HJ.out.2)
    have HE : Hid (k = j → pickE j b = (0, x)) := Lib.hid (fun h => by have := HO.out.is; rw [h] at this; exact this)
    obtain ⟨⟨f, y⟩, hy⟩ : ∃ y, y = pickE j b := ⟨_, rfl⟩
    rw [← hy] at HLs HE hs3 ⊢
    have HB3 := Lib.hid (below_tr HB2.out hb3)
    have HS3 := Lib.hid hs3
    have HS23 := Lib.hid (HS2.out.below hb3)
    have HR3 := Lib.hid (Kd.C_below HR.out HB3.out)
    clear h3 hs3 hb3 hy
    dsimp only at HLs HE HS3 ⊢
    go_wp2_with fail
    go_loopw [12, 13] (fun av iv wr => ∃ i : Nat, i ≤ b.length ∧ iv = .int .i64 i ∧ av = .bool (alkN b i) ∧ Hid (∃ nq, wr = w3.drewN nq)) (fun _ iv _ => b.length - (intOf iv).toNat)
    case atStart => exact ⟨0, by omega, rfl, by rw [alkN_zero], Lib.hid ⟨0, rfl⟩⟩
    case round =>
      obtain ⟨i, hi, rfl, rfl, H⟩ := hrel
      obtain ⟨nq, rfl⟩ := H.out
      by_cases hlt : i < b.length
      · obtain ⟨ad, hA, hc0⟩ := ints_get HR3.out 0 (by omega)
        obtain ⟨ad2, hA2, hci⟩ := ints_get HR3.out i hlt
        rw [hA] at hA2
        injection hA2 with hA2
        subst hA2
        subst hA
        have e0 : ad.add 0 = ad := by simp [Addr.add]
        rw [e0] at hc0
        have hl6 : b.length ≤ 200 := HL.out
        have hI : (i : Int) < (b.length : Int) := by omega
        have hI0 : (0 : Int) < (b.length : Int) := by omega
        have HN := Lib.hid (alkN_succ hlt)
        obtain ⟨al, hal⟩ : ∃ al, al = alkN b i := ⟨_, rfl⟩
        rw [← hal] at HN ⊢
        obtain ⟨p, hp⟩ : ∃ p, p = b.getD i 0 := ⟨_, rfl⟩
        obtain ⟨q, hq⟩ : ∃ q, q = b.getD 0 0 := ⟨_, rfl⟩
        rw [← hp] at hci
        rw [← hq] at hc0
        rw [← hp, ← hq] at HN
        clear hal hp hq e0
        cases al with
        | true =>
          go_wp2_with fail
          go_quiet (fail)
          all_goals
            go_wp2_with fail
            go_roundw
            case rel => exact ⟨i + 1, by omega, by go_num, by rw [HN.out]; rfl, Lib.hid ⟨_, rfl⟩⟩
            case measure => simp [intOf]; omega
        | false =>
          go_wp2_with fail
          go_quiet (fail)
          all_goals
            go_wp2_with fail
            go_roundw
            case rel => exact ⟨i + 1, by omega, by go_num, by rw [HN.out]; rfl, Lib.hid ⟨_, rfl⟩⟩
            case measure => simp [intOf]; omega
      · obtain rfl : i = b.length := by omega
        obtain ⟨al, hal⟩ : ∃ al, al = alkN b b.length := ⟨_, rfl⟩
        rw [← hal] at HAl ⊢
        have HB4 := Lib.hid (pw_below_drewN HB3.out nq)
        have HSx : Hid (BSl (w3.drewN nq) A2 c2 x) := Lib.hid (HS23.out.below (pw_below_drewN (Below.refl _ _) nq))
        have HSy : Hid (BSl (w3.drewN nq) A3 c3 y) := Lib.hid (HS3.out.below (pw_below_drewN (Below.refl _ _) nq))
        obtain ⟨w4, hw4⟩ : ∃ w4, w4 = w3.drewN nq := ⟨_, rfl⟩
        rw [← hw4] at HB4 HSx HSy ⊢
        have hx1 : al = true → ((x.length : Int) == 1) = true := fun h => by have := HAl.out h; rw [this]; rfl
        clear hal hw4
        by_cases f0 : f = 0
        · subst f0
          have hle : decide (y.length < x.length) = false := decide_eq_false (by have := (HLs.out rfl).1; omega)
          have hleI : decide ((y.length : Int) < (x.length : Int)) = false := decide_eq_false (by have := (HLs.out rfl).1; omega)
          have hgd : ((y.length : Int) == (x.length : Int)) = false ∨ decide (j < k) = false := by
            by_cases e : y.length = x.length
            · exact .inr (decide_eq_false (by have := (HLs.out rfl).2 e; omega))
            · exact .inl (by simp; omega)
          by_cases hjk : j = k
          · have HXY : Hid (x = y) := Lib.hid (by have := HE.out hjk.symm; injection this with _ h; exact h.symm)
            subst hjk
            have HSm : Hid (Calls Tryz.prog 23 #[.slice A2 x.length c2, .slice A3 y.length c3] w4 fun e w' => e = .returned (.bool true) ∧ w4 = w') := Lib.hid (by
              have := same_any A2 A3 c2 c3 x y w4 HSx.out.row HSy.out.row HSx.out.by' HSy.out.by'
              rw [decide_eq_true HXY.out] at this; exact this)
            have hjj : decide (j < j) = false := decide_eq_false (by omega)
            cases al with
            | true =>
              have hx2 := hx1 rfl
              clear hx1 hgd
              go_wp2_with fail
              all_goals
                refine HSm.out.mono ?_
                rintro e w5 ⟨rfl, rfl⟩
                go_wp2_with fail
                go_ret
                exact ⟨rfl, HB4.out⟩
            | false =>
              clear hx1 hgd
              go_wp2_with fail
              all_goals
                refine HSm.out.mono ?_
                rintro e w5 ⟨rfl, rfl⟩
                go_wp2_with fail
                go_ret
                exact ⟨rfl, HB4.out⟩
          · have hne : (j == k) = false := by simpa using hjk
            have hne2 : (j != k) = true := by simpa using hjk
            clear hjk
            rcases hgd with hgd | hgd
            all_goals
              cases al with
              | true =>
                have hx2 := hx1 rfl
                clear hx1
                go_wp2_with fail
                all_goals
                  go_ret
                  exact ⟨by first | rfl | exact ret_bool (by simp), HB4.out⟩
              | false =>
                clear hx1
                go_wp2_with fail
                all_goals
                  go_ret
                  exact ⟨by first | rfl | exact ret_bool (by simp), HB4.out⟩
        · have hf0 : (f == 0) = false := by simpa using f0
          have hf2 : (f != 0) = true := by simpa using f0
          clear f0
          cases al with
          | true =>
            have hx2 := hx1 rfl
            clear hx1
            go_wp2_with fail
            go_ret
            exact ⟨by first | rfl | exact ret_bool (by simp), HB4.out⟩
          | false =>
            clear hx1
            go_wp2_with fail
            go_ret
            exact ⟨by first | rfl | exact ret_bool (by simp), HB4.out⟩
  · have hI : decide ((200 : Int) < (b.length : Int)) = true := decide_eq_true (by omega)
    clear h1
    go_enter Tryz.func9, Tryz.ntmps9
    go_wp2_with fail
    refine (awake22_any w).mono ?_
    rintro e w1 ⟨rfl, hb1⟩
    have HB1 := Lib.hid hb1
    clear hb1
    go_wp2_with fail
    go_ret
    exact ⟨rfl, HB1.out⟩
theorem pickLeast_law (A : Option Addr) (ca : Nat) (b : List Int) (n : Int) (w : World) (hr : (Kd.int .u8).C w A b.length b) (_ : b.length ≤ ca) (hby : Bytes b) (_ : b.length * 1 ≤ 140737488351232) (hn : (Lit.int .u8 n).wf = true) :
    Calls Tryz.prog 9 #[.slice A b.length ca, .int .u8 n] w (Ret (.bool true) w) := by
  obtain ⟨k, rfl, hk⟩ := u8_of hn
  exact pickLeast_any A ca b k w hr hby hk
end Go.Proofs.YtdkemdcflbadhaaGreat
