import Derived.Test.YtdiklmnponnlnaaFb
namespace Go.Proofs.Ytdiklmnponnlnaa
open Go.RowKit
theorem bcell {W w1 : World} (hb : Below W.heap.size W w1) : (∀ b o, b < W.heap.size → w1.cell? ⟨b, o, none⟩ = W.cell? ⟨b, o, none⟩) ∧ (∀ b o, b < W.heap.size → w1.frozen? ⟨b, o, none⟩ = W.frozen? ⟨b, o, none⟩) :=
  ⟨fun b o h => hb.cell (p := ⟨b, o, none⟩) h, fun b o h => hb.frozen (p := ⟨b, o, none⟩) h⟩

def cmpK (i q s j p t : Int) : Int :=
  if rightB i q s && rightB j p t then (if cmpI (wrap64 (i * p)) (wrap64 (j * q)) = 0 then cmpI s t else cmpI (wrap64 (i * p)) (wrap64 (j * q))) else 0

theorem cmp_no1 (i q s j p t : Int) (w : World) (h1 : rightB i q s = false) :
    Calls Try.prog 12 #[.agg #[.int .i64 i, .int .i64 q, .int .i64 s], .agg #[.int .i64 j, .int .i64 p, .int .i64 t]] w (Ret (.int .i64 0) w) := by
  have Z0 : Below w.heap.size w ((w.alloc (.cells #[.int .i64 i, .int .i64 q, .int .i64 s] 26)).alloc (.cells #[.int .i64 j, .int .i64 p, .int .i64 t] 26)) := ((Below.refl _ _).alloc (Nat.le_refl _) _).alloc (by simp) _
  go_enter Try.func12, Try.ntmps12
  go_wp2_with fail
  refine (fracRight_any _ _ _ _).mono ?_; rintro e w1 ⟨rfl, hb⟩; obtain ⟨hc1, hf1⟩ := bcell hb; have Z1 := Z0.trans (hb.mono Z0.size); clear hb; clear Z0
  go_wp2_with fail
  go_ret
  exact ⟨rfl, Z1⟩

theorem cmp_no2 (i q s j p t : Int) (w : World) (h1 : rightB i q s = true) (h2 : rightB j p t = false) :
    Calls Try.prog 12 #[.agg #[.int .i64 i, .int .i64 q, .int .i64 s], .agg #[.int .i64 j, .int .i64 p, .int .i64 t]] w (Ret (.int .i64 0) w) := by
  have Z0 : Below w.heap.size w ((w.alloc (.cells #[.int .i64 i, .int .i64 q, .int .i64 s] 26)).alloc (.cells #[.int .i64 j, .int .i64 p, .int .i64 t] 26)) := ((Below.refl _ _).alloc (Nat.le_refl _) _).alloc (by simp) _
  go_enter Try.func12, Try.ntmps12
  go_wp2_with fail
  refine (fracRight_any _ _ _ _).mono ?_; rintro e w1 ⟨rfl, hb⟩; obtain ⟨hc1, hf1⟩ := bcell hb; have Z1 := Z0.trans (hb.mono Z0.size); have s1 := hb.size; clear hb; clear Z0; simp only [World.size_alloc] at s1; have z10 : w.heap.size < w1.heap.size := by omega
  have z11 : w.heap.size + 1 < w1.heap.size := by omega
  go_wp2_with fail
  refine (fracRight_any _ _ _ _).mono ?_; rintro e w2 ⟨rfl, hb⟩; obtain ⟨hc2, hf2⟩ := bcell hb; have Z2 := Z1.trans (hb.mono Z1.size); clear hb; clear Z1
  go_wp2_with fail
  go_ret
  exact ⟨rfl, Z2⟩

set_option maxHeartbeats 400000 in
theorem cmp_ne (i q s j p t : Int) (w : World) (h1 : rightB i q s = true) (h2 : rightB j p t = true) (c : Int) (hc : (c != 0) = true) (hq : Hid (cmpI (wrap64 (i * p)) (wrap64 (j * q)) = c)) :
    Calls Try.prog 12 #[.agg #[.int .i64 i, .int .i64 q, .int .i64 s], .agg #[.int .i64 j, .int .i64 p, .int .i64 t]] w (Ret (.int .i64 c) w) := by
  have Z0 : Below w.heap.size w ((w.alloc (.cells #[.int .i64 i, .int .i64 q, .int .i64 s] 26)).alloc (.cells #[.int .i64 j, .int .i64 p, .int .i64 t] 26)) := ((Below.refl _ _).alloc (Nat.le_refl _) _).alloc (by simp) _
  have H1 : ∀ w, Calls Try.prog 17 #[.agg #[.int .i64 i, .int .i64 q, .int .i64 s], .agg #[.int .i64 j, .int .i64 p, .int .i64 t]] w (Ret (.int .i64 c) w) := fun w => by rw [← Hid.out hq]; exact byWorth_any _ _ _ _ _ _ _
  have HH := Lib.hid H1; clear H1 hq
  go_enter Try.func12, Try.ntmps12
  go_wp2_with fail
  refine (fracRight_any _ _ _ _).mono ?_; rintro e w1 ⟨rfl, hb⟩; obtain ⟨hc1, hf1⟩ := bcell hb; have Z1 := Z0.trans (hb.mono Z0.size); have s1 := hb.size; clear hb; clear Z0; simp only [World.size_alloc] at s1; have z10 : w.heap.size < w1.heap.size := by omega
  have z11 : w.heap.size + 1 < w1.heap.size := by omega
  go_wp2_with fail
  refine (fracRight_any _ _ _ _).mono ?_; rintro e w2 ⟨rfl, hb⟩; obtain ⟨hc2, hf2⟩ := bcell hb; have Z2 := Z1.trans (hb.mono Z1.size); have s2 := hb.size; clear hb; clear Z1; have z20 : w.heap.size < w2.heap.size := by omega
  have z21 : w.heap.size + 1 < w2.heap.size := by omega
  go_wp2_with fail
  refine wp_loop_rounds 2 ?_
  rw [rounds_succ]
  go_wp2_with fail
  refine (HH.out _).mono ?_; rintro e w3 ⟨rfl, hb⟩; obtain ⟨hc3, hf3⟩ := bcell hb; have Z3 := (Z2.alloc Z2.size _).trans (hb.mono (Nat.le_trans Z2.size (by simp))); have s3 := hb.size; clear hb; clear Z2; simp only [World.size_alloc] at s3; have z30 : w.heap.size < w3.heap.size := by omega
  have z31 : w.heap.size + 1 < w3.heap.size := by omega
  have z32 : w2.heap.size < w3.heap.size := by omega
  go_wp2_with fail
  go_ret
  exact ⟨rfl, Z3⟩

set_option maxHeartbeats 400000 in
theorem cmp_eq (i q s j p t : Int) (w : World) (h1 : rightB i q s = true) (h2 : rightB j p t = true) (hq : Hid (cmpI (wrap64 (i * p)) (wrap64 (j * q)) = 0)) (c : Int) (hs : Hid (cmpI s t = c)) :
    Calls Try.prog 12 #[.agg #[.int .i64 i, .int .i64 q, .int .i64 s], .agg #[.int .i64 j, .int .i64 p, .int .i64 t]] w (Ret (.int .i64 c) w) := by
  have Z0 : Below w.heap.size w ((w.alloc (.cells #[.int .i64 i, .int .i64 q, .int .i64 s] 26)).alloc (.cells #[.int .i64 j, .int .i64 p, .int .i64 t] 26)) := ((Below.refl _ _).alloc (Nat.le_refl _) _).alloc (by simp) _
  have H1 : ∀ w, Calls Try.prog 17 #[.agg #[.int .i64 i, .int .i64 q, .int .i64 s], .agg #[.int .i64 j, .int .i64 p, .int .i64 t]] w (Ret (.int .i64 0) w) := fun w => by rw [← Hid.out hq]; exact byWorth_any _ _ _ _ _ _ _
  have H2 : ∀ w, Calls Try.prog 18 #[.agg #[.int .i64 i, .int .i64 q, .int .i64 s], .agg #[.int .i64 j, .int .i64 p, .int .i64 t]] w (Ret (.int .i64 c) w) := fun w => by rw [← Hid.out hs]; exact bySymbol_any _ _ _ _ _ _ _
  have HS := Lib.hid H2; clear H2 hs
  have HH := Lib.hid H1; clear H1 hq
  go_enter Try.func12, Try.ntmps12
  go_wp2_with fail
  refine (fracRight_any _ _ _ _).mono ?_; rintro e w1 ⟨rfl, hb⟩; obtain ⟨hc1, hf1⟩ := bcell hb; have Z1 := Z0.trans (hb.mono Z0.size); have s1 := hb.size; clear hb; clear Z0; simp only [World.size_alloc] at s1; have z10 : w.heap.size < w1.heap.size := by omega
  have z11 : w.heap.size + 1 < w1.heap.size := by omega
  go_wp2_with fail
  refine (fracRight_any _ _ _ _).mono ?_; rintro e w2 ⟨rfl, hb⟩; obtain ⟨hc2, hf2⟩ := bcell hb; have Z2 := Z1.trans (hb.mono Z1.size); have s2 := hb.size; clear hb; clear Z1; have z20 : w.heap.size < w2.heap.size := by omega
  have z21 : w.heap.size + 1 < w2.heap.size := by omega
  go_wp2_with fail
  refine wp_loop_rounds 3 ?_
  rw [rounds_succ]
  go_wp2_with fail
  refine (HH.out _).mono ?_; rintro e w3 ⟨rfl, hb⟩; obtain ⟨hc3, hf3⟩ := bcell hb; have Z3 := (Z2.alloc Z2.size _).trans (hb.mono (Nat.le_trans Z2.size (by simp))); have s3 := hb.size; clear hb; clear Z2; simp only [World.size_alloc] at s3; have z30 : w.heap.size < w3.heap.size := by omega
  have z31 : w.heap.size + 1 < w3.heap.size := by omega
  have z32 : w2.heap.size < w3.heap.size := by omega
  go_wp2_with fail
  rw [rounds_succ]
  go_wp2_with fail
  refine (HS.out _).mono ?_; rintro e w4 ⟨rfl, hb⟩; obtain ⟨hc4, hf4⟩ := bcell hb; have Z4 := Z3.trans (hb.mono Z3.size); clear hb; clear Z3
  by_cases hc : (c != 0) = true
  · go_wp2_with fail
    go_ret
    exact ⟨rfl, Z4⟩
  · have hc' : (c != 0) = false := by simpa using hc
    clear hc
    go_wp2_with fail
    rw [rounds_succ]
    go_wp2_with fail
    go_ret
    exact ⟨by have : c = 0 := by simpa using hc'
              rw [this]; rfl, Z4⟩

theorem cmp_any (i q s j p t : Int) (w : World) :
    Calls Try.prog 12 #[.agg #[.int .i64 i, .int .i64 q, .int .i64 s], .agg #[.int .i64 j, .int .i64 p, .int .i64 t]] w (Ret (.int .i64 (cmpK i q s j p t)) w) := by
  unfold cmpK
  by_cases h1 : rightB i q s = true
  · by_cases h2 : rightB j p t = true
    · rw [if_pos (by simp [h1, h2])]
      by_cases h3 : cmpI (wrap64 (i * p)) (wrap64 (j * q)) = 0
      · rw [if_pos h3]; exact cmp_eq _ _ _ _ _ _ _ h1 h2 h3 _ rfl
      · rw [if_neg h3]; exact cmp_ne _ _ _ _ _ _ _ h1 h2 _ (by simpa using h3) rfl
    · rw [if_neg (by simp [h1, h2])]; exact cmp_no2 _ _ _ _ _ _ _ h1 (by simpa using h2)
  · rw [if_neg (by simp [h1])]; exact cmp_no1 _ _ _ _ _ _ _ (by simpa using h1)
end Go.Proofs.Ytdiklmnponnlnaa
