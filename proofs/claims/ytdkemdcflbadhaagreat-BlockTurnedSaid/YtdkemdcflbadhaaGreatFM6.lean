/- The walk of block.Put. -/
import Derived.Test.YtdkemdcflbadhaaGreatFM1
import Derived.Test.YtdkemdcflbadhaaGreatFM2
import Derived.Test.YtdkemdcflbadhaaGreatFM4
import Derived.Test.YtdkemdcflbadhaaGreatFM5
import Derived.Test.YtdkemdcflbadhaaGreatFS1
import Derived.Test.YtdkemdcflbadhaaGreatFM0
namespace Go.Proofs.YtdkemdcflbadhaaGreat
open Go.RowKit Go.IntWalk Go.Proofs.YtdkemdcflbadhaaGreatW.PrintWords
theorem or_4 {k : Nat} (h : k ≤ 3) : bits .or .i64 (k : Int) 4 = ((k + 4 : Nat) : Int) := by
  have h1 := or_i64 k 4 (by omega) (by decide)
  have h2 : k ||| 4 = k + 4 := by
    have : k = 0 ∨ k = 1 ∨ k = 2 ∨ k = 3 := by omega
    rcases this with rfl | rfl | rfl | rfl <;> rfl
  rw [h2] at h1; exact h1
/-- what block.Put stands on -/
structure PutF (k kk sm : Nat) (x e1 e2 e3 B : List Int) : Prop where
  kk7 : kk ≤ 7
  sm' : sm = crcAdd 0 x
  e1l : e1.length = 3
  e2l : e2.length = 3
  e3l : e3.length = 4
  all : B = (([(kk : Int)] ++ e1) ++ e2) ++ e3 ++ x
theorem putF {b : List Int} (hl : b.length ≤ 40000) (last : Bool) : ∃ k kk sm : Nat, (bestP b).1 = k ∧ k ≤ 3 ∧ kk = k + (if last then 4 else 0) ∧ sm < 4294967296 ∧ PutF k kk sm (bestP b).2 (leN b.length 3) (leN (bestP b).2.length 3) (leN sm 4) (putM b last) := by
  obtain ⟨k, hk, hk3⟩ := best_kind (b := b) (by omega)
  have hcl := crcAdd_le 0 (bestP b).2
  refine ⟨k, _, crcAdd 0 (bestP b).2, hk, hk3, rfl, by omega, by split <;> omega, rfl, leN_len _ _, leN_len _ _, leN_len _ _, ?_⟩
  unfold putM
  rw [hk]
  cases last <;> simp
set_option maxRecDepth 100000 in
set_option maxHeartbeats 2000000 in
theorem blockPut_false (A : Option Addr) (c : Nat) (b : List Int) (w : World) (hr : (Kd.int .u8).C w A b.length b) (hb : Bytes b) (hl : b.length ≤ 40000) (h0 : 0 < b.length) :
    Calls Tryz.prog 46 #[.slice A b.length c, .bool false] w (Told 0 (putM b false) w) := by
  have d1 : decide ((131072 : Int) < (b.length : Int)) = false := decide_eq_false (by omega)
  have hn0 : ((b.length : Int) == 0) = false := by simp; intro e; subst e; simp at h0
  have HBest := Lib.hid (best_any A c b w hr hb hl)
  have HBy := Lib.hid (best_bytes hb)
  have hbl := best_len b
  obtain ⟨k, kk, sm, hk, hk3, hkk, hsm4, hF⟩ := putF hl false
  have HF := Lib.hid hF
  obtain ⟨x, hx⟩ : ∃ x, x = (bestP b).2 := ⟨_, rfl⟩
  unfold BestPost at HBest
  rw [hk, ← hx] at HBest
  rw [← hx] at HBy hbl HF
  have hxl : x.length ≤ 40000 := by omega
  have hw1 : IntKind.u32.wrap (b.length : Int) = (b.length : Int) := by rw [IntKind.wrap_u32']; omega
  have hw2 : IntKind.u32.wrap (x.length : Int) = (x.length : Int) := by rw [IntKind.wrap_u32']; omega
  have hkk7 := hF.kk7
  have hw3 : IntKind.u8.wrap (kk : Int) = (kk : Int) := by rw [IntKind.wrap_u8']; omega
  have HLit1 := Lib.hid (fun W : World => little_any b.length 3 W (by omega) (by decide))
  have HLit2 := Lib.hid (fun W : World => little_any x.length 3 W (by omega) (by decide))
  have HLit3 := Lib.hid (fun W : World => little_any sm 4 W hsm4 (by decide))
  obtain ⟨e1, he1⟩ : ∃ l, l = leN b.length 3 := ⟨_, rfl⟩
  obtain ⟨e2, he2⟩ : ∃ l, l = leN x.length 3 := ⟨_, rfl⟩
  obtain ⟨e3, he3⟩ : ∃ l, l = leN sm 4 := ⟨_, rfl⟩
  rw [← he1] at HF HLit1
  rw [← he2] at HF HLit2
  rw [← he3] at HF HLit3
  have hk2 : kk = k := by rw [hkk]; rfl
  subst hk2
  obtain ⟨B, hB⟩ : ∃ l, l = putM b false := ⟨_, rfl⟩
  rw [← hB] at HF ⊢
  have HXl := Lib.hid hxl
  clear hr hb hk hk3 hkk hx he1 he2 he3 hl hbl hkk7 hsm4 hF hB
  go_enter Tryz.func46, Tryz.ntmps46
  go_wp2_with fail
  refine HBest.out.mono ?_
  rintro e w1 ⟨Ax, cx, rfl, hvx, hb1⟩
  have HX1 := Lib.hid (Kd.R_reads' hvx).2.2
  have HB1 := Lib.hid hb1
  have hbl2 : Below w1.heap.size w1 (w1.alloc (.cells #[.int .u8 (kk : Int)] 5)) := (Below.refl _ _).alloc (Nat.le_refl _) _
  have HO1 : Hid ((Kd.int .u8).R 5 (w1.alloc (.cells #[.int .u8 (kk : Int)] 5)) w1.heap.size (fun _ => True) (.slice (some ⟨w1.heap.size, 0, none⟩) 1 1) [(kk : Int)]) := Lib.hid (row_lit .u8 5 w1 w1.heap.size (fun _ => True) trivial (Nat.le_refl _) [(kk : Int)] (by simp))
  have HBl2 := Lib.hid hbl2
  clear hvx hb1 hbl2
  go_wp2_with fail
  refine (HLit1.out _).mono ?_
  rintro e w2 ⟨v2, rfl, hv2, hb2⟩
  obtain ⟨A2, c2, rfl⟩ := Kd.R_slice hv2
  have HO2 := Lib.hid (Kd.R_below HO1.out hb2)
  have HD2 : Hid ((Kd.int .u8).C w2 A2 3 e1) := Lib.hid (by have := (Kd.R_reads' hv2).2.2; rw [HF.out.e1l] at this; exact this)
  have HB2 := Lib.hid (below_tr HBl2.out hb2)
  have HS2 := Lib.hid (below_tr HBl2.out hb2).size
  have HN2 : Hid (([(kk : Int)].length + 3) * 1 ≤ 140737488355328) := Lib.hid (by simp)
  have HZ2 : Hid (([(kk : Int)] ++ e1).length = 4) := Lib.hid (by rw [List.length_append, HF.out.e1l]; rfl)
  rw [HF.out.e1l]
  clear hv2 hb2
  go_wp2_with (at_builtin; refine Kd.R_append_rows (Kd.int .u8) (Rr := (Kd.int .u8).K w2) (w0 := w1) (W := w2) w1.heap.size rfl (.tmp 33) (.tmp 37) 22 5 (.int .u8 0) 1 rfl Tryz.underlying22 infoU8 rfl (by decide) (by decide) (.slice (some ⟨w1.heap.size, 0, none⟩) 1 1) ([(kk : Int)]) (e1) A2 3 c2 (fun _ => True) (fun _ => False) rfl rfl HO2.out HD2.out (fun _ _ h => h) (fun _ h => h.elim) (fun _ _ => trivial) HB2.out HS2.out HN2.out ?_; intro v3 w3 hr3 hb3 hg3 hat3; obtain ⟨A3, c3, rfl⟩ := Kd.R_slice hr3; rw [HZ2.out] at hr3 ⊢; have HR3 := Lib.hid (And.intro hr3 hb3); clear hr3 hb3 hg3 hat3)
  obtain ⟨L1, hL1⟩ : ∃ l, l = [(kk : Int)] ++ e1 := ⟨_, rfl⟩
  rw [← hL1] at HR3 HZ2
  have HL1 := Lib.hid hL1
  clear hL1
  refine (HLit2.out _).mono ?_
  rintro e w4 ⟨v4, rfl, hv4, hb4⟩
  obtain ⟨A4, c4, rfl⟩ := Kd.R_slice hv4
  have HO4 := Lib.hid (Kd.R_below HR3.out.1 hb4)
  have HD4 : Hid ((Kd.int .u8).C w4 A4 3 e2) := Lib.hid (by have := (Kd.R_reads' hv4).2.2; rw [HF.out.e2l] at this; exact this)
  have HB4 := Lib.hid (HR3.out.2.trans (hb4.mono HR3.out.2.size))
  have HS4 := Lib.hid HB4.out.size
  have HN4 : Hid ((L1.length + 3) * 1 ≤ 140737488355328) := Lib.hid (by rw [HZ2.out]; decide)
  have HZ4 : Hid ((L1 ++ e2).length = 7) := Lib.hid (by rw [List.length_append, HZ2.out, HF.out.e2l])
  rw [HF.out.e2l]
  clear hv4 hb4
  go_wp2_with (at_builtin; refine Kd.R_append_rows (Kd.int .u8) (Rr := (Kd.int .u8).K w4) (w0 := w1) (W := w4) w1.heap.size rfl (.tmp 39) (.tmp 43) 22 5 (.int .u8 0) 1 rfl Tryz.underlying22 infoU8 rfl (by decide) (by decide) (.slice A3 4 c3) (L1) (e2) A4 3 c4 (fun _ => True) (fun _ => False) rfl rfl HO4.out HD4.out (fun _ _ h => h) (fun _ h => h.elim) (fun _ _ => trivial) HB4.out HS4.out HN4.out ?_; intro v5 w5 hr5 hb5 hg5 hat5; obtain ⟨A5, c5, rfl⟩ := Kd.R_slice hr5; rw [HZ4.out] at hr5 ⊢; have HR5 := Lib.hid (And.intro hr5 hb5); clear hr5 hb5 hg5 hat5)
  obtain ⟨L2, hL2⟩ : ∃ l, l = L1 ++ e2 := ⟨_, rfl⟩
  rw [← hL2] at HR5 HZ4
  have HL2 := Lib.hid hL2
  clear hL2
  refine (crcNew_any w5).mono ?_
  rintro e w6 ⟨p, rfl, hp6, ht6, hb6⟩
  have HT6 := Lib.hid ht6
  have HB6 := Lib.hid (HR5.out.2.trans (hb6.mono HR5.out.2.size))
  have HO6 := Lib.hid (Kd.R_below HR5.out.1 hb6)
  have HX6 := Lib.hid (Kd.C_below HX1.out HB6.out)
  have HCr := Lib.hid (crcOf_any p Ax cx x w6 HT6.out HX6.out (by have := HXl.out; omega) HBy.out)
  rw [← HF.out.sm'] at HCr
  clear hp6 ht6 hb6
  go_wp2_with fail
  refine HCr.out.mono ?_
  rintro e w6' ⟨rfl, rfl⟩
  go_wp2_with fail
  refine (HLit3.out _).mono ?_
  rintro e w7 ⟨v7, rfl, hv7, hb7⟩
  obtain ⟨A7, c7, rfl⟩ := Kd.R_slice hv7
  have HO7 := Lib.hid (Kd.R_below HO6.out hb7)
  have HD7 : Hid ((Kd.int .u8).C w7 A7 4 e3) := Lib.hid (by have := (Kd.R_reads' hv7).2.2; rw [HF.out.e3l] at this; exact this)
  have HB7 := Lib.hid (HB6.out.trans (hb7.mono HB6.out.size))
  have HS7 := Lib.hid HB7.out.size
  have HN7 : Hid ((L2.length + 4) * 1 ≤ 140737488355328) := Lib.hid (by rw [HZ4.out]; decide)
  have HZ7 : Hid ((L2 ++ e3).length = 11) := Lib.hid (by rw [List.length_append, HZ4.out, HF.out.e3l])
  have HALL : Hid (L2 ++ e3 ++ x = B) := Lib.hid (by rw [HL2.out, HL1.out]; exact HF.out.all.symm)
  rw [HF.out.e3l]
  clear hv7 hb7
  go_wp2_with (at_builtin; first
    | (refine Kd.R_append_rows (Kd.int .u8) (Rr := (Kd.int .u8).K w7) (w0 := w1) (W := w7) w1.heap.size rfl (.tmp 45) (.tmp 49) 22 5 (.int .u8 0) 1 rfl Tryz.underlying22 infoU8 rfl (by decide) (by decide) (.slice A5 7 c5) (L2) (e3) A7 4 c7 (fun _ => True) (fun _ => False) rfl rfl HO7.out HD7.out (fun _ _ h => h) (fun _ h => h.elim) (fun _ _ => trivial) HB7.out HS7.out HN7.out ?_; intro v8 w8 hr8 hb8 hg8 hat8; obtain ⟨A8, c8, rfl⟩ := Kd.R_slice hr8; rw [HZ7.out] at hr8 ⊢; have HR8 := Lib.hid (And.intro hr8 hb8); clear hr8 hb8 hg8 hat8; have HS8 := Lib.hid HR8.out.2.size; have HX8 := Lib.hid (Kd.C_below HX1.out HR8.out.2); have HN8 : Hid (((L2 ++ e3).length + x.length) * 1 ≤ 140737488355328) := Lib.hid (by rw [HZ7.out]; have := HXl.out; omega))
    | (refine Kd.R_append_rows (Kd.int .u8) (Rr := (Kd.int .u8).K w8) (w0 := w1) (W := w8) w1.heap.size rfl (.tmp 51) (.tmp 52) 22 5 (.int .u8 0) 1 rfl Tryz.underlying22 infoU8 rfl (by decide) (by decide) (.slice A8 11 c8) (L2 ++ e3) x Ax x.length cx (fun _ => True) (fun _ => False) rfl rfl HR8.out.1 HX8.out (fun _ _ h => h) (fun _ h => h.elim) (fun _ _ => trivial) HR8.out.2 HS8.out HN8.out ?_; intro v9 w9 hr9 hb9 hg9 hat9; rw [HALL.out] at hr9; obtain ⟨A9, c9, rfl⟩ := Kd.R_slice hr9; have HR9 := Lib.hid (And.intro hr9 hb9); clear hr9 hb9 hg9 hat9))
  go_ret2
  exact ⟨A9, c9, rfl, Kd.R_lower HR9.out.1 HB1.out.size, below_tr HB1.out HR9.out.2⟩
set_option maxRecDepth 100000 in
set_option maxHeartbeats 2000000 in
theorem blockPut_true (A : Option Addr) (c : Nat) (b : List Int) (w : World) (hr : (Kd.int .u8).C w A b.length b) (hb : Bytes b) (hl : b.length ≤ 40000) (h0 : 0 < b.length) :
    Calls Tryz.prog 46 #[.slice A b.length c, .bool true] w (Told 0 (putM b true) w) := by
  have d1 : decide ((131072 : Int) < (b.length : Int)) = false := decide_eq_false (by omega)
  have hn0 : ((b.length : Int) == 0) = false := by simp; intro e; subst e; simp at h0
  have HBest := Lib.hid (best_any A c b w hr hb hl)
  have HBy := Lib.hid (best_bytes hb)
  have hbl := best_len b
  obtain ⟨k, kk, sm, hk, hk3, hkk, hsm4, hF⟩ := putF hl true
  have HF := Lib.hid hF
  obtain ⟨x, hx⟩ : ∃ x, x = (bestP b).2 := ⟨_, rfl⟩
  unfold BestPost at HBest
  rw [hk, ← hx] at HBest
  rw [← hx] at HBy hbl HF
  have hxl : x.length ≤ 40000 := by omega
  have hw1 : IntKind.u32.wrap (b.length : Int) = (b.length : Int) := by rw [IntKind.wrap_u32']; omega
  have hw2 : IntKind.u32.wrap (x.length : Int) = (x.length : Int) := by rw [IntKind.wrap_u32']; omega
  have hkk7 := hF.kk7
  have hw3 : IntKind.u8.wrap (kk : Int) = (kk : Int) := by rw [IntKind.wrap_u8']; omega
  have HLit1 := Lib.hid (fun W : World => little_any b.length 3 W (by omega) (by decide))
  have HLit2 := Lib.hid (fun W : World => little_any x.length 3 W (by omega) (by decide))
  have HLit3 := Lib.hid (fun W : World => little_any sm 4 W hsm4 (by decide))
  obtain ⟨e1, he1⟩ : ∃ l, l = leN b.length 3 := ⟨_, rfl⟩
  obtain ⟨e2, he2⟩ : ∃ l, l = leN x.length 3 := ⟨_, rfl⟩
  obtain ⟨e3, he3⟩ : ∃ l, l = leN sm 4 := ⟨_, rfl⟩
  rw [← he1] at HF HLit1
  rw [← he2] at HF HLit2
  rw [← he3] at HF HLit3
  have hor : bits .or .i64 (k : Int) 4 = (kk : Int) := by rw [hkk]; exact or_4 hk3
  obtain ⟨B, hB⟩ : ∃ l, l = putM b true := ⟨_, rfl⟩
  rw [← hB] at HF ⊢
  have HXl := Lib.hid hxl
  clear hr hb hk hk3 hkk hx he1 he2 he3 hl hbl hkk7 hsm4 hF hB
  go_enter Tryz.func46, Tryz.ntmps46
  go_wp2_with fail
  refine HBest.out.mono ?_
  rintro e w1 ⟨Ax, cx, rfl, hvx, hb1⟩
  have HX1 := Lib.hid (Kd.R_reads' hvx).2.2
  have HB1 := Lib.hid hb1
  have hbl2 : Below w1.heap.size w1 (w1.alloc (.cells #[.int .u8 (kk : Int)] 5)) := (Below.refl _ _).alloc (Nat.le_refl _) _
  have HO1 : Hid ((Kd.int .u8).R 5 (w1.alloc (.cells #[.int .u8 (kk : Int)] 5)) w1.heap.size (fun _ => True) (.slice (some ⟨w1.heap.size, 0, none⟩) 1 1) [(kk : Int)]) := Lib.hid (row_lit .u8 5 w1 w1.heap.size (fun _ => True) trivial (Nat.le_refl _) [(kk : Int)] (by simp))
  have HBl2 := Lib.hid hbl2
  clear hvx hb1 hbl2
  go_wp2_with fail
  refine (HLit1.out _).mono ?_
  rintro e w2 ⟨v2, rfl, hv2, hb2⟩
  obtain ⟨A2, c2, rfl⟩ := Kd.R_slice hv2
  have HO2 := Lib.hid (Kd.R_below HO1.out hb2)
  have HD2 : Hid ((Kd.int .u8).C w2 A2 3 e1) := Lib.hid (by have := (Kd.R_reads' hv2).2.2; rw [HF.out.e1l] at this; exact this)
  have HB2 := Lib.hid (below_tr HBl2.out hb2)
  have HS2 := Lib.hid (below_tr HBl2.out hb2).size
  have HN2 : Hid (([(kk : Int)].length + 3) * 1 ≤ 140737488355328) := Lib.hid (by simp)
  have HZ2 : Hid (([(kk : Int)] ++ e1).length = 4) := Lib.hid (by rw [List.length_append, HF.out.e1l]; rfl)
  rw [HF.out.e1l]
  clear hv2 hb2
  go_wp2_with (at_builtin; refine Kd.R_append_rows (Kd.int .u8) (Rr := (Kd.int .u8).K w2) (w0 := w1) (W := w2) w1.heap.size rfl (.tmp 33) (.tmp 37) 22 5 (.int .u8 0) 1 rfl Tryz.underlying22 infoU8 rfl (by decide) (by decide) (.slice (some ⟨w1.heap.size, 0, none⟩) 1 1) ([(kk : Int)]) (e1) A2 3 c2 (fun _ => True) (fun _ => False) rfl rfl HO2.out HD2.out (fun _ _ h => h) (fun _ h => h.elim) (fun _ _ => trivial) HB2.out HS2.out HN2.out ?_; intro v3 w3 hr3 hb3 hg3 hat3; obtain ⟨A3, c3, rfl⟩ := Kd.R_slice hr3; rw [HZ2.out] at hr3 ⊢; have HR3 := Lib.hid (And.intro hr3 hb3); clear hr3 hb3 hg3 hat3)
  obtain ⟨L1, hL1⟩ : ∃ l, l = [(kk : Int)] ++ e1 := ⟨_, rfl⟩
  rw [← hL1] at HR3 HZ2
  have HL1 := Lib.hid hL1
  clear hL1
  refine (HLit2.out _).mono ?_
  rintro e w4 ⟨v4, rfl, hv4, hb4⟩
  obtain ⟨A4, c4, rfl⟩ := Kd.R_slice hv4
  have HO4 := Lib.hid (Kd.R_below HR3.out.1 hb4)
  have HD4 : Hid ((Kd.int .u8).C w4 A4 3 e2) := Lib.hid (by have := (Kd.R_reads' hv4).2.2; rw [HF.out.e2l] at this; exact this)
  have HB4 := Lib.hid (HR3.out.2.trans (hb4.mono HR3.out.2.size))
  have HS4 := Lib.hid HB4.out.size
  have HN4 : Hid ((L1.length + 3) * 1 ≤ 140737488355328) := Lib.hid (by rw [HZ2.out]; decide)
  have HZ4 : Hid ((L1 ++ e2).length = 7) := Lib.hid (by rw [List.length_append, HZ2.out, HF.out.e2l])
  rw [HF.out.e2l]
  clear hv4 hb4
  go_wp2_with (at_builtin; refine Kd.R_append_rows (Kd.int .u8) (Rr := (Kd.int .u8).K w4) (w0 := w1) (W := w4) w1.heap.size rfl (.tmp 39) (.tmp 43) 22 5 (.int .u8 0) 1 rfl Tryz.underlying22 infoU8 rfl (by decide) (by decide) (.slice A3 4 c3) (L1) (e2) A4 3 c4 (fun _ => True) (fun _ => False) rfl rfl HO4.out HD4.out (fun _ _ h => h) (fun _ h => h.elim) (fun _ _ => trivial) HB4.out HS4.out HN4.out ?_; intro v5 w5 hr5 hb5 hg5 hat5; obtain ⟨A5, c5, rfl⟩ := Kd.R_slice hr5; rw [HZ4.out] at hr5 ⊢; have HR5 := Lib.hid (And.intro hr5 hb5); clear hr5 hb5 hg5 hat5)
  obtain ⟨L2, hL2⟩ : ∃ l, l = L1 ++ e2 := ⟨_, rfl⟩
  rw [← hL2] at HR5 HZ4
  have HL2 := Lib.hid hL2
  clear hL2
  refine (crcNew_any w5).mono ?_
  rintro e w6 ⟨p, rfl, hp6, ht6, hb6⟩
  have HT6 := Lib.hid ht6
  have HB6 := Lib.hid (HR5.out.2.trans (hb6.mono HR5.out.2.size))
  have HO6 := Lib.hid (Kd.R_below HR5.out.1 hb6)
  have HX6 := Lib.hid (Kd.C_below HX1.out HB6.out)
  have HCr := Lib.hid (crcOf_any p Ax cx x w6 HT6.out HX6.out (by have := HXl.out; omega) HBy.out)
  rw [← HF.out.sm'] at HCr
  clear hp6 ht6 hb6
  go_wp2_with fail
  refine HCr.out.mono ?_
  rintro e w6' ⟨rfl, rfl⟩
  go_wp2_with fail
  refine (HLit3.out _).mono ?_
  rintro e w7 ⟨v7, rfl, hv7, hb7⟩
  obtain ⟨A7, c7, rfl⟩ := Kd.R_slice hv7
  have HO7 := Lib.hid (Kd.R_below HO6.out hb7)
  have HD7 : Hid ((Kd.int .u8).C w7 A7 4 e3) := Lib.hid (by have := (Kd.R_reads' hv7).2.2; rw [HF.out.e3l] at this; exact this)
  have HB7 := Lib.hid (HB6.out.trans (hb7.mono HB6.out.size))
  have HS7 := Lib.hid HB7.out.size
  have HN7 : Hid ((L2.length + 4) * 1 ≤ 140737488355328) := Lib.hid (by rw [HZ4.out]; decide)
  have HZ7 : Hid ((L2 ++ e3).length = 11) := Lib.hid (by rw [List.length_append, HZ4.out, HF.out.e3l])
  have HALL : Hid (L2 ++ e3 ++ x = B) := Lib.hid (by rw [HL2.out, HL1.out]; exact HF.out.all.symm)
  rw [HF.out.e3l]
  clear hv7 hb7
  go_wp2_with (at_builtin; first
    | (refine Kd.R_append_rows (Kd.int .u8) (Rr := (Kd.int .u8).K w7) (w0 := w1) (W := w7) w1.heap.size rfl (.tmp 45) (.tmp 49) 22 5 (.int .u8 0) 1 rfl Tryz.underlying22 infoU8 rfl (by decide) (by decide) (.slice A5 7 c5) (L2) (e3) A7 4 c7 (fun _ => True) (fun _ => False) rfl rfl HO7.out HD7.out (fun _ _ h => h) (fun _ h => h.elim) (fun _ _ => trivial) HB7.out HS7.out HN7.out ?_; intro v8 w8 hr8 hb8 hg8 hat8; obtain ⟨A8, c8, rfl⟩ := Kd.R_slice hr8; rw [HZ7.out] at hr8 ⊢; have HR8 := Lib.hid (And.intro hr8 hb8); clear hr8 hb8 hg8 hat8; have HS8 := Lib.hid HR8.out.2.size; have HX8 := Lib.hid (Kd.C_below HX1.out HR8.out.2); have HN8 : Hid (((L2 ++ e3).length + x.length) * 1 ≤ 140737488355328) := Lib.hid (by rw [HZ7.out]; have := HXl.out; omega))
    | (refine Kd.R_append_rows (Kd.int .u8) (Rr := (Kd.int .u8).K w8) (w0 := w1) (W := w8) w1.heap.size rfl (.tmp 51) (.tmp 52) 22 5 (.int .u8 0) 1 rfl Tryz.underlying22 infoU8 rfl (by decide) (by decide) (.slice A8 11 c8) (L2 ++ e3) x Ax x.length cx (fun _ => True) (fun _ => False) rfl rfl HR8.out.1 HX8.out (fun _ _ h => h) (fun _ h => h.elim) (fun _ _ => trivial) HR8.out.2 HS8.out HN8.out ?_; intro v9 w9 hr9 hb9 hg9 hat9; rw [HALL.out] at hr9; obtain ⟨A9, c9, rfl⟩ := Kd.R_slice hr9; have HR9 := Lib.hid (And.intro hr9 hb9); clear hr9 hb9 hg9 hat9))
  go_ret2
  exact ⟨A9, c9, rfl, Kd.R_lower HR9.out.1 HB1.out.size, below_tr HB1.out HR9.out.2⟩
set_option maxRecDepth 100000 in
set_option maxHeartbeats 2000000 in
theorem blockPut_nil (A : Option Addr) (c : Nat) (b : List Int) (w : World) (hr : (Kd.int .u8).C w A b.length b) (hb : Bytes b) (hl : b.length ≤ 40000) (h0 : b = []) :
    Calls Tryz.prog 46 #[.slice A 0 c, .bool true] w (Told 0 (putM b true) w) := by
  have hb0 : b.length = 0 := by rw [h0]; rfl
  have HBest := Lib.hid (best_any A c b w hr hb hl)
  have HBy := Lib.hid (best_bytes hb)
  have hbl := best_len b
  obtain ⟨k, kk, sm, hk, hk3, hkk, hsm4, hF⟩ := putF hl true
  have HF := Lib.hid hF
  obtain ⟨x, hx⟩ : ∃ x, x = (bestP b).2 := ⟨_, rfl⟩
  unfold BestPost at HBest
  rw [hb0] at HBest
  rw [hk, ← hx] at HBest
  rw [← hx] at HBy hbl HF
  have hxl : x.length ≤ 40000 := by omega
  have hw2 : IntKind.u32.wrap (x.length : Int) = (x.length : Int) := by rw [IntKind.wrap_u32']; omega
  have hkk7 := hF.kk7
  have hw3 : IntKind.u8.wrap (kk : Int) = (kk : Int) := by rw [IntKind.wrap_u8']; omega
  have HLit1 := Lib.hid (fun W : World => little_any b.length 3 W (by omega) (by decide))
  rw [hb0] at HLit1 HF
  have HLit2 := Lib.hid (fun W : World => little_any x.length 3 W (by omega) (by decide))
  have HLit3 := Lib.hid (fun W : World => little_any sm 4 W hsm4 (by decide))
  obtain ⟨e1, he1⟩ : ∃ l, l = leN 0 3 := ⟨_, rfl⟩
  obtain ⟨e2, he2⟩ : ∃ l, l = leN x.length 3 := ⟨_, rfl⟩
  obtain ⟨e3, he3⟩ : ∃ l, l = leN sm 4 := ⟨_, rfl⟩
  rw [← he1] at HF HLit1
  rw [← he2] at HF HLit2
  rw [← he3] at HF HLit3
  have hor : bits .or .i64 (k : Int) 4 = (kk : Int) := by rw [hkk]; exact or_4 hk3
  obtain ⟨B, hB⟩ : ∃ l, l = putM b true := ⟨_, rfl⟩
  rw [← hB] at HF ⊢
  have HXl := Lib.hid hxl
  clear hr hb hk hk3 hkk hx he1 he2 he3 hl hbl hkk7 hsm4 hF hB
  go_enter Tryz.func46, Tryz.ntmps46
  go_wp2_with fail
  refine HBest.out.mono ?_
  rintro e w1 ⟨Ax, cx, rfl, hvx, hb1⟩
  have HX1 := Lib.hid (Kd.R_reads' hvx).2.2
  have HB1 := Lib.hid hb1
  have hbl2 : Below w1.heap.size w1 (w1.alloc (.cells #[.int .u8 (kk : Int)] 5)) := (Below.refl _ _).alloc (Nat.le_refl _) _
  have HO1 : Hid ((Kd.int .u8).R 5 (w1.alloc (.cells #[.int .u8 (kk : Int)] 5)) w1.heap.size (fun _ => True) (.slice (some ⟨w1.heap.size, 0, none⟩) 1 1) [(kk : Int)]) := Lib.hid (row_lit .u8 5 w1 w1.heap.size (fun _ => True) trivial (Nat.le_refl _) [(kk : Int)] (by simp))
  have HBl2 := Lib.hid hbl2
  clear hvx hb1 hbl2
  go_wp2_with fail
  refine (HLit1.out _).mono ?_
  rintro e w2 ⟨v2, rfl, hv2, hb2⟩
  obtain ⟨A2, c2, rfl⟩ := Kd.R_slice hv2
  have HO2 := Lib.hid (Kd.R_below HO1.out hb2)
  have HD2 : Hid ((Kd.int .u8).C w2 A2 3 e1) := Lib.hid (by have := (Kd.R_reads' hv2).2.2; rw [HF.out.e1l] at this; exact this)
  have HB2 := Lib.hid (below_tr HBl2.out hb2)
  have HS2 := Lib.hid (below_tr HBl2.out hb2).size
  have HN2 : Hid (([(kk : Int)].length + 3) * 1 ≤ 140737488355328) := Lib.hid (by simp)
  have HZ2 : Hid (([(kk : Int)] ++ e1).length = 4) := Lib.hid (by rw [List.length_append, HF.out.e1l]; rfl)
  rw [HF.out.e1l]
  clear hv2 hb2
  go_wp2_with (at_builtin; refine Kd.R_append_rows (Kd.int .u8) (Rr := (Kd.int .u8).K w2) (w0 := w1) (W := w2) w1.heap.size rfl (.tmp 33) (.tmp 37) 22 5 (.int .u8 0) 1 rfl Tryz.underlying22 infoU8 rfl (by decide) (by decide) (.slice (some ⟨w1.heap.size, 0, none⟩) 1 1) ([(kk : Int)]) (e1) A2 3 c2 (fun _ => True) (fun _ => False) rfl rfl HO2.out HD2.out (fun _ _ h => h) (fun _ h => h.elim) (fun _ _ => trivial) HB2.out HS2.out HN2.out ?_; intro v3 w3 hr3 hb3 hg3 hat3; obtain ⟨A3, c3, rfl⟩ := Kd.R_slice hr3; rw [HZ2.out] at hr3 ⊢; have HR3 := Lib.hid (And.intro hr3 hb3); clear hr3 hb3 hg3 hat3)
  obtain ⟨L1, hL1⟩ : ∃ l, l = [(kk : Int)] ++ e1 := ⟨_, rfl⟩
  rw [← hL1] at HR3 HZ2
  have HL1 := Lib.hid hL1
  clear hL1
  refine (HLit2.out _).mono ?_
  rintro e w4 ⟨v4, rfl, hv4, hb4⟩
  obtain ⟨A4, c4, rfl⟩ := Kd.R_slice hv4
  have HO4 := Lib.hid (Kd.R_below HR3.out.1 hb4)
  have HD4 : Hid ((Kd.int .u8).C w4 A4 3 e2) := Lib.hid (by have := (Kd.R_reads' hv4).2.2; rw [HF.out.e2l] at this; exact this)
  have HB4 := Lib.hid (HR3.out.2.trans (hb4.mono HR3.out.2.size))
  have HS4 := Lib.hid HB4.out.size
  have HN4 : Hid ((L1.length + 3) * 1 ≤ 140737488355328) := Lib.hid (by rw [HZ2.out]; decide)
  have HZ4 : Hid ((L1 ++ e2).length = 7) := Lib.hid (by rw [List.length_append, HZ2.out, HF.out.e2l])
  rw [HF.out.e2l]
  clear hv4 hb4
  go_wp2_with (at_builtin; refine Kd.R_append_rows (Kd.int .u8) (Rr := (Kd.int .u8).K w4) (w0 := w1) (W := w4) w1.heap.size rfl (.tmp 39) (.tmp 43) 22 5 (.int .u8 0) 1 rfl Tryz.underlying22 infoU8 rfl (by decide) (by decide) (.slice A3 4 c3) (L1) (e2) A4 3 c4 (fun _ => True) (fun _ => False) rfl rfl HO4.out HD4.out (fun _ _ h => h) (fun _ h => h.elim) (fun _ _ => trivial) HB4.out HS4.out HN4.out ?_; intro v5 w5 hr5 hb5 hg5 hat5; obtain ⟨A5, c5, rfl⟩ := Kd.R_slice hr5; rw [HZ4.out] at hr5 ⊢; have HR5 := Lib.hid (And.intro hr5 hb5); clear hr5 hb5 hg5 hat5)
  obtain ⟨L2, hL2⟩ : ∃ l, l = L1 ++ e2 := ⟨_, rfl⟩
  rw [← hL2] at HR5 HZ4
  have HL2 := Lib.hid hL2
  clear hL2
  refine (crcNew_any w5).mono ?_
  rintro e w6 ⟨p, rfl, hp6, ht6, hb6⟩
  have HT6 := Lib.hid ht6
  have HB6 := Lib.hid (HR5.out.2.trans (hb6.mono HR5.out.2.size))
  have HO6 := Lib.hid (Kd.R_below HR5.out.1 hb6)
  have HX6 := Lib.hid (Kd.C_below HX1.out HB6.out)
  have HCr := Lib.hid (crcOf_any p Ax cx x w6 HT6.out HX6.out (by have := HXl.out; omega) HBy.out)
  rw [← HF.out.sm'] at HCr
  clear hp6 ht6 hb6
  go_wp2_with fail
  refine HCr.out.mono ?_
  rintro e w6' ⟨rfl, rfl⟩
  go_wp2_with fail
  refine (HLit3.out _).mono ?_
  rintro e w7 ⟨v7, rfl, hv7, hb7⟩
  obtain ⟨A7, c7, rfl⟩ := Kd.R_slice hv7
  have HO7 := Lib.hid (Kd.R_below HO6.out hb7)
  have HD7 : Hid ((Kd.int .u8).C w7 A7 4 e3) := Lib.hid (by have := (Kd.R_reads' hv7).2.2; rw [HF.out.e3l] at this; exact this)
  have HB7 := Lib.hid (HB6.out.trans (hb7.mono HB6.out.size))
  have HS7 := Lib.hid HB7.out.size
  have HN7 : Hid ((L2.length + 4) * 1 ≤ 140737488355328) := Lib.hid (by rw [HZ4.out]; decide)
  have HZ7 : Hid ((L2 ++ e3).length = 11) := Lib.hid (by rw [List.length_append, HZ4.out, HF.out.e3l])
  have HALL : Hid (L2 ++ e3 ++ x = B) := Lib.hid (by rw [HL2.out, HL1.out]; exact HF.out.all.symm)
  rw [HF.out.e3l]
  clear hv7 hb7
  go_wp2_with (at_builtin; first
    | (refine Kd.R_append_rows (Kd.int .u8) (Rr := (Kd.int .u8).K w7) (w0 := w1) (W := w7) w1.heap.size rfl (.tmp 45) (.tmp 49) 22 5 (.int .u8 0) 1 rfl Tryz.underlying22 infoU8 rfl (by decide) (by decide) (.slice A5 7 c5) (L2) (e3) A7 4 c7 (fun _ => True) (fun _ => False) rfl rfl HO7.out HD7.out (fun _ _ h => h) (fun _ h => h.elim) (fun _ _ => trivial) HB7.out HS7.out HN7.out ?_; intro v8 w8 hr8 hb8 hg8 hat8; obtain ⟨A8, c8, rfl⟩ := Kd.R_slice hr8; rw [HZ7.out] at hr8 ⊢; have HR8 := Lib.hid (And.intro hr8 hb8); clear hr8 hb8 hg8 hat8; have HS8 := Lib.hid HR8.out.2.size; have HX8 := Lib.hid (Kd.C_below HX1.out HR8.out.2); have HN8 : Hid (((L2 ++ e3).length + x.length) * 1 ≤ 140737488355328) := Lib.hid (by rw [HZ7.out]; have := HXl.out; omega))
    | (refine Kd.R_append_rows (Kd.int .u8) (Rr := (Kd.int .u8).K w8) (w0 := w1) (W := w8) w1.heap.size rfl (.tmp 51) (.tmp 52) 22 5 (.int .u8 0) 1 rfl Tryz.underlying22 infoU8 rfl (by decide) (by decide) (.slice A8 11 c8) (L2 ++ e3) x Ax x.length cx (fun _ => True) (fun _ => False) rfl rfl HR8.out.1 HX8.out (fun _ _ h => h) (fun _ h => h.elim) (fun _ _ => trivial) HR8.out.2 HS8.out HN8.out ?_; intro v9 w9 hr9 hb9 hg9 hat9; rw [HALL.out] at hr9; obtain ⟨A9, c9, rfl⟩ := Kd.R_slice hr9; have HR9 := Lib.hid (And.intro hr9 hb9); clear hr9 hb9 hg9 hat9))
  go_ret2
  exact ⟨A9, c9, rfl, Kd.R_lower HR9.out.1 HB1.out.size, below_tr HB1.out HR9.out.2⟩
theorem blockPut_any (A : Option Addr) (c : Nat) (b : List Int) (last : Bool) (w : World) (hr : (Kd.int .u8).C w A b.length b) (hb : Bytes b) (hl : b.length ≤ 40000) (h0 : last = true ∨ 0 < b.length) :
    Calls Tryz.prog 46 #[.slice A b.length c, .bool last] w (Told 0 (putM b last) w) := by
  rcases Nat.eq_zero_or_pos b.length with hz | hz
  · obtain rfl : last = true := by rcases h0 with h | h; (· exact h); (· omega)
    have := blockPut_nil A c b w hr hb hl (List.eq_nil_of_length_eq_zero hz)
    rw [hz]; exact this
  · cases last with
    | false => exact blockPut_false A c b w hr hb hl hz
    | true => exact blockPut_true A c b w hr hb hl hz
end Go.Proofs.YtdkemdcflbadhaaGreat
namespace Go.Proofs.YtdkemdcflbadhaaGreat
open Go.RowKit Go.IntWalk Go.Proofs.YtdkemdcflbadhaaGreatW.PrintWords
set_option maxRecDepth 100000 in
set_option maxHeartbeats 1000000 in
theorem plainD0_any (A : Option Addr) (c : Nat) (b : List Int) (w : World) (hr : (Kd.int .u8).C w A b.length b) (hl : b.length ≤ 131072) (hb : Bytes b) :
    Calls Tryz.prog 207 #[.int .i64 0, .slice A b.length c, .int .i64 b.length] w (Told 0 b w) := by
  have HR := Lib.hid (And.intro hr (And.intro hl hb))
  have d1 : decide ((b.length : Int) < 0) = false := decide_eq_false (by omega)
  have d2 : decide ((131072 : Int) < (b.length : Int)) = false := decide_eq_false (by omega)
  clear hr hl hb
  go_enter Tryz.func207, Tryz.ntmps207
  go_wp2_with fail
  refine (kinds_any 0 w).mono ?_
  rintro e w' ⟨rfl, rfl⟩
  go_wp2_with fail
  go_loopw [8, 9, 45] (fun v _ kv wr => ∃ i : Nat, i ≤ b.length ∧ kv = .int .i64 i ∧ Hid ((Kd.int .u8).R 5 wr w.heap.size (fun _ => True) v (b.take i) ∧ Below w.heap.size w wr)) (fun _ _ kv _ => b.length - (intOf kv).toNat)
  case atStart => exact ⟨0, by omega, rfl, Lib.hid ⟨by rw [List.take_zero]; exact Kd.R_nil _ _ _ _ _, Below.refl _ _⟩⟩
  case round =>
    obtain ⟨i, hi, rfl, H⟩ := hrel
    by_cases hlt : i < b.length
    · obtain ⟨Av, cv, rfl⟩ := Kd.R_slice H.out.1
      obtain ⟨ad, hA, hcx⟩ := ints_get (Kd.C_below HR.out.1 H.out.2) i hlt
      subst hA
      obtain ⟨y, hy⟩ : ∃ y, y = b.getD i 0 := ⟨_, rfl⟩
      rw [← hy] at hcx
      have hl6 : b.length ≤ 131072 := HR.out.2.1
      have hI : (i : Int) < (b.length : Int) := by omega
      have HN : Hid (b.take (i + 1) = b.take i ++ [y]) := Lib.hid (by rw [List.take_succ_eq_append_getElem hlt, hy, List.getD_eq_getElem?_getD, List.getElem?_eq_getElem hlt]; rfl)
      obtain ⟨L, hL⟩ : ∃ L, L = b.take i := ⟨_, rfl⟩
      have hLl : L.length = i := by rw [hL, List.length_take]; omega
      rw [← hL] at H HN ⊢
      have HLn : Hid ((L.length + 1) * 1 ≤ 140737488355328) := Lib.hid (by omega)
      have HS := Lib.hid H.out.2.size
      clear hy hL
      go_wp2_with (at_builtin; refine Kd.R_append (Kd.int .u8) (w0 := w) (W := wr) w.heap.size rfl (.tmp 48) (.tmp 56) 22 5 (.int .u8 0) 1 rfl Tryz.underlying22 infoU8 rfl (by decide) (by decide) _ _ y [.int .u8 y] (fun _ => True) (fun _ => False) rfl rfl rfl (fun _ h => h.elim) (fun _ _ => trivial) H.out.1 H.out.2 HS.out HLn.out ?_; intro v1 w3 hr3 hb3 hg3 hat3; have HA := Lib.hid (And.intro hr3 hb3); clear hr3 hb3 hg3 hat3)
      go_roundw
      case rel => exact ⟨i + 1, by omega, by go_num, Lib.hid ⟨by rw [HN.out]; exact HA.out.1, HA.out.2⟩⟩
      case measure => simp [intOf]; omega
    · obtain rfl : i = b.length := by omega
      obtain ⟨Av, cv, rfl⟩ := Kd.R_slice H.out.1
      go_wp2_with fail
      go_ret2
      have h1 := H.out.1
      rw [List.take_length] at h1
      rw [List.take_length]
      exact ⟨Av, cv, rfl, h1, H.out.2⟩
set_option maxRecDepth 100000 in
set_option maxHeartbeats 1000000 in
theorem plainD1_any (A : Option Addr) (c : Nat) (x : Int) (N : Nat) (w : World) (hr : (Kd.int .u8).C w A 1 [x]) (hl : N ≤ 131072) (h2 : 2 ≤ N) :
    Calls Tryz.prog 207 #[.int .i64 1, .slice A 1 c, .int .i64 N] w (Told 0 (List.replicate N x) w) := by
  have HR := Lib.hid (And.intro hr (And.intro hl h2))
  have d3 : decide ((N : Int) < 2) = false := decide_eq_false (by omega)
  have d1 : decide ((N : Int) < 0) = false := decide_eq_false (by omega)
  have d2 : decide ((131072 : Int) < (N : Int)) = false := decide_eq_false (by omega)
  clear hr hl h2
  go_enter Tryz.func207, Tryz.ntmps207
  go_wp2_with fail
  refine (kinds_any 1 w).mono ?_
  rintro e w' ⟨rfl, rfl⟩
  go_wp2_with fail
  go_loopw [8, 9, 45] (fun v _ kv wr => ∃ i : Nat, i ≤ N ∧ kv = .int .i64 i ∧ Hid ((Kd.int .u8).R 5 wr w.heap.size (fun _ => True) v (List.replicate i x) ∧ Below w.heap.size w wr)) (fun _ _ kv _ => N - (intOf kv).toNat)
  case atStart => exact ⟨0, by omega, rfl, Lib.hid ⟨by exact Kd.R_nil _ _ _ _ _, Below.refl _ _⟩⟩
  case round =>
    obtain ⟨i, hi, rfl, H⟩ := hrel
    by_cases hlt : i < N
    · obtain ⟨Av, cv, rfl⟩ := Kd.R_slice H.out.1
      obtain ⟨ad, hA, hcx⟩ := ints_get (Kd.C_below HR.out.1 H.out.2) 0 (by decide)
      subst hA
      have e0 : ad.add 0 = ad := by simp [Addr.add]
      have hcy : wr.cell? ad = some (.int .u8 x) := by rw [e0] at hcx; exact hcx
      have hl6 : N ≤ 131072 := HR.out.2.1
      have hI : (i : Int) < (N : Int) := by omega
      have HN : Hid (List.replicate (i + 1) x = List.replicate i x ++ [x]) := Lib.hid List.replicate_succ'
      clear e0
      obtain ⟨L, hL⟩ : ∃ L, L = List.replicate i x := ⟨_, rfl⟩
      have hLl : L.length = i := by rw [hL, List.length_replicate]
      rw [← hL] at H HN ⊢
      have HLn : Hid ((L.length + 1) * 1 ≤ 140737488355328) := Lib.hid (by omega)
      have HS := Lib.hid H.out.2.size
      clear hL
      go_wp2_with (at_builtin; refine Kd.R_append (Kd.int .u8) (w0 := w) (W := wr) w.heap.size rfl (.tmp 48) (.tmp 56) 22 5 (.int .u8 0) 1 rfl Tryz.underlying22 infoU8 rfl (by decide) (by decide) _ _ x [.int .u8 x] (fun _ => True) (fun _ => False) rfl rfl rfl (fun _ h => h.elim) (fun _ _ => trivial) H.out.1 H.out.2 HS.out HLn.out ?_; intro v1 w3 hr3 hb3 hg3 hat3; have HA := Lib.hid (And.intro hr3 hb3); clear hr3 hb3 hg3 hat3)
      go_roundw
      case rel => exact ⟨i + 1, by omega, by go_num, Lib.hid ⟨by rw [HN.out]; exact HA.out.1, HA.out.2⟩⟩
      case measure => simp [intOf]; omega
    · obtain rfl : i = N := by omega
      obtain ⟨Av, cv, rfl⟩ := Kd.R_slice H.out.1
      go_wp2_with fail
      go_ret2
      have h1 := H.out.1
      exact ⟨Av, cv, rfl, h1, H.out.2⟩
end Go.Proofs.YtdkemdcflbadhaaGreat
namespace Go.Proofs.YtdkemdcflbadhaaGreat
open Go.RowKit Go.IntWalk Go.Proofs.YtdkemdcflbadhaaGreatW.PrintWords
def Split1Yes (r : Nat) (qs : List (List Int)) (p : List Int) (w : World) (e : Ending) (w' : World) : Prop :=
  ∃ Am cm Ap cp, e = .returned (.tuple #[.agg #[.int .i64 r, .bool false, .slice Am qs.length cm], .slice Ap p.length cp, .int .i64 0]) ∧ kq.R 39 w' w.heap.size (fun _ => True) (.slice Am qs.length cm) qs ∧ (Kd.int .u8).R 5 w' w.heap.size (fun _ => True) (.slice Ap p.length cp) p ∧ Below w.heap.size w w'
theorem split1_yes (A : Option Addr) (c : Nat) (ps : List Int) {r : Nat} {qs : List (List Int)} {p : List Int} (w : World) (hr : (Kd.int .u8).C w A ps.length ps) (hps : Bytes ps) (hl : ps.length ≤ 1000000) (hc : ps.length ≤ c) (h : split1M ps = (0, r, qs, p)) :
    Calls Tryz.prog 24 #[.slice A ps.length c] w (Split1Yes r qs p w) := by
  refine (split1_any A c ps w hr hps hl hc).mono ?_
  intro e w' hp
  unfold Split1Post at hp
  rw [h] at hp
  obtain ⟨vm, vp, rfl, hm, hv⟩ := hp.1 rfl
  obtain ⟨Am, cm, rfl⟩ := Kd.R_slice hm
  obtain ⟨Ap, cp, rfl⟩ := Kd.R_slice hv
  exact ⟨Am, cm, Ap, cp, rfl, hm, hv, hp.2.2⟩
theorem split1_not (A : Option Addr) (c : Nat) (ps : List Int) {k : Int} (w : World) (hr : (Kd.int .u8).C w A ps.length ps) (hps : Bytes ps) (hl : ps.length ≤ 1000000) (hc : ps.length ≤ c) (h : (split1M ps).1 = k) (hk : k ≠ 0) :
    Calls Tryz.prog 24 #[.slice A ps.length c] w (fun e w' => e = .returned (.tuple #[.agg #[.int .i64 0, .bool false, .slice none 0 0], .slice none 0 0, .int .i64 k]) ∧ Below w.heap.size w w') := by
  refine (split1_any A c ps w hr hps hl hc).mono ?_
  intro e w' hp
  unfold Split1Post at hp
  rw [h] at hp
  exact ⟨hp.2.1 hk, hp.2.2⟩
set_option maxRecDepth 100000 in
set_option maxHeartbeats 1000000 in
theorem decode1_any (A : Option Addr) (c : Nat) (ps : List Int) (n : Int) (w : World) (hr : (Kd.int .u8).C w A ps.length ps) (hps : Bytes ps) (hl : ps.length ≤ 1000000) (hc : ps.length ≤ c) :
    Calls Tryz.prog 26 #[.slice A ps.length c, .int .i64 n] w (ReadPost (dec1M ps n) w) := by
  obtain ⟨k, r, q, p, hS⟩ : ∃ k r q p, split1M ps = (k, r, q, p) := ⟨_, _, _, _, rfl⟩
  have hpb := split1_bytes hps
  have hpl := (split1_len ps).1
  have hql := (split1_len ps).2
  rw [hS] at hpb hpl hql
  by_cases hk : k = 0
  · subst hk
    have HD : Hid (dec1M ps n = decM (r : Nat) false q p n) := by show _ = _; unfold dec1M; rw [hS, if_neg (fun h => h rfl)]
    have HS := Lib.hid (split1_yes A c ps w hr hps hl hc hS)
    have HP := Lib.hid (And.intro hpb (And.intro (Nat.le_trans hpl hl) (show q.length ≤ 256 from hql)))
    rw [HD.out]
    clear hr hps hl hc hS hpb hpl hql
    go_enter Tryz.func26, Tryz.ntmps26
    go_wp2_with fail
    refine HS.out.mono ?_
    rintro e w1 ⟨Am, cm, Ap, cp, rfl, hm, hv, hb1⟩
    obtain ⟨w2, hw2⟩ : ∃ w2, w2 = w1.alloc (.cells #[.int .i64 r, .bool false, .slice Am q.length cm] 31) := ⟨_, rfl⟩
    have hb2 : Below w1.heap.size w1 w2 := by rw [hw2]; exact (Below.refl _ _).alloc (Nat.le_refl _) _
    have HB2 := Lib.hid (hb1.trans (hb2.mono hb1.size))
    have HM := Lib.hid (Kd.C_below (Kd.R_reads' hm).2.2 hb2)
    have HV := Lib.hid (Kd.C_below (Kd.R_reads' hv).2.2 hb2)
    clear hm hv hb1 hb2
    go_wp2_with fail
    rw [← hw2]
    clear hw2
    refine (decodeL_any r false Am cm q Ap cp p n w2 HM.out (by have := HP.out.2.2; omega) HV.out HP.out.1 HP.out.2.1).mono ?_
    rintro e w3 ⟨⟨v, rfl, hv⟩, hb3⟩
    have H3 := Lib.hid (And.intro hv hb3)
    clear hv hb3
    go_wp2_with fail
    go_ret2
    exact ⟨⟨v, rfl, Kd.R_lower H3.out.1 HB2.out.size⟩, HB2.out.trans (H3.out.2.mono HB2.out.size)⟩
  · have HD : Hid (dec1M ps n = (k, [])) := by show _ = _; unfold dec1M; rw [hS, if_pos hk]
    have HS := Lib.hid (split1_not A c ps w hr hps hl hc (by rw [hS]) hk)
    have hkb : (k == 0) = false := beq_eq_false_iff_ne.2 hk
    have hkn : (k != 0) = true := by simp [hk]
    rw [HD.out]
    clear hr hps hl hc hS hpb hpl hql
    go_enter Tryz.func26, Tryz.ntmps26
    go_wp2_with fail
    refine HS.out.mono ?_
    rintro e w1 ⟨rfl, hb1⟩
    have HB1 := Lib.hid hb1
    clear hb1
    go_wp2_with fail
    go_ret2
    exact ⟨⟨_, rfl, Kd.R_nil _ _ _ _ _⟩, HB1.out.alloc HB1.out.size _⟩
end Go.Proofs.YtdkemdcflbadhaaGreat
namespace Go.Proofs.YtdkemdcflbadhaaGreat
open Go.RowKit Go.IntWalk Go.Proofs.YtdkemdcflbadhaaGreatW.PrintWords
set_option maxRecDepth 100000 in
theorem asIs2_any {x : Int × List Int} (A : Option Addr) (c p : Nat) (k n : Int) (m : Nat) (w : World) (hp : w.cell? ⟨p, 0, none⟩ = some (.int .i64 k)) (h : Calls Tryz.prog 207 #[.int .i64 k, .slice A m c, .int .i64 n] w (Told x.1 x.2 w)) :
    Calls Tryz.prog 206 #[.slice A m c, .int .i64 n, .pointer (some ⟨p, 0, none⟩)] w (Told x.1 x.2 w) := by
  have H := Lib.hid h
  clear h
  go_enter Tryz.func206, Tryz.ntmps206
  go_wp2_with fail
  refine H.out.mono ?_
  rintro e w' ⟨A1, c1, rfl, hv, hb⟩
  have H1 := Lib.hid (And.intro hv hb)
  clear hv hb
  go_wp2_with fail
  go_ret2
  exact ⟨A1, c1, rfl, H1.out.1, H1.out.2⟩
set_option maxRecDepth 100000 in
theorem pickDec_not (A : Option Addr) (c m : Nat) (k n : Int) (w : World) (h : checkP k n m ≠ 0) :
    Calls Tryz.prog 41 #[.int .i64 k, .slice A m c, .int .i64 n] w (Told (checkP k n m) [] w) := by
  have HI := Lib.hid (pickCheck_any k n m w)
  unfold ChkPost at HI
  obtain ⟨z, hz⟩ : ∃ z, z = checkP k n m := ⟨_, rfl⟩
  rw [← hz] at HI h ⊢
  have hz2 : (z != 0) = true := by simpa using h
  clear hz h
  go_enter Tryz.func41, Tryz.ntmps41
  go_wp2_with fail
  refine HI.out.mono ?_
  rintro e w' ⟨rfl, hb⟩
  have HB := Lib.hid hb
  clear hb
  go_wp2_with fail
  go_ret2
  exact Told.nil z HB.out
set_option maxRecDepth 100000 in
theorem pickDec_0 {x : Int × List Int} (A : Option Addr) (c m : Nat) (n : Int) (w : World) (h0 : checkP 0 n m = 0) (h : ∀ (W : World) (p q : Nat), Below w.heap.size w W → W.cell? ⟨p, 0, none⟩ = some (.int .i64 0) → W.cell? ⟨q, 0, none⟩ = some (.int .i64 1) → Calls Tryz.prog 206 #[.slice A m c, .int .i64 n, .pointer (some ⟨p, 0, none⟩)] W (Told x.1 x.2 W)) :
    Calls Tryz.prog 41 #[.int .i64 0, .slice A m c, .int .i64 n] w (Told x.1 x.2 w) := by
  have H := Lib.hid h
  have HI := Lib.hid (pickCheck_any 0 n m w)
  unfold ChkPost at HI
  rw [h0] at HI
  clear h h0
  go_enter Tryz.func41, Tryz.ntmps41
  go_wp2_with fail
  refine HI.out.mono ?_
  rintro e w0 ⟨rfl, hb0⟩
  have HB0 := Lib.hid hb0
  clear hb0
  go_wp2_with fail
  refine (coders_any w0).mono ?_
  rintro e w1 ⟨p, q, rfl, hp, hq, hb⟩
  have HB := Lib.hid (below_tr HB0.out hb)
  have H1 := Lib.hid (H.out w1 p q HB.out hp hq)
  have hix := fun W => index_coders0 p q W
  have hkf := kfield1
  obtain ⟨V, hV⟩ : ∃ V, V = codersV p q := ⟨_, rfl⟩
  rw [← hV] at hix ⊢
  clear hb hp hq hV
  go_wp2_with fail
  refine H1.out.mono ?_
  rintro e w2 ⟨A1, c1, rfl, hv, hb⟩
  have H2 := Lib.hid (And.intro hv hb)
  clear hv hb hix hkf
  go_wp2_with fail
  go_ret2
  exact ⟨A1, c1, rfl, Kd.R_lower H2.out.1 HB.out.size, below_tr HB.out H2.out.2⟩
set_option maxRecDepth 100000 in
theorem pickDec_1 {x : Int × List Int} (A : Option Addr) (c m : Nat) (n : Int) (w : World) (h0 : checkP 1 n m = 0) (h : ∀ (W : World) (p q : Nat), Below w.heap.size w W → W.cell? ⟨p, 0, none⟩ = some (.int .i64 0) → W.cell? ⟨q, 0, none⟩ = some (.int .i64 1) → Calls Tryz.prog 206 #[.slice A m c, .int .i64 n, .pointer (some ⟨q, 0, none⟩)] W (Told x.1 x.2 W)) :
    Calls Tryz.prog 41 #[.int .i64 1, .slice A m c, .int .i64 n] w (Told x.1 x.2 w) := by
  have H := Lib.hid h
  have HI := Lib.hid (pickCheck_any 1 n m w)
  unfold ChkPost at HI
  rw [h0] at HI
  clear h h0
  go_enter Tryz.func41, Tryz.ntmps41
  go_wp2_with fail
  refine HI.out.mono ?_
  rintro e w0 ⟨rfl, hb0⟩
  have HB0 := Lib.hid hb0
  clear hb0
  go_wp2_with fail
  refine (coders_any w0).mono ?_
  rintro e w1 ⟨p, q, rfl, hp, hq, hb⟩
  have HB := Lib.hid (below_tr HB0.out hb)
  have H1 := Lib.hid (H.out w1 p q HB.out hp hq)
  have hix := fun W => index_coders1 p q W
  have hkf := kfield1
  obtain ⟨V, hV⟩ : ∃ V, V = codersV p q := ⟨_, rfl⟩
  rw [← hV] at hix ⊢
  clear hb hp hq hV
  go_wp2_with fail
  refine H1.out.mono ?_
  rintro e w2 ⟨A1, c1, rfl, hv, hb⟩
  have H2 := Lib.hid (And.intro hv hb)
  clear hv hb hix hkf
  go_wp2_with fail
  go_ret2
  exact ⟨A1, c1, rfl, Kd.R_lower H2.out.1 HB.out.size, below_tr HB.out H2.out.2⟩
set_option maxRecDepth 100000 in
theorem pickDec_2 {x : Int × List Int} (A : Option Addr) (c m : Nat) (n : Int) (w : World) (h0 : checkP 2 n m = 0) (h : ∀ (W : World) (p q : Nat), Below w.heap.size w W → W.cell? ⟨p, 0, none⟩ = some (.int .i64 0) → W.cell? ⟨q, 0, none⟩ = some (.int .i64 1) → Calls Tryz.prog 34 #[.slice A m c, .int .i64 n] W (Told x.1 x.2 W)) :
    Calls Tryz.prog 41 #[.int .i64 2, .slice A m c, .int .i64 n] w (Told x.1 x.2 w) := by
  have H := Lib.hid h
  have HI := Lib.hid (pickCheck_any 2 n m w)
  unfold ChkPost at HI
  rw [h0] at HI
  clear h h0
  go_enter Tryz.func41, Tryz.ntmps41
  go_wp2_with fail
  refine HI.out.mono ?_
  rintro e w0 ⟨rfl, hb0⟩
  have HB0 := Lib.hid hb0
  clear hb0
  go_wp2_with fail
  refine (coders_any w0).mono ?_
  rintro e w1 ⟨p, q, rfl, hp, hq, hb⟩
  have HB := Lib.hid (below_tr HB0.out hb)
  have H1 := Lib.hid (H.out w1 p q HB.out hp hq)
  have hix := fun W => index_coders2 p q W
  have hkf := kfield1
  obtain ⟨V, hV⟩ : ∃ V, V = codersV p q := ⟨_, rfl⟩
  rw [← hV] at hix ⊢
  clear hb hp hq hV
  go_wp2_with fail
  refine H1.out.mono ?_
  rintro e w2 ⟨A1, c1, rfl, hv, hb⟩
  have H2 := Lib.hid (And.intro hv hb)
  clear hv hb hix hkf
  go_wp2_with fail
  go_ret2
  exact ⟨A1, c1, rfl, Kd.R_lower H2.out.1 HB.out.size, below_tr HB.out H2.out.2⟩
set_option maxRecDepth 100000 in
theorem pickDec_3 {x : Int × List Int} (A : Option Addr) (c m : Nat) (n : Int) (w : World) (h0 : checkP 3 n m = 0) (h : ∀ (W : World) (p q : Nat), Below w.heap.size w W → W.cell? ⟨p, 0, none⟩ = some (.int .i64 0) → W.cell? ⟨q, 0, none⟩ = some (.int .i64 1) → Calls Tryz.prog 26 #[.slice A m c, .int .i64 n] W (Told x.1 x.2 W)) :
    Calls Tryz.prog 41 #[.int .i64 3, .slice A m c, .int .i64 n] w (Told x.1 x.2 w) := by
  have H := Lib.hid h
  have HI := Lib.hid (pickCheck_any 3 n m w)
  unfold ChkPost at HI
  rw [h0] at HI
  clear h h0
  go_enter Tryz.func41, Tryz.ntmps41
  go_wp2_with fail
  refine HI.out.mono ?_
  rintro e w0 ⟨rfl, hb0⟩
  have HB0 := Lib.hid hb0
  clear hb0
  go_wp2_with fail
  refine (coders_any w0).mono ?_
  rintro e w1 ⟨p, q, rfl, hp, hq, hb⟩
  have HB := Lib.hid (below_tr HB0.out hb)
  have H1 := Lib.hid (H.out w1 p q HB.out hp hq)
  have hix := fun W => index_coders3 p q W
  have hkf := kfield1
  obtain ⟨V, hV⟩ : ∃ V, V = codersV p q := ⟨_, rfl⟩
  rw [← hV] at hix ⊢
  clear hb hp hq hV
  go_wp2_with fail
  refine H1.out.mono ?_
  rintro e w2 ⟨A1, c1, rfl, hv, hb⟩
  have H2 := Lib.hid (And.intro hv hb)
  clear hv hb hix hkf
  go_wp2_with fail
  go_ret2
  exact ⟨A1, c1, rfl, Kd.R_lower H2.out.1 HB.out.size, below_tr HB.out H2.out.2⟩
theorem check_range {k n m : Int} (h : checkP k n m = 0) : 0 ≤ k ∧ k < 4 ∧ 0 ≤ n ∧ n ≤ 131072 ∧ mayB k n m = true := by
  unfold checkP at h
  by_cases h1 : k < 0 ∨ 3 < k
  · rw [if_pos h1] at h; cases h
  rw [if_neg h1] at h
  by_cases h2 : n < 0 ∨ 131072 < n ∨ mayB k n m = false
  · rw [if_pos h2] at h; cases h
  refine ⟨by omega, by omega, by omega, by omega, ?_⟩
  cases e : mayB k n m with
  | true => rfl
  | false => exact absurd (.inr (.inr e)) h2
theorem pickDecode_any (A : Option Addr) (c : Nat) (k n : Int) (ps : List Int) (w : World) (hr : (Kd.int .u8).C w A ps.length ps) (hps : Bytes ps) (hl : ps.length ≤ 1000000) (hc : ps.length ≤ c) (hnil : A = none → c = 0) :
    Calls Tryz.prog 41 #[.int .i64 k, .slice A ps.length c, .int .i64 n] w (Told (pickD k ps n).1 (pickD k ps n).2 w) := by
  by_cases h0 : checkP k n ps.length = 0
  · obtain ⟨k0, k4, n0, n1, hm⟩ := check_range h0
    have e : pickD k ps n = if k ≤ 1 then plainD k ps n else if k = 2 then dec0M ps n else dec1M ps n := by unfold pickD; rw [if_neg (fun h => h h0)]
    rw [e]
    by_cases e0 : k = 0
    · subst e0
      have hn : n = ps.length := by unfold mayB at hm; rw [if_pos rfl] at hm; exact of_decide_eq_true hm
      subst hn
      have e2 : plainD 0 ps ps.length = (0, ps) := by unfold plainD; rw [if_neg (by omega), if_neg (by omega), if_pos rfl]
      rw [if_pos (by decide), e2]
      exact pickDec_0 (x := (0, ps)) A c ps.length ps.length w h0 (fun W p q hB hp _ => asIs2_any (x := (0, ps)) A c p 0 _ _ W hp (plainD0_any A c ps W (Kd.C_below hr hB) (by omega) hps))
    by_cases e1 : k = 1
    · subst e1
      have hn : 1 < n ∧ (ps.length : Int) = 1 := by unfold mayB at hm; rw [if_neg (by decide), if_pos rfl] at hm; exact of_decide_eq_true hm
      obtain ⟨N, rfl⟩ : ∃ N : Nat, n = N := ⟨n.toNat, by omega⟩
      have hl1 : ps.length = 1 := by omega
      have e2 : plainD 1 ps N = (0, List.replicate N (ps.getD 0 0)) := by unfold plainD; rw [if_neg (by omega), if_neg (by omega), if_neg (by decide)]; rfl
      obtain ⟨x, rfl⟩ := List.length_eq_one_iff.1 hl1
      rw [if_pos (by decide), e2]
      exact pickDec_1 (x := (0, List.replicate N x)) A c 1 N w h0 (fun W p q hB _ hq => asIs2_any (x := (0, List.replicate N x)) A c q 1 _ _ W hq (plainD1_any A c x N W (Kd.C_below hr hB) (by omega) (by omega)))
    rw [if_neg (by omega)]
    by_cases e2 : k = 2
    · subst e2
      rw [if_pos rfl]
      exact pickDec_2 (x := dec0M ps n) A c ps.length n w h0 (fun W p q hB _ _ => decode0_told A c ps n W (Kd.C_below hr hB) hps hl hc hnil rfl)
    · obtain rfl : k = 3 := by omega
      rw [if_neg (by decide)]
      exact pickDec_3 (x := dec1M ps n) A c ps.length n w h0 (fun W p q hB _ _ => (decode1_any A c ps n W (Kd.C_below hr hB) hps hl hc).mono fun e w' hp => hp.told)
  · have e : pickD k ps n = (checkP k n ps.length, []) := by unfold pickD; rw [if_pos h0]
    rw [e]
    exact pickDec_not A c ps.length k n w h0
theorem pickD_bytes {k n : Int} {ps : List Int} (h : Bytes ps) : Bytes (pickD k ps n).2 := by
  unfold pickD
  split
  · intro x hx; cases hx
  · split
    · unfold plainD
      repeat' split
      · intro x hx; cases hx
      · intro x hx; cases hx
      · exact h
      · intro x hx; rw [(List.mem_replicate.1 hx).2]; exact h.get 0
    · split
      · exact dec0_bytes h
      · exact dec1_bytes h
end Go.Proofs.YtdkemdcflbadhaaGreat
namespace Go.Proofs.YtdkemdcflbadhaaGreat
open Go.RowKit Go.IntWalk Go.Proofs.YtdkemdcflbadhaaGreatW.PrintWords
def OpenPost (r : Int × List Int × Nat × Bool) (w : World) (e : Ending) (w' : World) : Prop :=
  ∃ A c, e = .returned (.tuple #[.slice A r.2.1.length c, .int .i64 (r.2.2.1 : Nat), .bool r.2.2.2, .int .i64 r.1]) ∧ (Kd.int .u8).R 5 w' w.heap.size (fun _ => True) (.slice A r.2.1.length c) r.2.1 ∧ Below w.heap.size w w'
/-- what a head tells is in bounds -/
theorem scan_bounds {f : List Int} (hf : Bytes f) {log room : Int} {first : Bool} (h : (scanM f log first room).1 = 0) : 11 ≤ f.length ∧ (scanM f log first room).2.1 ≤ 3 ∧ (scanM f log first room).2.2.1 ≤ 131072 ∧ (scanM f log first room).2.2.2.1 < 16777216 ∧ (scanM f log first room).2.2.2.2.2 < 4294967296 ∧ checkP ((scanM f log first room).2.1 : Nat) (scanM f log first room).2.2.1 (scanM f log first room).2.2.2.1 = 0 ∧ ((scanM f log first room).2.2.1 : Int) ≤ room := by
  unfold scanM at h ⊢
  by_cases a1 : log < 10 ∨ 17 < log ∨ room < 0
  · rw [if_pos a1] at h; cases h
  rw [if_neg a1] at h ⊢
  by_cases a2 : f.length < 1
  · rw [if_pos a2] at h; cases h
  rw [if_neg a2] at h ⊢
  by_cases a3 : 7 < (f.getD 0 0).toNat
  · rw [if_pos a3] at h; cases h
  rw [if_neg a3] at h ⊢
  by_cases a4 : f.length < 4
  · rw [if_pos a4] at h; cases h
  rw [if_neg a4] at h ⊢
  by_cases a5 : sizeOk log first ((f.getD 0 0).toNat % 4) (rdN (f.drop 1) 3) (decide (4 ≤ (f.getD 0 0).toNat)) = false
  · rw [if_pos a5] at h; cases h
  rw [if_neg a5] at h ⊢
  by_cases a6 : f.length < 7
  · rw [if_pos a6] at h; cases h
  rw [if_neg a6] at h ⊢
  by_cases a7 : checkP ((f.getD 0 0).toNat % 4 : Nat) (rdN (f.drop 1) 3) (rdN (f.drop 4) 3) ≠ 0
  · rw [if_pos a7] at h; exact absurd h a7
  rw [if_neg a7] at h ⊢
  by_cases a8 : room < rdN (f.drop 1) 3
  · rw [if_pos a8] at h; cases h
  rw [if_neg a8] at h ⊢
  by_cases a9 : f.length < 11
  · rw [if_pos a9] at h; cases h
  rw [if_neg a9]
  have b1 := rdN_lt (fun x hx => hf x (List.mem_of_mem_drop hx) : Bytes (f.drop 4)) 3
  have b2 := rdN_lt (fun x hx => hf x (List.mem_of_mem_drop hx) : Bytes (f.drop 7)) 4
  have b3 := check_range (Classical.not_not.1 a7)
  dsimp only
  refine ⟨by omega, by omega, by omega, by omega, by omega, Classical.not_not.1 a7, by omega⟩
theorem results_four {fn : Func} {a b c d : Tmp} (h : fn.results = #[.tmp a, .tmp b, .tmp c, .tmp d]) (tmps : Array Value) (w : World) :
    (results fn tmps).run Tryz.prog w = .ok (.tuple #[tmps.getD a undef, tmps.getD b undef, tmps.getD c undef, tmps.getD d undef]) w := by
  simp [results, h]
theorem OpenPost.err (k : Int) {w w' : World} (hb : Below w.heap.size w w') : OpenPost (k, [], 0, false) w (.returned (.tuple #[.slice none 0 0, .int .i64 0, .bool false, .int .i64 k])) w' := ⟨none, 0, rfl, Kd.R_nil _ _ _ _ _, hb⟩
set_option maxRecDepth 100000 in
set_option maxHeartbeats 2000000 in
theorem blockOpen_any (A : Option Addr) (c : Nat) (f : List Int) (log : Int) (first : Bool) (room : Int) (w : World) (hr : (Kd.int .u8).C w A f.length f) (hf : Bytes f) (hl : f.length ≤ 1000000) (hc : f.length ≤ c) :
    Calls Tryz.prog 50 #[.slice A f.length c, .int .i64 log, .bool first, .int .i64 room] w (OpenPost (openM f log first room) w) := by
  have HSc := Lib.hid (scan_any A c f log first room w hr hf hl hc)
  have hB := fun h => scan_bounds hf (log := log) (room := room) (first := first) h
  have HOp : Hid (openM f log first room = (let s := scanM f log first room
    if s.1 ≠ 0 then (s.1, [], 0, false) else
    if f.length < 11 + s.2.2.2.1 then (3, [], 0, false) else
    if crcAdd 0 ((f.drop 11).take s.2.2.2.1) ≠ s.2.2.2.2.2 then (12, [], 0, false) else
    if (pickD (s.2.1 : Nat) ((f.drop 11).take s.2.2.2.1) s.2.2.1).1 ≠ 0 then ((pickD (s.2.1 : Nat) ((f.drop 11).take s.2.2.2.1) s.2.2.1).1, [], 0, false) else
    (0, (pickD (s.2.1 : Nat) ((f.drop 11).take s.2.2.2.1) s.2.2.1).2, 11 + s.2.2.2.1, s.2.2.2.2.1))) := Lib.hid rfl
  obtain ⟨R, hR⟩ : ∃ R, R = openM f log first room := ⟨_, rfl⟩
  rw [← hR] at HOp ⊢
  obtain ⟨k, kd, N, Len, lb, sm, hS⟩ : ∃ k kd N Len lb sm, scanM f log first room = (k, kd, N, Len, lb, sm) := ⟨_, _, _, _, _, _, rfl⟩
  rw [hS] at HSc hB HOp
  dsimp only at hB HOp
  unfold ScanPost headC at HSc
  dsimp only at HSc
  have HRw := Lib.hid (And.intro hr (And.intro hf (And.intro hl hc)))
  clear hR hS hr hf hl hc
  by_cases hk : k = 0
  · subst hk
    obtain ⟨b11, bkd, bN, bLen, bsm, bck, brm⟩ := hB rfl
    have HBd := Lib.hid (And.intro b11 (And.intro bkd (And.intro bN (And.intro bLen (And.intro bsm (And.intro bck brm))))))
    rw [if_neg (fun h => h rfl)] at HOp
    clear hB bkd bN bck brm
    by_cases hL : f.length < 11 + Len
    · rw [if_pos hL] at HOp
      have hLI : (f.length : Int) < 11 + (Len : Int) := by omega
      clear hL
      go_enter Tryz.func50, Tryz.ntmps50
      go_wp2_with fail
      refine HSc.out.mono ?_
      rintro e w1 ⟨rfl, hb1⟩
      have HB1 := Lib.hid hb1
      clear hb1
      go_wp2_with fail
      refine bodyPost_ret (results_four (fn := Tryz.f50) (a := 8) (b := 9) (c := 10) (d := 11) rfl _ _) rfl ?_
      rw [HOp.out]
      exact OpenPost.err 3 (HB1.out.alloc HB1.out.size _)
    · rw [if_neg hL] at HOp
      have hLI : ¬ (f.length : Int) < 11 + (Len : Int) := by omega
      obtain ⟨bd, hbd⟩ : ∃ l, l = (f.drop 11).take Len := ⟨_, rfl⟩
      have hdl : (f.drop 11).length = f.length - 11 := List.length_drop
      have hbl : bd.length = Len := by rw [hbd, List.length_take]; omega
      have HBy := Lib.hid (show Bytes bd from by rw [hbd]; exact fun x hx => HRw.out.2.1 x (List.mem_of_mem_drop (List.mem_of_mem_take hx)))
      have hsl : ∀ W : World, (Instr.slice 22 (.slice A f.length c) (some (.int .i64 11)) (some (.int .i64 (11 + (Len : Int)))) none).run Tryz.prog W = .ok (.slice (if c = 11 then A else A.map (·.add (11 * 1))) Len (c - 11)) W := fun W => by
        obtain ⟨i0, hi0, hz0, hz1, hz2⟩ := info_parts infoU8
        have := cut_mid (P := Tryz.prog) 22 5 .i64 .i64 Tryz.underlying22 hi0 1 hz1 A f.length c (11 : Int) (11 + (Len : Int)) (by decide) (by omega) (by omega) HRw.out.2.2.2 W
        rw [show ((11 : Int) + (Len : Int)).toNat - (11 : Int).toNat = Len by omega, show (11 : Int).toNat = 11 from rfl] at this
        exact this
      obtain ⟨Ab, hAb⟩ : ∃ Ab, Ab = (if c = 11 then A else A.map (·.add (11 * 1))) := ⟨_, rfl⟩
      have hnil : Ab ≠ none := by
        obtain ⟨ad, hA, _⟩ := ints_get HRw.out.1 0 (by omega)
        rw [hAb, hA]; split <;> simp
      have HBC : Hid ((Kd.int .u8).C w Ab Len bd) := Lib.hid (by
        have h1 := Kd.C_drop (c := c) (m := 11) HRw.out.1 b11 HRw.out.2.2.2
        have h2 := Kd.C_take (m := Len) h1 (by omega)
        rw [← hbd, hbl] at h2
        rw [hAb]; exact h2)
      rw [← hAb] at hsl
      rw [← hbd] at HOp
      have HBl := Lib.hid (And.intro hbl (show Len ≤ c - 11 from by have := HRw.out.2.2.2; omega))
      have HNil := Lib.hid hnil
      obtain ⟨cs, hcs⟩ : ∃ n, n = crcAdd 0 bd := ⟨_, rfl⟩
      have HCs := Lib.hid hcs
      rw [← hcs] at HOp
      have HLn := Lib.hid (show bd.length ≤ 1000000 from by have := HRw.out.2.2.1; omega)
      clear hL hbd hdl hbl hAb hnil hcs
      go_enter Tryz.func50, Tryz.ntmps50
      go_wp2_with fail
      refine HSc.out.mono ?_
      rintro e w1 ⟨rfl, hb1⟩
      obtain ⟨w2, hw2⟩ : ∃ w2, w2 = w1.alloc (.cells #[.int .i64 kd, .int .i64 N, .int .i64 Len, .bool lb, .int .u32 sm] 56) := ⟨_, rfl⟩
      have hb2 : Below w.heap.size w w2 := by rw [hw2]; exact hb1.alloc hb1.size _
      have hk2 : w2.heap[w1.heap.size]? = some (.cells #[.int .i64 kd, .int .i64 N, .int .i64 Len, .bool lb, .int .u32 sm] 56 (0, 0)) := by rw [hw2]; exact blk_new _ _
      obtain ⟨hh, hhh⟩ : ∃ h, h = w1.heap.size := ⟨_, rfl⟩
      rw [← hhh] at hk2
      have HB2 := Lib.hid hb2
      have HK2 := Lib.hid hk2
      obtain ⟨⟨c0, c1, c2, c3, c4⟩, -⟩ := cell5 hk2
      have s0 : SLater w2 w2 := Below.refl _ _
      clear hb1 hb2 hk2
      go_wp2_with fail
      rw [← hw2, ← hhh]
      clear hw2 hhh
      go_wp2_with fail
      have HBC2 := Lib.hid (Kd.C_below HBC.out HB2.out)
      have HOf0 : Hid (∀ (W : World) (p : Nat), SLater w2 W → TabAt p 256 W → Calls Tryz.prog 101 #[.pointer (some ⟨p, 0, none⟩), .slice Ab Len (c - 11)] W (fun e W' => e = .returned (.int .u32 cs) ∧ W = W')) := Lib.hid (fun W p hW hp => by
        have h2 := crcOf_any p Ab (c - 11) bd W hp (by rw [HBl.out.1]; exact Kd.C_below HBC2.out hW) HLn.out HBy.out
        rw [HBl.out.1, ← HCs.out] at h2
        exact h2)
      have HPd : Hid (∀ W : World, SLater w2 W → Calls Tryz.prog 41 #[.int .i64 kd, .slice Ab Len (c - 11), .int .i64 N] W (Told (pickD kd bd N).1 (pickD kd bd N).2 W)) := Lib.hid (fun W hW => by
        have h := pickDecode_any Ab (c - 11) kd N bd W (by rw [HBl.out.1]; exact Kd.C_below HBC2.out hW) HBy.out HLn.out (by rw [HBl.out.1]; exact HBl.out.2) (fun h => absurd h HNil.out)
        rw [HBl.out.1] at h
        exact h)
      have HRb := Lib.hid (pickD_bytes (k := kd) (n := N) HBy.out)
      obtain ⟨pk, py, hP⟩ : ∃ pk py, pickD kd bd N = (pk, py) := ⟨_, _, rfl⟩
      rw [hP] at HPd HOp HRb
      dsimp only at HPd HOp HRb
      clear hP
      by_cases hcm : cs = sm
      · rw [if_neg (fun h => h hcm)] at HOp
        have hneq : ((cs : Int) != (sm : Int)) = false := by rw [hcm]; simp
        clear hcm
        go_region_law (first
          | (go_simp; go_at_call 100; refine (crcNew_any _).mono ?_; rintro e w' ⟨p, rfl, hp, ht, hb⟩; have s1 := (by first | exact SLater.keep ‹_› hb | exact SLater.keep (SLater.drew ‹_›) hb : SLater w2 w'); obtain ⟨⟨g0, g1, g2, g3, g4⟩, -⟩ := cell5 (blk_below HK2.out s1); clear hp hb)
          | (go_simp; go_at_call 101; refine (HOf0.out _ _ (by first | assumption | exact SLater.drew ‹_›) (by first | assumption)).mono ?_; rintro e w' ⟨rfl, rfl⟩))
        all_goals
          go_wp2_with fail
          refine (HPd.out _ (by first | assumption | exact SLater.drew ‹_›)).mono ?_
          rintro e w5 ⟨Ay, cy, rfl, hvy, hb5⟩
          have HV5 : Hid ((Kd.int .u8).R 5 w5 w.heap.size (fun _ => True) (.slice Ay py.length cy) py) := Lib.hid (Kd.R_lower hvy (Nat.le_trans HB2.out.size (Below.size (B := w2.heap.size) (w := w2) (by first | assumption | exact SLater.drew ‹_›))))
          have sX := (by first | exact SLater.keep ‹_› hb5 | exact SLater.keep (SLater.drew ‹_›) hb5 : SLater w2 w5)
          obtain ⟨⟨g0, g1, g2, g3, g4⟩, -⟩ := cell5 (blk_below HK2.out sX)
          have HSX := Lib.hid sX
          clear hvy hb5
          by_cases hpk : pk = 0
          · subst hpk
            rw [if_neg (fun h => h rfl)] at HOp
            go_wp2_with fail
            go_quiet (fail)
            all_goals
              go_wp2_with fail
              refine bodyPost_ret (results_four (fn := Tryz.f50) (a := 8) (b := 9) (c := 10) (d := 11) rfl _ _) rfl ?_
              rw [HOp.out]
              exact ⟨Ay, cy, rfl, Kd.R_below HV5.out (pw_below_drewN (Below.refl _ _) _), pw_below_drewN (HB2.out.trans (Below.mono HSX.out HB2.out.size)) _⟩
          · rw [if_pos hpk] at HOp
            have hpk2 : (pk != 0) = true := by simpa using hpk
            clear hpk
            go_wp2_with fail
            refine bodyPost_ret (results_four (fn := Tryz.f50) (a := 8) (b := 9) (c := 10) (d := 11) rfl _ _) rfl ?_
            rw [HOp.out]
            exact OpenPost.err pk (HB2.out.trans (Below.mono HSX.out HB2.out.size))
      · rw [if_pos hcm] at HOp
        have hneq : ((cs : Int) != (sm : Int)) = true := by simp; omega
        clear hcm
        go_region_law (first
          | (go_simp; go_at_call 100; refine (crcNew_any _).mono ?_; rintro e w' ⟨p, rfl, hp, ht, hb⟩; have s1 := (by first | exact SLater.keep ‹_› hb | exact SLater.keep (SLater.drew ‹_›) hb : SLater w2 w'); obtain ⟨⟨g0, g1, g2, g3, g4⟩, -⟩ := cell5 (blk_below HK2.out s1); clear hp hb)
          | (go_simp; go_at_call 101; refine (HOf0.out _ _ (by first | assumption | exact SLater.drew ‹_›) (by first | assumption)).mono ?_; rintro e w' ⟨rfl, rfl⟩))
        all_goals
          have sX := (by first | assumption | exact SLater.drew ‹_› : SLater w2 _)
          go_wp2_with fail
          refine bodyPost_ret (results_four (fn := Tryz.f50) (a := 8) (b := 9) (c := 10) (d := 11) rfl _ _) rfl ?_
          rw [HOp.out]
          exact OpenPost.err 12 (HB2.out.trans (Below.mono (by first | assumption | exact SLater.drew ‹_›) HB2.out.size))
  · have hk2 : (k != 0) = true := by simpa using hk
    rw [if_pos hk] at HOp
    clear hB hk
    go_enter Tryz.func50, Tryz.ntmps50
    go_wp2_with fail
    refine HSc.out.mono ?_
    rintro e w1 ⟨rfl, hb1⟩
    have HB1 := Lib.hid hb1
    clear hb1
    go_wp2_with fail
    refine bodyPost_ret (results_four (fn := Tryz.f50) (a := 8) (b := 9) (c := 10) (d := 11) rfl _ _) rfl ?_
    rw [HOp.out]
    exact OpenPost.err k (HB1.out.alloc HB1.out.size _)
end Go.Proofs.YtdkemdcflbadhaaGreat
namespace Go.Proofs.YtdkemdcflbadhaaGreat
open Go.RowKit Go.IntWalk Go.Proofs.YtdkemdcflbadhaaGreatW.PrintWords
def CkPost (k n m : Int) (w : World) (e : Ending) (w' : World) : Prop := e = .returned (.int .i64 (checkP k n m)) ∧ w = w'
set_option maxRecDepth 100000 in
theorem rCheck_a (k n m : Int) (w : World) (h : k < 0) : Calls Tryz.prog 44 #[.int .i64 k, .int .i64 n, .int .i64 m] w (CkPost k n m w) := by
  unfold CkPost
  rw [checkP_not (by omega)]
  have d := decide_eq_true h
  clear h
  go_enter Tryz.func44, Tryz.ntmps44
  go_wp2_with fail
  go_ret
  exact ⟨rfl, rfl⟩
set_option maxRecDepth 100000 in
theorem rCheck_b (k n m : Int) (w : World) (h : 3 < k) : Calls Tryz.prog 44 #[.int .i64 k, .int .i64 n, .int .i64 m] w (CkPost k n m w) := by
  unfold CkPost
  rw [checkP_not (by omega)]
  have d0 : decide (k < 0) = false := decide_eq_false (by omega)
  have d := decide_eq_true h
  clear h
  go_enter Tryz.func44, Tryz.ntmps44
  go_wp2_with fail
  go_ret
  exact ⟨rfl, rfl⟩
set_option maxRecDepth 100000 in
theorem rCheck_c (k n m : Int) (w : World) (hk : 0 ≤ k ∧ k ≤ 3) (h : n < 0) : Calls Tryz.prog 44 #[.int .i64 k, .int .i64 n, .int .i64 m] w (CkPost k n m w) := by
  unfold CkPost
  rw [checkP_out (by omega) (.inl h)]
  have d0 : decide (k < 0) = false := decide_eq_false (by omega)
  have d1 : decide (3 < k) = false := decide_eq_false (by omega)
  have d := decide_eq_true h
  clear h hk
  go_enter Tryz.func44, Tryz.ntmps44
  go_wp2_with fail
  go_ret
  exact ⟨rfl, rfl⟩
set_option maxRecDepth 100000 in
theorem rCheck_d (k n m : Int) (w : World) (hk : 0 ≤ k ∧ k ≤ 3) (h : 131072 < n) : Calls Tryz.prog 44 #[.int .i64 k, .int .i64 n, .int .i64 m] w (CkPost k n m w) := by
  unfold CkPost
  rw [checkP_out (by omega) (.inr h)]
  have d0 : decide (k < 0) = false := decide_eq_false (by omega)
  have d1 : decide (3 < k) = false := decide_eq_false (by omega)
  have d2 : decide (n < 0) = false := decide_eq_false (by omega)
  have d := decide_eq_true h
  clear h hk
  go_enter Tryz.func44, Tryz.ntmps44
  go_wp2_with fail
  go_ret
  exact ⟨rfl, rfl⟩
set_option maxRecDepth 100000 in
theorem rCheck_0y (k n m : Int) (w : World) (hk : k = 0) (hn : 0 ≤ n ∧ n ≤ 131072) (h : m = n) : Calls Tryz.prog 44 #[.int .i64 k, .int .i64 n, .int .i64 m] w (CkPost k n m w) := by
  unfold CkPost
  subst hk
  subst h
  rw [checkP_may (by omega) hn (by unfold mayB; first | (simp; done) | (simp; omega))]
  have d2 : decide (m < 0) = false := decide_eq_false (by omega)
  have d3 : decide (131072 < m) = false := decide_eq_false (by omega)
  have hmm : (m != m) = false := by simp
  clear hn
  go_enter Tryz.func44, Tryz.ntmps44
  go_wp2_with fail
  go_ret
  exact ⟨rfl, rfl⟩
set_option maxRecDepth 100000 in
theorem rCheck_0n (k n m : Int) (w : World) (hk : k = 0) (hn : 0 ≤ n ∧ n ≤ 131072) (h : m ≠ n) : Calls Tryz.prog 44 #[.int .i64 k, .int .i64 n, .int .i64 m] w (CkPost k n m w) := by
  unfold CkPost
  subst hk
  rw [checkP_nay (by omega) (by unfold mayB; first | (simp; done) | (simp; omega))]
  have d2 : decide (n < 0) = false := decide_eq_false (by omega)
  have d3 : decide (131072 < n) = false := decide_eq_false (by omega)
  have hmm : (m != n) = true := by simpa using h
  clear h hn
  go_enter Tryz.func44, Tryz.ntmps44
  go_wp2_with fail
  go_ret
  exact ⟨rfl, rfl⟩
set_option maxRecDepth 100000 in
theorem rCheck_1a (k n m : Int) (w : World) (hk : k = 1) (hn : 0 ≤ n ∧ n ≤ 131072) (h : m ≠ 1) : Calls Tryz.prog 44 #[.int .i64 k, .int .i64 n, .int .i64 m] w (CkPost k n m w) := by
  unfold CkPost
  subst hk
  rw [checkP_nay (by omega) (by unfold mayB; first | (simp; done) | (simp; omega))]
  have d2 : decide (n < 0) = false := decide_eq_false (by omega)
  have d3 : decide (131072 < n) = false := decide_eq_false (by omega)
  have hmm : (m != 1) = true := by simpa using h
  clear h hn
  go_enter Tryz.func44, Tryz.ntmps44
  go_wp2_with fail
  go_ret
  exact ⟨rfl, rfl⟩
set_option maxRecDepth 100000 in
theorem rCheck_1b (k n m : Int) (w : World) (hk : k = 1) (hn : 0 ≤ n ∧ n ≤ 131072) (h : m = 1) (h2 : n < 2) : Calls Tryz.prog 44 #[.int .i64 k, .int .i64 n, .int .i64 m] w (CkPost k n m w) := by
  unfold CkPost
  subst hk
  subst h
  rw [checkP_nay (by omega) (by unfold mayB; first | (simp; done) | (simp; omega))]
  have d2 : decide (n < 0) = false := decide_eq_false (by omega)
  have d3 : decide (131072 < n) = false := decide_eq_false (by omega)
  have d := decide_eq_true h2
  clear h2 hn
  go_enter Tryz.func44, Tryz.ntmps44
  go_wp2_with fail
  go_ret
  exact ⟨rfl, rfl⟩
set_option maxRecDepth 100000 in
theorem rCheck_1y (k n m : Int) (w : World) (hk : k = 1) (hn : 0 ≤ n ∧ n ≤ 131072) (h : m = 1) (h2 : ¬ n < 2) : Calls Tryz.prog 44 #[.int .i64 k, .int .i64 n, .int .i64 m] w (CkPost k n m w) := by
  unfold CkPost
  subst hk
  subst h
  rw [checkP_may (by omega) hn (by unfold mayB; first | (simp; done) | (simp; omega))]
  have d2 : decide (n < 0) = false := decide_eq_false (by omega)
  have d3 : decide (131072 < n) = false := decide_eq_false (by omega)
  have d := decide_eq_false h2
  clear h2 hn
  go_enter Tryz.func44, Tryz.ntmps44
  go_wp2_with fail
  go_ret
  exact ⟨rfl, rfl⟩
set_option maxRecDepth 100000 in
theorem rCheck_2a (k n m : Int) (w : World) (hk : k = 2) (hn : 0 ≤ n ∧ n ≤ 131072) (h : m < 1) : Calls Tryz.prog 44 #[.int .i64 k, .int .i64 n, .int .i64 m] w (CkPost k n m w) := by
  unfold CkPost
  subst hk
  rw [checkP_nay (by omega) (by unfold mayB; first | (simp; done) | (simp; omega))]
  have d2 : decide (n < 0) = false := decide_eq_false (by omega)
  have d3 : decide (131072 < n) = false := decide_eq_false (by omega)
  have d := decide_eq_true h
  clear h hn
  go_enter Tryz.func44, Tryz.ntmps44
  go_wp2_with fail
  go_ret
  exact ⟨rfl, rfl⟩
set_option maxRecDepth 100000 in
theorem rCheck_2b (k n m : Int) (w : World) (hk : k = 2) (hn : 0 ≤ n ∧ n ≤ 131072) (h : ¬ m < 1) (h2 : n - 1 < m) : Calls Tryz.prog 44 #[.int .i64 k, .int .i64 n, .int .i64 m] w (CkPost k n m w) := by
  unfold CkPost
  subst hk
  rw [checkP_nay (by omega) (by unfold mayB; first | (simp; done) | (simp; omega))]
  have d2 : decide (n < 0) = false := decide_eq_false (by omega)
  have d3 : decide (131072 < n) = false := decide_eq_false (by omega)
  have d4 := decide_eq_false h
  have d := decide_eq_true h2
  have hw : IntKind.i64.wrap (n - 1) = n - 1 := i64_in _ (by omega)
  clear h h2
  go_enter Tryz.func44, Tryz.ntmps44
  go_wp2_with fail
  go_ret
  exact ⟨rfl, rfl⟩
set_option maxRecDepth 100000 in
theorem rCheck_2y (k n m : Int) (w : World) (hk : k = 2) (hn : 0 ≤ n ∧ n ≤ 131072) (h : ¬ m < 1) (h2 : ¬ n - 1 < m) : Calls Tryz.prog 44 #[.int .i64 k, .int .i64 n, .int .i64 m] w (CkPost k n m w) := by
  unfold CkPost
  subst hk
  rw [checkP_may (by omega) hn (by unfold mayB; first | (simp; done) | (simp; omega))]
  have d2 : decide (n < 0) = false := decide_eq_false (by omega)
  have d3 : decide (131072 < n) = false := decide_eq_false (by omega)
  have d4 := decide_eq_false h
  have d := decide_eq_false h2
  have hw : IntKind.i64.wrap (n - 1) = n - 1 := i64_in _ (by omega)
  clear h h2
  go_enter Tryz.func44, Tryz.ntmps44
  go_wp2_with fail
  go_ret
  exact ⟨rfl, rfl⟩
set_option maxRecDepth 100000 in
theorem rCheck_3a (k n m : Int) (w : World) (hk : k = 3) (hn : 0 ≤ n ∧ n ≤ 131072) (h : m < 1) : Calls Tryz.prog 44 #[.int .i64 k, .int .i64 n, .int .i64 m] w (CkPost k n m w) := by
  unfold CkPost
  subst hk
  rw [checkP_nay (by omega) (by unfold mayB; first | (simp; done) | (simp; omega))]
  have d2 : decide (n < 0) = false := decide_eq_false (by omega)
  have d3 : decide (131072 < n) = false := decide_eq_false (by omega)
  have d := decide_eq_true h
  clear h hn
  go_enter Tryz.func44, Tryz.ntmps44
  go_wp2_with fail
  go_ret
  exact ⟨rfl, rfl⟩
set_option maxRecDepth 100000 in
theorem rCheck_3b (k n m : Int) (w : World) (hk : k = 3) (hn : 0 ≤ n ∧ n ≤ 131072) (h : ¬ m < 1) (h2 : n - 1 < m) : Calls Tryz.prog 44 #[.int .i64 k, .int .i64 n, .int .i64 m] w (CkPost k n m w) := by
  unfold CkPost
  subst hk
  rw [checkP_nay (by omega) (by unfold mayB; first | (simp; done) | (simp; omega))]
  have d2 : decide (n < 0) = false := decide_eq_false (by omega)
  have d3 : decide (131072 < n) = false := decide_eq_false (by omega)
  have d4 := decide_eq_false h
  have d := decide_eq_true h2
  have hw : IntKind.i64.wrap (n - 1) = n - 1 := i64_in _ (by omega)
  clear h h2
  go_enter Tryz.func44, Tryz.ntmps44
  go_wp2_with fail
  go_ret
  exact ⟨rfl, rfl⟩
set_option maxRecDepth 100000 in
theorem rCheck_3y (k n m : Int) (w : World) (hk : k = 3) (hn : 0 ≤ n ∧ n ≤ 131072) (h : ¬ m < 1) (h2 : ¬ n - 1 < m) : Calls Tryz.prog 44 #[.int .i64 k, .int .i64 n, .int .i64 m] w (CkPost k n m w) := by
  unfold CkPost
  subst hk
  rw [checkP_may (by omega) hn (by unfold mayB; first | (simp; done) | (simp; omega))]
  have d2 : decide (n < 0) = false := decide_eq_false (by omega)
  have d3 : decide (131072 < n) = false := decide_eq_false (by omega)
  have d4 := decide_eq_false h
  have d := decide_eq_false h2
  have hw : IntKind.i64.wrap (n - 1) = n - 1 := i64_in _ (by omega)
  clear h h2
  go_enter Tryz.func44, Tryz.ntmps44
  go_wp2_with fail
  go_ret
  exact ⟨rfl, rfl⟩
theorem rCheck_any (k n m : Int) (w : World) : Calls Tryz.prog 44 #[.int .i64 k, .int .i64 n, .int .i64 m] w (CkPost k n m w) := by
  by_cases a1 : k < 0
  · exact rCheck_a k n m w a1
  by_cases a2 : 3 < k
  · exact rCheck_b k n m w a2
  by_cases a3 : n < 0
  · exact rCheck_c k n m w (by omega) a3
  by_cases a4 : 131072 < n
  · exact rCheck_d k n m w (by omega) a4
  have hn : 0 ≤ n ∧ n ≤ 131072 := by omega
  by_cases k0 : k = 0
  · by_cases h : m = n
    · exact rCheck_0y k n m w k0 hn h
    · exact rCheck_0n k n m w k0 hn h
  by_cases k1 : k = 1
  · by_cases h : m = 1
    · by_cases h2 : n < 2
      · exact rCheck_1b k n m w k1 hn h h2
      · exact rCheck_1y k n m w k1 hn h h2
    · exact rCheck_1a k n m w k1 hn h
  by_cases h : m < 1
  · by_cases k2 : k = 2
    · exact rCheck_2a k n m w k2 hn h
    · exact rCheck_3a k n m w (by omega) hn h
  by_cases h2 : n - 1 < m
  · by_cases k2 : k = 2
    · exact rCheck_2b k n m w k2 hn h h2
    · exact rCheck_3b k n m w (by omega) hn h h2
  · by_cases k2 : k = 2
    · exact rCheck_2y k n m w k2 hn h h2
    · exact rCheck_3y k n m w (by omega) hn h h2
/-- a number from its highest byte on -/
def hv (g : List Int) (m : Nat) : Nat → Nat
  | 0 => 0
  | d + 1 => 256 * hv g m d + (g.getD (m - 1 - d) 0).toNat
theorem hv_lt {g : List Int} (hg : Bytes g) (m : Nat) : ∀ d, hv g m d < 256 ^ d
  | 0 => by simp [hv]
  | d + 1 => by
    have h1 := hv_lt hg m d
    have h2 := hg.get (m - 1 - d)
    unfold hv
    rw [Nat.pow_succ]
    omega
theorem hv_3 (g : List Int) : hv g 3 3 = rdN g 3 := by
  simp only [hv, rdN, Nat.reduceSub]; omega
theorem hv_4 (g : List Int) : hv g 4 4 = rdN g 4 := by
  simp only [hv, rdN, Nat.reduceSub]; omega
set_option maxRecDepth 100000 in
set_option maxHeartbeats 1000000 in
theorem rNumber_any (A : Option Addr) (c : Nat) (f : List Int) (fr m : Nat) (w : World) (hr : (Kd.int .u8).C w A f.length f) (hf : Bytes f) (hl : f.length ≤ 1000000) (h1 : fr + m ≤ f.length) (hm : m = 3 ∨ m = 4) :
    Calls Tryz.prog 106 #[.slice A f.length c, .int .i64 fr, .int .i64 m] w (fun e w' => e = .returned (.int .i64 (rdN (f.drop fr) m : Nat)) ∧ w = w') := by
  have HR := Lib.hid (And.intro hr hf)
  have hE : rdN (f.drop fr) m = hv (f.drop fr) m m := by rcases hm with rfl | rfl; (· exact (hv_3 _).symm); (· exact (hv_4 _).symm)
  rw [hE]
  have HG := Lib.hid (show Bytes (f.drop fr) from fun x hx => hf x (List.mem_of_mem_drop hx))
  obtain ⟨g, hg⟩ : ∃ g, g = f.drop fr := ⟨_, rfl⟩
  rw [← hg] at HG ⊢
  have HGe := Lib.hid hg
  have hm4 : m ≤ 4 := by omega
  clear hr hf hE hg hm
  go_enter Tryz.func106, Tryz.ntmps106
  go_wp2_with fail
  go_loop [7, 8] (fun nv iv => ∃ d : Nat, d ≤ m ∧ nv = .int .i64 (hv g m d : Nat) ∧ iv = .int .i64 ((m : Int) - 1 - (d : Int))) (fun _ iv => ((intOf iv) + 1).toNat)
  case atStart => exact ⟨0, by omega, rfl, by simp⟩
  case round =>
    obtain ⟨d, hd, rfl, rfl⟩ := hrel
    by_cases hlt : d < m
    · have hI : (0 : Int) ≤ (m : Int) - 1 - (d : Int) := by omega
      obtain ⟨t, ht⟩ : ∃ t, t = m - 1 - d := ⟨_, rfl⟩
      have htI : (m : Int) - 1 - (d : Int) = (t : Int) := by omega
      obtain ⟨r, hr⟩ : ∃ r, r = fr + t := ⟨_, rfl⟩
      have hrI : (fr : Int) + (t : Int) = (r : Int) := by omega
      have hrl : r < f.length := by omega
      obtain ⟨ad, hA, hcx⟩ := ints_get HR.out.1 r hrl
      subst hA
      have hby := HR.out.2.get r
      obtain ⟨y, hy⟩ : ∃ y : Nat, f.getD r 0 = y := ⟨(f.getD r 0).toNat, by omega⟩
      rw [hy] at hcx hby
      have hlv := hv_lt HG.out m d
      have hlv2 : hv g m d < 4294967296 := Nat.lt_of_lt_of_le hlv (Nat.le_trans (Nat.pow_le_pow_right (by decide : 256 > 0) (by omega : d ≤ 4)) (by decide))
      have HN : Hid (hv g m (d + 1) = 256 * hv g m d + y) := Lib.hid (by
        have hgr : g.getD t 0 = y := by
          rw [HGe.out, ← hy, hr, List.getD_eq_getElem?_getD, List.getElem?_drop, ← List.getD_eq_getElem?_getD]
        show 256 * hv g m d + (g.getD (m - 1 - d) 0).toNat = _
        rw [← ht, hgr, Int.toNat_natCast])
      obtain ⟨v, hv'⟩ : ∃ v, v = hv g m d := ⟨_, rfl⟩
      rw [← hv'] at HN hlv2 ⊢
      have hrlI : (r : Int) < (f.length : Int) := by omega
      have hyl : y < 256 := by omega
      rw [htI]
      rw [htI] at hI
      have HTI := Lib.hid htI
      clear hlv hv' hby hy ht hr htI
      go_wp2_with fail
      go_round
      case rel => exact ⟨d + 1, by omega, by first | (rw [HN.out]; done) | (rw [HN.out]; go_num), by have := HTI.out; first | rfl | (congr 1; done) | (congr 1; omega) | go_num⟩
      case measure => have := HTI.out; first | (simp [intOf]; done) | (simp [intOf]; omega)
    · obtain rfl : d = m := by omega
      have hI : ¬ (0 : Int) ≤ (d : Int) - 1 - (d : Int) := by omega
      go_wp2_with fail
      go_ret
      exact ⟨rfl, rfl⟩
end Go.Proofs.YtdkemdcflbadhaaGreat
namespace Go.Proofs.YtdkemdcflbadhaaGreat
open Go.RowKit Go.IntWalk Go.Proofs.YtdkemdcflbadhaaGreatW.PrintWords
theorem sizeHeadR : (Tryz.prog.info? 59).map (·.size) = some 5 := by kernel_rfl
theorem load_headR {w : World} {g : Nat} {a b c d f : Value} (hg : w.heap[g]? = some (.cells #[a, b, c, d, f] 59 (0, 0))) : (loadVar 59 ⟨g, 0, none⟩).run Tryz.prog w = .ok (.agg #[a, b, c, d, f]) w :=
  run_loadVar_row w g _ _ _ _ _ hg Tryz.underlying59 rfl sizeHeadR
structure S23 (w : World) (r8 h : Nat) (a b c : Nat) (d : Bool) (W : World) : Prop where
  lt : r8 < h
  kh : W.heap[h]? = some (.cells #[.int .i64 a, .int .i64 b, .int .i64 c, .bool d, .int .u32 0] 59 (0, 0))
  kr : W.heap[r8]? = some (.cells #[.int .i64 0, .int .i64 0, .int .i64 0, .bool false, .int .u32 0] 59 (0, 0))
  on : Below r8 w W
theorem S23.set2 {w : World} {r8 h a b c : Nat} {d : Bool} {W : World} (hs : S23 w r8 h a b c d W) (c' : Nat) : S23 w r8 h a b c' d (W.setCell ⟨h, 2, none⟩ (.int .i64 c')) :=
  ⟨hs.lt, blk_set hs.kh 2 _, blk_far hs.kr (p := ⟨h, 2, none⟩) (by show r8 ≠ h; have := hs.lt; omega) _, hs.on.setCell (by show r8 ≤ h; have := hs.lt; omega) _⟩
set_option maxRecDepth 100000 in
set_option maxHeartbeats 4000000 in
theorem rScan_any (A : Option Addr) (c : Nat) (f : List Int) (log : Int) (first : Bool) (room : Int) (w : World) (hr : (Kd.int .u8).C w A f.length f) (hf : Bytes f) (hl : f.length ≤ 1000000) :
    Calls Tryz.prog 49 #[.slice A f.length c, .int .i64 log, .bool first, .int .i64 room] w (ScanPost (scanM f log first room) w) := by
  obtain ⟨W0, hW0⟩ : ∃ W, W = w.alloc (.cells #[.int .i64 0, .int .i64 0, .int .i64 0, .bool false, .int .u32 0] 59) := ⟨_, rfl⟩
  have hk0 : W0.heap[w.heap.size]? = some (.cells #[.int .i64 0, .int .i64 0, .int .i64 0, .bool false, .int .u32 0] 59 (0, 0)) := by rw [hW0]; exact blk_new _ _
  have hb0 : Below w.heap.size w W0 := by rw [hW0]; exact (Below.refl _ _).alloc (Nat.le_refl _) _
  have hs0 : W0.heap.size = w.heap.size + 1 := by rw [hW0]; simp
  have HK0 := Lib.hid (And.intro hk0 hb0)
  have HR := Lib.hid (And.intro (Kd.C_below hr hb0) (And.intro hf hl))
  by_cases hg : log < 10 ∨ 17 < log ∨ room < 0
  · have hE : scanM f log first room = (1, headZ) := by unfold scanM; rw [if_pos hg]
    rw [hE]
    have hd : decide (log < 10) = true ∨ (decide (log < 10) = false ∧ decide (17 < log) = true) ∨ (decide (log < 10) = false ∧ decide (17 < log) = false ∧ decide (room < 0) = true) := by
      by_cases h1 : log < 10
      · exact .inl (decide_eq_true h1)
      · by_cases h2 : 17 < log
        · exact .inr (.inl ⟨decide_eq_false h1, decide_eq_true h2⟩)
        · exact .inr (.inr ⟨decide_eq_false h1, decide_eq_false h2, decide_eq_true (by omega)⟩)
    clear hr hf hl hk0 hb0 hs0 hg hE
    rcases hd with d1 | ⟨d1, d2⟩ | ⟨d1, d2, d3⟩
    all_goals
      go_enter Tryz.func49, Tryz.ntmps49
      go_wp2_with fail
      rw [← hW0]
      refine bodyPost_ret (results_row_tmp (fn := Tryz.f49) (p := 8) (u := 9) (ty := 59) rfl _ _ _ _ rfl (load_headR HK0.out.1)) rfl ?_
      exact ⟨by rw [headC_zero]; rfl, HK0.out.2⟩
  have hlr : 10 ≤ log ∧ log ≤ 17 ∧ 0 ≤ room := by omega
  have g1 : decide (log < 10) = false := decide_eq_false (by omega)
  have g2 : decide (17 < log) = false := decide_eq_false (by omega)
  have g3 : decide (room < 0) = false := decide_eq_false (by omega)
  obtain ⟨lg, rfl⟩ : ∃ lg : Nat, log = lg := ⟨log.toNat, by omega⟩
  have HLR := Lib.hid hlr
  have HE1 : Hid (scanM f lg first room = (if f.length < 1 then (3, headZ) else
      if 7 < (f.getD 0 0).toNat then (10, headZ) else
      if f.length < 4 then (3, headZ) else
      if sizeOk lg first ((f.getD 0 0).toNat % 4) (rdN (f.drop 1) 3) (decide (4 ≤ (f.getD 0 0).toNat)) = false then (11, headZ) else
      if f.length < 7 then (3, headZ) else
      if checkP ((f.getD 0 0).toNat % 4 : Nat) (rdN (f.drop 1) 3) (rdN (f.drop 4) 3) ≠ 0 then (checkP ((f.getD 0 0).toNat % 4 : Nat) (rdN (f.drop 1) 3) (rdN (f.drop 4) 3), headZ) else
      if room < rdN (f.drop 1) 3 then (7, headZ) else
      if f.length < 11 then (3, headZ) else
      (0, (f.getD 0 0).toNat % 4, rdN (f.drop 1) 3, rdN (f.drop 4) 3, decide (4 ≤ (f.getD 0 0).toNat), rdN (f.drop 7) 4))) := Lib.hid (by
    show scanM f lg first room = _
    unfold scanM
    rw [if_neg hg])
  clear hg hlr
  by_cases hL1 : f.length < 1
  · have HE := Lib.hid (show scanM f lg first room = (3, headZ) from by rw [HE1.out, if_pos hL1])
    have hL1I : (f.length : Int) < 1 := by omega
    clear hr hf hl hk0 hb0 hs0 HE1 hL1
    go_enter Tryz.func49, Tryz.ntmps49
    go_wp2_with fail
    rw [← hW0]
    refine bodyPost_ret (results_row_tmp (fn := Tryz.f49) (p := 8) (u := 9) (ty := 59) rfl _ _ _ _ rfl (load_headR HK0.out.1)) rfl ?_
    rw [HE.out]
    exact ⟨by rw [headC_zero]; rfl, HK0.out.2⟩
  obtain ⟨ad, hA, hcx0⟩ := ints_get hr 0 (by omega)
  have e0 : ad.add 0 = ad := by simp [Addr.add]
  rw [e0] at hcx0
  have hcx : (w.alloc (.cells #[.int .i64 0, .int .i64 0, .int .i64 0, .bool false, .int .u32 0] 59)).cell? ad = some (.int .u8 (f.getD 0 0)) := pw_cell_below ((Below.refl _ _).alloc (Nat.le_refl _) _) hcx0
  have hby := hf.get 0
  obtain ⟨k1, hk1⟩ : ∃ k : Nat, f.getD 0 0 = k := ⟨(f.getD 0 0).toNat, by omega⟩
  rw [hk1] at HE1 hcx hby
  rw [Int.toNat_natCast, if_neg hL1] at HE1
  have hk18 : k1 < 256 := by omega
  have hL1I : ¬ (f.length : Int) < 1 := by omega
  have hfl0 : (0 : Int) < (f.length : Int) := by omega
  subst hA
  clear hby hk1 e0 hcx0 hL1
  by_cases h7 : 7 < k1
  · have HE := Lib.hid (show scanM f lg first room = (10, headZ) from by rw [HE1.out, if_pos h7])
    have h7I : (7 : Int) < (k1 : Int) := by omega
    clear hr hf hl hk0 hb0 hs0 HE1 h7
    go_enter Tryz.func49, Tryz.ntmps49
    go_wp2_with fail
    rw [← hW0]
    refine bodyPost_ret (results_row_tmp (fn := Tryz.f49) (p := 8) (u := 9) (ty := 59) rfl _ _ _ _ rfl (load_headR HK0.out.1)) rfl ?_
    rw [HE.out]
    exact ⟨by rw [headC_zero]; rfl, HK0.out.2⟩
  rw [if_neg h7] at HE1
  have h7I : ¬ (7 : Int) < (k1 : Int) := by omega
  have H7 := Lib.hid h7
  clear h7
  by_cases hL4 : f.length < 4
  · have HE := Lib.hid (show scanM f lg first room = (3, headZ) from by rw [HE1.out, if_pos hL4])
    have hL4I : (f.length : Int) < 4 := by omega
    clear hr hf hl hk0 hb0 hs0 HE1 hL4
    go_enter Tryz.func49, Tryz.ntmps49
    go_wp2_with fail
    rw [← hW0]
    refine bodyPost_ret (results_row_tmp (fn := Tryz.f49) (p := 8) (u := 9) (ty := 59) rfl _ _ _ _ rfl (load_headR HK0.out.1)) rfl ?_
    rw [HE.out]
    exact ⟨by rw [headC_zero]; rfl, HK0.out.2⟩
  rw [if_neg hL4] at HE1
  have hL4I : ¬ (f.length : Int) < 4 := by omega
  have HL4 := Lib.hid hL4
  have HNu := Lib.hid (fun (W : World) (fr m : Nat) (hB : Below W0.heap.size W0 W) h1 hm => rNumber_any (some ad) c f fr m W (Kd.C_below HR.out.1 hB) HR.out.2.1 HR.out.2.2 h1 hm)
  obtain ⟨a, ha⟩ : ∃ a, a = k1 % 4 := ⟨_, rfl⟩
  obtain ⟨lb, hlb⟩ : ∃ b, b = decide (4 ≤ k1) := ⟨_, rfl⟩
  obtain ⟨n2, hn2⟩ : ∃ n, n = rdN (f.drop 1) 3 := ⟨_, rfl⟩
  obtain ⟨n3, hn3⟩ : ∃ n, n = rdN (f.drop 4) 3 := ⟨_, rfl⟩
  obtain ⟨n4, hn4⟩ : ∃ n, n = rdN (f.drop 7) 4 := ⟨_, rfl⟩
  have b2 := rdN_lt (fun x hx => hf x (List.mem_of_mem_drop hx) : Bytes (f.drop 1)) 3
  have b4 := rdN_lt (fun x hx => hf x (List.mem_of_mem_drop hx) : Bytes (f.drop 7)) 4
  have HNu1 := Lib.hid (HNu.out W0 1 3 (Below.refl _ _) (by omega) (.inl rfl))
  rw [← hn2] at HNu1 b2
  rw [← hn4] at b4
  have b2' : n2 < 16777216 := by omega
  have b4' : n4 < 4294967296 := by omega
  rw [← ha, ← hlb, ← hn2, ← hn3, ← hn4] at HE1
  have ha4 : a < 4 := by omega
  have haI : (k1 : Int) % 4 = (a : Int) := by omega
  have haT : (k1 : Int).tmod 4 = (a : Int) := by rw [Int.tmod_eq_emod_of_nonneg (by omega)]; exact haI
  have hlbI : decide ((4 : Int) ≤ (k1 : Int)) = lb := by rw [hlb, Bool.eq_iff_iff]; simp; omega
  have HN3 := Lib.hid (And.intro hn3 hn4)
  obtain ⟨s, hs⟩ : ∃ s : Nat, s = 2 ^ lg := ⟨_, rfl⟩
  have hsI : (2 : Int) ^ lg = (s : Int) := by rw [hs]; simp
  have hs2 : s ≤ 131072 := by rw [hs]; exact Nat.le_trans (Nat.pow_le_pow_right (by decide : 2 > 0) (show lg ≤ 17 from by have := HLR.out; omega)) (by decide)
  have HSz : Hid (sizeOk lg first a n2 lb = (if lb = false then decide (n2 = s) else if n2 = 0 then first && decide (a = 0) else decide (n2 ≤ s))) := Lib.hid (by unfold sizeOk; rw [Int.toNat_natCast, hs])
  obtain ⟨r8, hr8⟩ : ∃ r, r = w.heap.size := ⟨_, rfl⟩
  have hW1 : Hid (∃ W1, W1 = W0.alloc (.cells #[.int .i64 a, .int .i64 n2, .int .i64 0, .bool lb, .int .u32 0] 59)) := Lib.hid ⟨_, rfl⟩
  have HS1 : Hid (S23 w r8 W0.heap.size a n2 0 lb (W0.alloc (.cells #[.int .i64 a, .int .i64 n2, .int .i64 0, .bool lb, .int .u32 0] 59))) := Lib.hid ⟨by omega, blk_new _ _, by rw [hr8]; exact blk_alloc hk0 _, by rw [hr8]; exact hb0.alloc hb0.size _⟩
  have HWr := Lib.hid hr8
  have HK0r : Hid (W0.heap[r8]? = some (.cells #[.int .i64 0, .int .i64 0, .int .i64 0, .bool false, .int .u32 0] 59 (0, 0))) := Lib.hid (by rw [hr8]; exact hk0)
  have hfl := hl
  have hlog : 10 ≤ lg ∧ lg ≤ 17 := by have := HLR.out; omega
  clear hr hf hl hk0 hb0 hL4 ha hlb hn2 hn3 hn4 b2 b4 hs hW1
  have HFl := Lib.hid hfl
  clear hfl
  go_enter Tryz.func49, Tryz.ntmps49
  go_wp2_with fail
  rw [← hW0, ← hr8]
  clear hcx
  refine HNu1.out.mono ?_
  rintro e w' ⟨rfl, rfl⟩
  obtain ⟨⟨z0, z1, z2, z3, z4⟩, y0, y1, y2, y3, y4⟩ := cell5 HK0r.out
  clear hW0 hr8 hs0
  have hhr : W0.heap.size ≠ r8 := by have := HS1.out.lt; omega
  have hrh : r8 ≠ W0.heap.size := by have := HS1.out.lt; omega
  by_cases hz : sizeOk lg first a n2 lb = true
  · have hzf : ¬ sizeOk lg first a n2 lb = false := by rw [hz]; decide
    rw [if_neg hzf] at HE1
    clear hzf
    by_cases hL7 : f.length < 7
    · have hL7I : (f.length : Int) < 7 := by omega
      have hsz := hz
      rw [HSz.out] at hsz
      cases lb with
      | false =>
        rw [if_pos rfl] at hsz
        have hq : ((n2 : Int) != (s : Int)) = false := by have := of_decide_eq_true hsz; rw [this]; simp
        clear hsz
        have HE := Lib.hid (show scanM f lg first room = (3, headZ) from by rw [HE1.out, if_pos hL7])
        obtain ⟨⟨p0, p1, p2, p3, p4⟩, q0, q1, q2, q3, q4⟩ := cell5 HS1.out.kh
        obtain ⟨⟨z0, z1, z2, z3, z4⟩, y0, y1, y2, y3, y4⟩ := cell5 HS1.out.kr
        clear HE1 hL7
        go_wp2_with fail
        all_goals
          refine bodyPost_ret (results_row_tmp (fn := Tryz.f49) (p := 8) (u := 9) (ty := 59) rfl _ _ _ _ rfl (load_headR (blk_set5 HS1.out.kr _ _ _ _ _))) rfl ?_
          rw [HE.out]
          exact ⟨by rw [headC_zero]; rfl, by show Below w.heap.size w _; rw [← HWr.out]; exact below_set5 HS1.out.on (Nat.le_refl _) _ _ _ _ _⟩
      | true =>
        rw [if_neg (by decide)] at hsz
        by_cases hn0 : n2 = 0
        · rw [if_pos hn0, Bool.and_eq_true] at hsz
          have hq2 : ((n2 : Int) == 0) = true := by rw [hn0]; rfl
          have hq1 : n2 ≤ s := by omega
          have hq3 : ((a : Int) == 0) = true := by have := of_decide_eq_true hsz.2; rw [this]; rfl
          obtain rfl := hsz.1
          clear hsz hn0
          have HE := Lib.hid (show scanM f lg true room = (3, headZ) from by rw [HE1.out, if_pos hL7])
          obtain ⟨⟨p0, p1, p2, p3, p4⟩, q0, q1, q2, q3, q4⟩ := cell5 HS1.out.kh
          obtain ⟨⟨z0, z1, z2, z3, z4⟩, y0, y1, y2, y3, y4⟩ := cell5 HS1.out.kr
          clear HE1 hL7
          go_wp2_with fail
          all_goals
            refine bodyPost_ret (results_row_tmp (fn := Tryz.f49) (p := 8) (u := 9) (ty := 59) rfl _ _ _ _ rfl (load_headR (blk_set5 HS1.out.kr _ _ _ _ _))) rfl ?_
            rw [HE.out]
            exact ⟨by rw [headC_zero]; rfl, by show Below w.heap.size w _; rw [← HWr.out]; exact below_set5 HS1.out.on (Nat.le_refl _) _ _ _ _ _⟩
        · rw [if_neg hn0] at hsz
          have hq2 : ((n2 : Int) == 0) = false := by simp; omega
          have hq1 : n2 ≤ s := of_decide_eq_true hsz
          clear hsz hn0
          have HE := Lib.hid (show scanM f lg first room = (3, headZ) from by rw [HE1.out, if_pos hL7])
          obtain ⟨⟨p0, p1, p2, p3, p4⟩, q0, q1, q2, q3, q4⟩ := cell5 HS1.out.kh
          obtain ⟨⟨z0, z1, z2, z3, z4⟩, y0, y1, y2, y3, y4⟩ := cell5 HS1.out.kr
          clear HE1 hL7
          go_wp2_with fail
          all_goals
            refine bodyPost_ret (results_row_tmp (fn := Tryz.f49) (p := 8) (u := 9) (ty := 59) rfl _ _ _ _ rfl (load_headR (blk_set5 HS1.out.kr _ _ _ _ _))) rfl ?_
            rw [HE.out]
            exact ⟨by rw [headC_zero]; rfl, by show Below w.heap.size w _; rw [← HWr.out]; exact below_set5 HS1.out.on (Nat.le_refl _) _ _ _ _ _⟩
    · have hL7I : ¬ (f.length : Int) < 7 := by omega
      have HL7 := Lib.hid hL7
      rw [if_neg hL7] at HE1
      clear hL7
      have hsz := hz
      rw [HSz.out] at hsz
      cases lb with
      | false =>
        rw [if_pos rfl] at hsz
        have hq : ((n2 : Int) != (s : Int)) = false := by have := of_decide_eq_true hsz; rw [this]; simp
        clear hsz
        obtain ⟨⟨p0, p1, p2, p3, p4⟩, q0, q1, q2, q3, q4⟩ := cell5 HS1.out.kh
        obtain ⟨⟨z0, z1, z2, z3, z4⟩, y0, y1, y2, y3, y4⟩ := cell5 HS1.out.kr
        obtain ⟨W1, hW1⟩ : ∃ W, W = W0.alloc (.cells #[.int .i64 a, .int .i64 n2, .int .i64 0, .bool false, .int .u32 0] 59) := ⟨_, rfl⟩
        have HSw : Hid (S23 w r8 W0.heap.size a n2 0 false W1) := Lib.hid (by rw [hW1]; exact HS1.out)
        have HBw : Hid (Below W0.heap.size W0 W1) := Lib.hid (by rw [hW1]; exact (Below.refl _ _).alloc (Nat.le_refl _) _)
        have HN4 := Lib.hid (HNu.out W1 4 3 HBw.out (by have := HL7.out; omega) (.inl rfl))
        rw [← HN3.out.1] at HN4
        go_wp2_with fail
        all_goals
          rw [← hW1]
          clear hW1 p0 p1 p2 p3 p4 q0 q1 q2 q3 q4 z0 z1 z2 z3 z4 y0 y1 y2 y3 y4
          refine HN4.out.mono ?_
          rintro e w' ⟨rfl, rfl⟩
          obtain ⟨⟨p0, p1, p2, p3, p4⟩, q0, q1, q2, q3, q4⟩ := cell5 HSw.out.kh
          obtain ⟨⟨z0, z1, z2, z3, z4⟩, y0, y1, y2, y3, y4⟩ := cell5 HSw.out.kr
          go_wp2_with fail
          refine (rCheck_any a n2 n3 _).mono ?_
          rintro e w' ⟨rfl, rfl⟩
          have HS2 := Lib.hid (HSw.out.set2 n3)
          by_cases hc0 : checkP a n2 n3 = 0
          · rw [if_neg (fun h => h hc0)] at HE1
            rw [hc0]
            by_cases hrm : room < n2
            · have HE := Lib.hid (show scanM f lg first room = (7, headZ) from by rw [HE1.out, if_pos hrm])
              have hrmd := decide_eq_true hrm
              clear HE1 hc0
              go_wp2_with fail
              refine bodyPost_ret (results_row_tmp (fn := Tryz.f49) (p := 8) (u := 9) (ty := 59) rfl _ _ _ _ rfl (load_headR (blk_set5 HS2.out.kr _ _ _ _ _))) rfl ?_
              rw [HE.out]
              exact ⟨by rw [headC_zero]; rfl, by show Below w.heap.size w _; rw [← HWr.out]; exact below_set5 HS2.out.on (Nat.le_refl _) _ _ _ _ _⟩
            · rw [if_neg hrm] at HE1
              have hrmd := decide_eq_false hrm
              by_cases hL11 : f.length < 11
              · have HE := Lib.hid (show scanM f lg first room = (3, headZ) from by rw [HE1.out, if_pos hL11])
                have hL11I : (f.length : Int) < 11 := by omega
                clear HE1 hc0 hL11
                go_wp2_with fail
                refine bodyPost_ret (results_row_tmp (fn := Tryz.f49) (p := 8) (u := 9) (ty := 59) rfl _ _ _ _ rfl (load_headR (blk_set5 HS2.out.kr _ _ _ _ _))) rfl ?_
                rw [HE.out]
                exact ⟨by rw [headC_zero]; rfl, by show Below w.heap.size w _; rw [← HWr.out]; exact below_set5 HS2.out.on (Nat.le_refl _) _ _ _ _ _⟩
              · have HE := Lib.hid (show scanM f lg first room = (0, a, n2, n3, false, n4) from by rw [HE1.out, if_neg hL11])
                have hL11I : ¬ (f.length : Int) < 11 := by omega
                have HN7 := HNu.out _ 7 4 (HBw.out.setCell (p := ⟨W0.heap.size, 2, none⟩) (Nat.le_refl _) (.int .i64 n3)) (by omega) (.inr rfl)
                rw [← HN3.out.2] at HN7
                have HN7h := Lib.hid HN7
                have hw4 : IntKind.u32.wrap (n4 : Int) = (n4 : Int) := by rw [IntKind.wrap_u32']; omega
                clear HE1 hc0 hL11 HN7
                go_wp2_with fail
                refine HN7h.out.mono ?_
                rintro e w' ⟨rfl, rfl⟩
                go_wp2_with fail
                refine bodyPost_ret (results_row_tmp (fn := Tryz.f49) (p := 8) (u := 9) (ty := 59) rfl _ _ _ _ rfl (load_headR (blk_set5 (blk_far HS2.out.kr (p := ⟨W0.heap.size, 4, none⟩) hrh _) _ _ _ _ _))) rfl ?_
                rw [HE.out]
                exact ⟨rfl, by show Below w.heap.size w _; rw [← HWr.out]; exact below_set5 (HS2.out.on.setCell (p := ⟨W0.heap.size, 4, none⟩) (Nat.le_of_lt HS2.out.lt) _) (Nat.le_refl _) _ _ _ _ _⟩
          · have HE := Lib.hid (show scanM f lg first room = (checkP a n2 n3, headZ) from by rw [HE1.out, if_pos hc0])
            obtain ⟨ck, hck⟩ : ∃ z, z = checkP a n2 n3 := ⟨_, rfl⟩
            rw [← hck] at HE hc0 ⊢
            have hc2 : (ck != 0) = true := by simpa using hc0
            clear HE1 hc0 hck
            go_wp2_with fail
            refine bodyPost_ret (results_row_tmp (fn := Tryz.f49) (p := 8) (u := 9) (ty := 59) rfl _ _ _ _ rfl (load_headR (blk_set5 HS2.out.kr _ _ _ _ _))) rfl ?_
            rw [HE.out]
            exact ⟨by rw [headC_zero]; rfl, by show Below w.heap.size w _; rw [← HWr.out]; exact below_set5 HS2.out.on (Nat.le_refl _) _ _ _ _ _⟩
      | true =>
        rw [if_neg (by decide)] at hsz
        by_cases hn0 : n2 = 0
        · rw [if_pos hn0, Bool.and_eq_true] at hsz
          have hq2 : ((n2 : Int) == 0) = true := by rw [hn0]; rfl
          have hq1 : n2 ≤ s := by omega
          have hq3 : ((a : Int) == 0) = true := by have := of_decide_eq_true hsz.2; rw [this]; rfl
          obtain rfl := hsz.1
          clear hsz hn0
          obtain ⟨⟨p0, p1, p2, p3, p4⟩, q0, q1, q2, q3, q4⟩ := cell5 HS1.out.kh
          obtain ⟨⟨z0, z1, z2, z3, z4⟩, y0, y1, y2, y3, y4⟩ := cell5 HS1.out.kr
          obtain ⟨W1, hW1⟩ : ∃ W, W = W0.alloc (.cells #[.int .i64 a, .int .i64 n2, .int .i64 0, .bool true, .int .u32 0] 59) := ⟨_, rfl⟩
          have HSw : Hid (S23 w r8 W0.heap.size a n2 0 true W1) := Lib.hid (by rw [hW1]; exact HS1.out)
          have HBw : Hid (Below W0.heap.size W0 W1) := Lib.hid (by rw [hW1]; exact (Below.refl _ _).alloc (Nat.le_refl _) _)
          have HN4 := Lib.hid (HNu.out W1 4 3 HBw.out (by have := HL7.out; omega) (.inl rfl))
          rw [← HN3.out.1] at HN4
          go_wp2_with fail
          all_goals
            rw [← hW1]
            clear hW1 p0 p1 p2 p3 p4 q0 q1 q2 q3 q4 z0 z1 z2 z3 z4 y0 y1 y2 y3 y4
            refine HN4.out.mono ?_
            rintro e w' ⟨rfl, rfl⟩
            obtain ⟨⟨p0, p1, p2, p3, p4⟩, q0, q1, q2, q3, q4⟩ := cell5 HSw.out.kh
            obtain ⟨⟨z0, z1, z2, z3, z4⟩, y0, y1, y2, y3, y4⟩ := cell5 HSw.out.kr
            go_wp2_with fail
            refine (rCheck_any a n2 n3 _).mono ?_
            rintro e w' ⟨rfl, rfl⟩
            have HS2 := Lib.hid (HSw.out.set2 n3)
            by_cases hc0 : checkP a n2 n3 = 0
            · rw [if_neg (fun h => h hc0)] at HE1
              rw [hc0]
              by_cases hrm : room < n2
              · have HE := Lib.hid (show scanM f lg true room = (7, headZ) from by rw [HE1.out, if_pos hrm])
                have hrmd := decide_eq_true hrm
                clear HE1 hc0
                go_wp2_with fail
                refine bodyPost_ret (results_row_tmp (fn := Tryz.f49) (p := 8) (u := 9) (ty := 59) rfl _ _ _ _ rfl (load_headR (blk_set5 HS2.out.kr _ _ _ _ _))) rfl ?_
                rw [HE.out]
                exact ⟨by rw [headC_zero]; rfl, by show Below w.heap.size w _; rw [← HWr.out]; exact below_set5 HS2.out.on (Nat.le_refl _) _ _ _ _ _⟩
              · rw [if_neg hrm] at HE1
                have hrmd := decide_eq_false hrm
                by_cases hL11 : f.length < 11
                · have HE := Lib.hid (show scanM f lg true room = (3, headZ) from by rw [HE1.out, if_pos hL11])
                  have hL11I : (f.length : Int) < 11 := by omega
                  clear HE1 hc0 hL11
                  go_wp2_with fail
                  refine bodyPost_ret (results_row_tmp (fn := Tryz.f49) (p := 8) (u := 9) (ty := 59) rfl _ _ _ _ rfl (load_headR (blk_set5 HS2.out.kr _ _ _ _ _))) rfl ?_
                  rw [HE.out]
                  exact ⟨by rw [headC_zero]; rfl, by show Below w.heap.size w _; rw [← HWr.out]; exact below_set5 HS2.out.on (Nat.le_refl _) _ _ _ _ _⟩
                · have HE := Lib.hid (show scanM f lg true room = (0, a, n2, n3, true, n4) from by rw [HE1.out, if_neg hL11])
                  have hL11I : ¬ (f.length : Int) < 11 := by omega
                  have HN7 := HNu.out _ 7 4 (HBw.out.setCell (p := ⟨W0.heap.size, 2, none⟩) (Nat.le_refl _) (.int .i64 n3)) (by omega) (.inr rfl)
                  rw [← HN3.out.2] at HN7
                  have HN7h := Lib.hid HN7
                  have hw4 : IntKind.u32.wrap (n4 : Int) = (n4 : Int) := by rw [IntKind.wrap_u32']; omega
                  clear HE1 hc0 hL11 HN7
                  go_wp2_with fail
                  refine HN7h.out.mono ?_
                  rintro e w' ⟨rfl, rfl⟩
                  go_wp2_with fail
                  refine bodyPost_ret (results_row_tmp (fn := Tryz.f49) (p := 8) (u := 9) (ty := 59) rfl _ _ _ _ rfl (load_headR (blk_set5 (blk_far HS2.out.kr (p := ⟨W0.heap.size, 4, none⟩) hrh _) _ _ _ _ _))) rfl ?_
                  rw [HE.out]
                  exact ⟨rfl, by show Below w.heap.size w _; rw [← HWr.out]; exact below_set5 (HS2.out.on.setCell (p := ⟨W0.heap.size, 4, none⟩) (Nat.le_of_lt HS2.out.lt) _) (Nat.le_refl _) _ _ _ _ _⟩
            · have HE := Lib.hid (show scanM f lg true room = (checkP a n2 n3, headZ) from by rw [HE1.out, if_pos hc0])
              obtain ⟨ck, hck⟩ : ∃ z, z = checkP a n2 n3 := ⟨_, rfl⟩
              rw [← hck] at HE hc0 ⊢
              have hc2 : (ck != 0) = true := by simpa using hc0
              clear HE1 hc0 hck
              go_wp2_with fail
              refine bodyPost_ret (results_row_tmp (fn := Tryz.f49) (p := 8) (u := 9) (ty := 59) rfl _ _ _ _ rfl (load_headR (blk_set5 HS2.out.kr _ _ _ _ _))) rfl ?_
              rw [HE.out]
              exact ⟨by rw [headC_zero]; rfl, by show Below w.heap.size w _; rw [← HWr.out]; exact below_set5 HS2.out.on (Nat.le_refl _) _ _ _ _ _⟩
        · rw [if_neg hn0] at hsz
          have hq2 : ((n2 : Int) == 0) = false := by simp; omega
          have hq1 : n2 ≤ s := of_decide_eq_true hsz
          clear hsz hn0
          obtain ⟨⟨p0, p1, p2, p3, p4⟩, q0, q1, q2, q3, q4⟩ := cell5 HS1.out.kh
          obtain ⟨⟨z0, z1, z2, z3, z4⟩, y0, y1, y2, y3, y4⟩ := cell5 HS1.out.kr
          obtain ⟨W1, hW1⟩ : ∃ W, W = W0.alloc (.cells #[.int .i64 a, .int .i64 n2, .int .i64 0, .bool true, .int .u32 0] 59) := ⟨_, rfl⟩
          have HSw : Hid (S23 w r8 W0.heap.size a n2 0 true W1) := Lib.hid (by rw [hW1]; exact HS1.out)
          have HBw : Hid (Below W0.heap.size W0 W1) := Lib.hid (by rw [hW1]; exact (Below.refl _ _).alloc (Nat.le_refl _) _)
          have HN4 := Lib.hid (HNu.out W1 4 3 HBw.out (by have := HL7.out; omega) (.inl rfl))
          rw [← HN3.out.1] at HN4
          go_wp2_with fail
          all_goals
            rw [← hW1]
            clear hW1 p0 p1 p2 p3 p4 q0 q1 q2 q3 q4 z0 z1 z2 z3 z4 y0 y1 y2 y3 y4
            refine HN4.out.mono ?_
            rintro e w' ⟨rfl, rfl⟩
            obtain ⟨⟨p0, p1, p2, p3, p4⟩, q0, q1, q2, q3, q4⟩ := cell5 HSw.out.kh
            obtain ⟨⟨z0, z1, z2, z3, z4⟩, y0, y1, y2, y3, y4⟩ := cell5 HSw.out.kr
            go_wp2_with fail
            refine (rCheck_any a n2 n3 _).mono ?_
            rintro e w' ⟨rfl, rfl⟩
            have HS2 := Lib.hid (HSw.out.set2 n3)
            by_cases hc0 : checkP a n2 n3 = 0
            · rw [if_neg (fun h => h hc0)] at HE1
              rw [hc0]
              by_cases hrm : room < n2
              · have HE := Lib.hid (show scanM f lg first room = (7, headZ) from by rw [HE1.out, if_pos hrm])
                have hrmd := decide_eq_true hrm
                clear HE1 hc0
                go_wp2_with fail
                refine bodyPost_ret (results_row_tmp (fn := Tryz.f49) (p := 8) (u := 9) (ty := 59) rfl _ _ _ _ rfl (load_headR (blk_set5 HS2.out.kr _ _ _ _ _))) rfl ?_
                rw [HE.out]
                exact ⟨by rw [headC_zero]; rfl, by show Below w.heap.size w _; rw [← HWr.out]; exact below_set5 HS2.out.on (Nat.le_refl _) _ _ _ _ _⟩
              · rw [if_neg hrm] at HE1
                have hrmd := decide_eq_false hrm
                by_cases hL11 : f.length < 11
                · have HE := Lib.hid (show scanM f lg first room = (3, headZ) from by rw [HE1.out, if_pos hL11])
                  have hL11I : (f.length : Int) < 11 := by omega
                  clear HE1 hc0 hL11
                  go_wp2_with fail
                  refine bodyPost_ret (results_row_tmp (fn := Tryz.f49) (p := 8) (u := 9) (ty := 59) rfl _ _ _ _ rfl (load_headR (blk_set5 HS2.out.kr _ _ _ _ _))) rfl ?_
                  rw [HE.out]
                  exact ⟨by rw [headC_zero]; rfl, by show Below w.heap.size w _; rw [← HWr.out]; exact below_set5 HS2.out.on (Nat.le_refl _) _ _ _ _ _⟩
                · have HE := Lib.hid (show scanM f lg first room = (0, a, n2, n3, true, n4) from by rw [HE1.out, if_neg hL11])
                  have hL11I : ¬ (f.length : Int) < 11 := by omega
                  have HN7 := HNu.out _ 7 4 (HBw.out.setCell (p := ⟨W0.heap.size, 2, none⟩) (Nat.le_refl _) (.int .i64 n3)) (by omega) (.inr rfl)
                  rw [← HN3.out.2] at HN7
                  have HN7h := Lib.hid HN7
                  have hw4 : IntKind.u32.wrap (n4 : Int) = (n4 : Int) := by rw [IntKind.wrap_u32']; omega
                  clear HE1 hc0 hL11 HN7
                  go_wp2_with fail
                  refine HN7h.out.mono ?_
                  rintro e w' ⟨rfl, rfl⟩
                  go_wp2_with fail
                  refine bodyPost_ret (results_row_tmp (fn := Tryz.f49) (p := 8) (u := 9) (ty := 59) rfl _ _ _ _ rfl (load_headR (blk_set5 (blk_far HS2.out.kr (p := ⟨W0.heap.size, 4, none⟩) hrh _) _ _ _ _ _))) rfl ?_
                  rw [HE.out]
                  exact ⟨rfl, by show Below w.heap.size w _; rw [← HWr.out]; exact below_set5 (HS2.out.on.setCell (p := ⟨W0.heap.size, 4, none⟩) (Nat.le_of_lt HS2.out.lt) _) (Nat.le_refl _) _ _ _ _ _⟩
            · have HE := Lib.hid (show scanM f lg first room = (checkP a n2 n3, headZ) from by rw [HE1.out, if_pos hc0])
              obtain ⟨ck, hck⟩ : ∃ z, z = checkP a n2 n3 := ⟨_, rfl⟩
              rw [← hck] at HE hc0 ⊢
              have hc2 : (ck != 0) = true := by simpa using hc0
              clear HE1 hc0 hck
              go_wp2_with fail
              refine bodyPost_ret (results_row_tmp (fn := Tryz.f49) (p := 8) (u := 9) (ty := 59) rfl _ _ _ _ rfl (load_headR (blk_set5 HS2.out.kr _ _ _ _ _))) rfl ?_
              rw [HE.out]
              exact ⟨by rw [headC_zero]; rfl, by show Below w.heap.size w _; rw [← HWr.out]; exact below_set5 HS2.out.on (Nat.le_refl _) _ _ _ _ _⟩
  · have hz' : sizeOk lg first a n2 lb = false := by cases h : sizeOk lg first a n2 lb; (· rfl); (· exact absurd h hz)
    have HE := Lib.hid (show scanM f lg first room = (11, headZ) from by rw [HE1.out, if_pos hz'])
    have hsz := hz'
    rw [HSz.out] at hsz
    clear HE1 hz hz'
    cases lb with
    | false =>
      rw [if_pos rfl] at hsz
      have hq : ((n2 : Int) != (s : Int)) = true := by have := of_decide_eq_false hsz; simp; omega
      clear hsz
      obtain ⟨⟨p0, p1, p2, p3, p4⟩, q0, q1, q2, q3, q4⟩ := cell5 HS1.out.kh
      obtain ⟨⟨z0, z1, z2, z3, z4⟩, y0, y1, y2, y3, y4⟩ := cell5 HS1.out.kr
      go_wp2_with fail
      all_goals
        refine bodyPost_ret (results_row_tmp (fn := Tryz.f49) (p := 8) (u := 9) (ty := 59) rfl _ _ _ _ rfl (load_headR (blk_set5 HS1.out.kr _ _ _ _ _))) rfl ?_
        rw [HE.out]
        exact ⟨by rw [headC_zero]; rfl, by show Below w.heap.size w _; rw [← HWr.out]; exact below_set5 HS1.out.on (Nat.le_refl _) _ _ _ _ _⟩
    | true =>
      rw [if_neg (by decide)] at hsz
      by_cases hn0 : n2 = 0
      · rw [if_pos hn0] at hsz
        have hq2 : ((n2 : Int) == 0) = true := by rw [hn0]; rfl
        have hq1 : n2 ≤ s := by omega
        clear hn0
        cases first with
        | false =>
          clear hsz
          obtain ⟨⟨p0, p1, p2, p3, p4⟩, q0, q1, q2, q3, q4⟩ := cell5 HS1.out.kh
          obtain ⟨⟨z0, z1, z2, z3, z4⟩, y0, y1, y2, y3, y4⟩ := cell5 HS1.out.kr
          go_wp2_with fail
          all_goals
            refine bodyPost_ret (results_row_tmp (fn := Tryz.f49) (p := 8) (u := 9) (ty := 59) rfl _ _ _ _ rfl (load_headR (blk_set5 HS1.out.kr _ _ _ _ _))) rfl ?_
            rw [HE.out]
            exact ⟨by rw [headC_zero]; rfl, by show Below w.heap.size w _; rw [← HWr.out]; exact below_set5 HS1.out.on (Nat.le_refl _) _ _ _ _ _⟩
        | true =>
          have hq3 : ((a : Int) == 0) = false := by
            rw [Bool.true_and] at hsz
            have := of_decide_eq_false hsz; simp; omega
          clear hsz
          obtain ⟨⟨p0, p1, p2, p3, p4⟩, q0, q1, q2, q3, q4⟩ := cell5 HS1.out.kh
          obtain ⟨⟨z0, z1, z2, z3, z4⟩, y0, y1, y2, y3, y4⟩ := cell5 HS1.out.kr
          go_wp2_with fail
          all_goals
            refine bodyPost_ret (results_row_tmp (fn := Tryz.f49) (p := 8) (u := 9) (ty := 59) rfl _ _ _ _ rfl (load_headR (blk_set5 HS1.out.kr _ _ _ _ _))) rfl ?_
            rw [HE.out]
            exact ⟨by rw [headC_zero]; rfl, by show Below w.heap.size w _; rw [← HWr.out]; exact below_set5 HS1.out.on (Nat.le_refl _) _ _ _ _ _⟩
      · rw [if_neg hn0] at hsz
        have hq1 : s < n2 := by have := of_decide_eq_false hsz; omega
        clear hsz hn0
        obtain ⟨⟨p0, p1, p2, p3, p4⟩, q0, q1, q2, q3, q4⟩ := cell5 HS1.out.kh
        obtain ⟨⟨z0, z1, z2, z3, z4⟩, y0, y1, y2, y3, y4⟩ := cell5 HS1.out.kr
        go_wp2_with fail
        all_goals
          refine bodyPost_ret (results_row_tmp (fn := Tryz.f49) (p := 8) (u := 9) (ty := 59) rfl _ _ _ _ rfl (load_headR (blk_set5 HS1.out.kr _ _ _ _ _))) rfl ?_
          rw [HE.out]
          exact ⟨by rw [headC_zero]; rfl, by show Below w.heap.size w _; rw [← HWr.out]; exact below_set5 HS1.out.on (Nat.le_refl _) _ _ _ _ _⟩
end Go.Proofs.YtdkemdcflbadhaaGreat
namespace Go.Proofs.YtdkemdcflbadhaaGreat
open Go.RowKit
theorem best_nilP : (bestP ([] : List Int)).1 = 0 ∧ (bestP ([] : List Int)).2 = [] := by
  have h : bestP ([] : List Int) = (0, []) := by
    unfold bestP betterK
    simp
  rw [h]; exact ⟨rfl, rfl⟩
theorem size_last {b : List Int} {log : Nat} {first : Bool} (h : b.length ≤ 2 ^ log) (h0 : b.length = 0 → first = true) : ∀ k : Nat, k ≤ 3 → (bestP b).1 = (k : Nat) → sizeOk (log : Int) first k b.length true = true := by
  intro k _ hk
  unfold sizeOk
  rw [if_neg (by simp)]
  by_cases e : b.length = 0
  · have hb : b = [] := List.eq_nil_of_length_eq_zero e
    rw [if_pos e, h0 e]
    subst hb
    rw [best_nilP.1] at hk
    have : k = 0 := by omega
    rw [this]; rfl
  · rw [if_neg e, Int.toNat_natCast]; exact decide_eq_true h
theorem drop_app {a b : List Int} {n : Nat} (h : n = a.length) : (a ++ b).drop n = b := by
  rw [h, List.drop_append_of_le_length (Nat.le_refl _), List.drop_of_length_le (Nat.le_refl _), List.nil_append]
end Go.Proofs.YtdkemdcflbadhaaGreat
namespace Go.Proofs.YtdkemdcflbadhaaGreat
open Go.RowKit Go.IntWalk Go.Proofs.YtdkemdcflbadhaaGreatW.PrintWords
theorem OpenPost.out {r : Int × List Int × Nat × Bool} {w : World} {e : Ending} {w' : World} (h : OpenPost r w e w') (hy : Bytes r.2.1) : ∃ A c, e = .returned (.tuple #[.slice A r.2.1.length c, .int .i64 (r.2.2.1 : Nat), .bool r.2.2.2, .int .i64 r.1]) ∧ BSl w' A c r.2.1 ∧ Below w.heap.size w w' := by
  obtain ⟨A, c, he, hr, hb⟩ := h
  exact ⟨A, c, he, BSl.of hr hy, hb⟩
theorem blockOpen_told (A : Option Addr) (c : Nat) (f : List Int) (log : Int) (first : Bool) (room : Int) {k : Int} {y : List Int} {u : Nat} {l : Bool} (w : World) (hr : (Kd.int .u8).C w A f.length f) (hf : Bytes f) (hl : f.length ≤ 1000000) (hc : f.length ≤ c) (h : openM f log first room = (k, y, u, l)) (hy : Bytes y) :
    Calls Tryz.prog 50 #[.slice A f.length c, .int .i64 log, .bool first, .int .i64 room] w (fun e w' => ∃ A c, e = .returned (.tuple #[.slice A y.length c, .int .i64 (u : Nat), .bool l, .int .i64 k]) ∧ BSl w' A c y ∧ Below w.heap.size w w') := by
  have := blockOpen_any A c f log first room w hr hf hl hc
  rw [h] at this
  exact this.mono fun e w' hp => hp.out hy
def blk0 : List Int := [4, 0, 0, 0, 0, 0, 0, 0, 0, 0, 0]
theorem put_nil : putM [] true = blk0 := by
  unfold putM
  rw [best_nil]
  decide +kernel
theorem b555 : Bytes [5, 5, 5] := by intro x hx; simp at hx; omega
theorem best555 : bestP [5, 5, 5] = (1, [5]) := best_alike b555 (by decide) (by decide)
theorem put555_len : (putM [5, 5, 5] true).length = 12 := by rw [putM_len, best555]; rfl
theorem open555 : openM (putM [5, 5, 5] true) 10 true 3 = (0, [5, 5, 5], 12, true) := by
  have h := open_put (b := [5, 5, 5]) (m := []) (log := 10) (room := 3) (first := true) (last := true) b555 (by decide) (by decide) (by decide) (size_last (log := 10) (by decide) (fun _ => rfl))
  rw [List.append_nil, best555] at h
  exact h
set_option maxRecDepth 100000 in
set_option maxHeartbeats 1000000 in
theorem awake23_any (w : World) : Calls Tryz.prog 45 #[] w (Ret (.bool true) w) := by
  go_enter Tryz.func45, Tryz.ntmps45
  go_wp2_with fail
  have h1 := blockPut_any none 0 [] true w (Kd.R_reads' (Kd.R_nil (Kd.int .u8) 5 w w.heap.size (fun _ => True))).2.2 (by intro x hx; cases hx) (by decide) (.inl rfl)
  rw [put_nil] at h1
  refine h1.mono ?_
  clear h1
  intro e w1 h1
  obtain ⟨A1, c1, rfl, hs1, hb1⟩ := h1.out (by intro x hx; simp [blk0] at hx; omega)
  rw [show blk0.length = 11 from rfl]
  have HB1 := Lib.hid hb1
  have HS1 := Lib.hid hs1
  clear h1 hs1 hb1
  obtain ⟨w2, hw2⟩ : ∃ w2, w2 = w1.alloc (.cells #[.int .u8 5, .int .u8 5, .int .u8 5] 5) := ⟨_, rfl⟩
  have HB2 : Hid (Below w.heap.size w w2) := by show Below _ _ _; rw [hw2]; exact HB1.out.alloc HB1.out.size _
  have HS12 : Hid (BSl w2 A1 c1 blk0) := Lib.hid (HS1.out.below (by rw [hw2]; exact (Below.refl _ _).alloc (Nat.le_refl _) _))
  have HS2 : Hid (BSl w2 (some ⟨w1.heap.size, 0, none⟩) 3 [5, 5, 5]) := by show BSl _ _ _ _; rw [hw2]; exact lit_row [5, 5, 5] b555 (by decide)
  go_wp2_with fail
  rw [← hw2]
  clear hw2
  have h3 := blockPut_any (some ⟨w1.heap.size, 0, none⟩) 3 [5, 5, 5] true w2 HS2.out.row b555 (by decide) (.inl rfl)
  obtain ⟨X, hX⟩ : ∃ X, X = putM [5, 5, 5] true := ⟨_, rfl⟩
  have HXl : Hid (X.length = 12) := Lib.hid (by rw [hX]; exact put555_len)
  have HXo : Hid (openM X 10 true 3 = (0, [5, 5, 5], 12, true)) := Lib.hid (by rw [hX]; exact open555)
  have HXb : Hid (Bytes X) := Lib.hid (by rw [hX]; exact putM_bytes b555 (by decide) true)
  rw [← hX] at h3
  refine h3.mono ?_
  clear h3 hX
  intro e w3 h3
  obtain ⟨A3, c3, rfl, hs3, hb3⟩ := h3.out HXb.out
  have HB3 := Lib.hid (below_tr HB2.out hb3)
  have HS3 := Lib.hid hs3
  have HS13 := Lib.hid (HS12.out.below hb3)
  have HOp := Lib.hid (blockOpen_told A3 c3 X 10 true 3 w3 hs3.row HXb.out (by rw [HXl.out]; decide) hs3.cap HXo.out b555)
  rw [HXl.out] at HOp ⊢
  clear h3 hs3 hb3
  go_wp2_with fail
  refine HOp.out.mono ?_
  rintro e w4 ⟨A4, c4, rfl, hs4, hb4⟩
  have HB4 := Lib.hid (below_tr HB3.out hb4)
  have v1 : (convert 22 9 (.slice A1 11 c1)).run Tryz.prog w4 = .ok (.string ⟨#[4, 0, 0, 0, 0, 0, 0, 0, 0, 0, 0]⟩) w4 := (HS13.out.below hb4).str
  have v2 : (convert 22 9 (.slice A4 3 c4)).run Tryz.prog w4 = .ok (.string ⟨#[5, 5, 5]⟩) w4 := hs4.str
  clear hs4 hb4
  go_wp2_with fail
  go_ret
  exact ⟨rfl, HB4.out⟩
end Go.Proofs.YtdkemdcflbadhaaGreat
namespace Go.Proofs.YtdkemdcflbadhaaGreat
open Go.RowKit Go.IntWalk Go.Proofs.YtdkemdcflbadhaaGreatW.PrintWords
theorem size_b {b : List Int} {first : Bool} (hl : b.length ≤ 1000) (h0 : b.length = 0 → first = true) : ∀ k : Nat, k ≤ 3 → (bestP b).1 = (k : Nat) → sizeOk 10 first k b.length true = true :=
  size_last (log := 10) (by omega) h0
theorem scan_told (A : Option Addr) (c : Nat) (f : List Int) (log : Int) (first : Bool) (room : Int) {k : Int} {h : HeadT} (w : World) (hr : (Kd.int .u8).C w A f.length f) (hf : Bytes f) (hl : f.length ≤ 1000000) (hc : f.length ≤ c) (he : scanM f log first room = (k, h)) :
    Calls Tryz.prog 48 #[.slice A f.length c, .int .i64 log, .bool first, .int .i64 room] w (fun e w' => e = .returned (.tuple #[.agg (headC h), .int .i64 k]) ∧ Below w.heap.size w w') := by
  have := scan_any A c f log first room w hr hf hl hc
  rw [he] at this
  exact this
set_option maxRecDepth 100000 in
set_option maxHeartbeats 1000000 in
theorem blockCuts_any (A : Option Addr) (ca : Nat) (b : List Int) (n : Nat) (w : World) (hr : (Kd.int .u8).C w A b.length b) (hby : Bytes b) (hn : n < 65536) :
    Calls Tryz.prog 18 #[.slice A b.length ca, .int .u16 n] w (Ret (.bool true) w) := by
  have HR := Lib.hid hr
  have HX := Lib.hid hby
  clear hr hby
  by_cases h1 : b.length ≤ 200
  · have d1 : decide (200 < (b.length : Int)) = false := decide_eq_false (by omega)
    have HL := Lib.hid h1
    clear h1
    go_enter Tryz.func18, Tryz.ntmps18
    go_wp2_with fail
    refine (awake23_any w).mono ?_
    rintro e w1 ⟨rfl, hb1⟩
    have HB1 := Lib.hid hb1
    clear hb1
    go_wp2_with fail
    refine (blockPut_any A ca b true w1 (Kd.C_below HR.out HB1.out) HX.out (by have := HL.out; omega) (.inl rfl)).mono ?_
    intro e w2 h2
    obtain ⟨A2, c2, rfl, hs2, hb2⟩ := h2.out (putM_bytes HX.out (by have := HL.out; omega) true)
    have hxl := putM_len b true
    have hbl := best_len b
    have HCut := Lib.hid (fun j (hj : j < (putM b true).length) => open_cut (b := b) (log := 10) (room := 1000) (first := true) (last := true) HX.out (by have := HL.out; omega) (by decide) (by have := HL.out; omega) (size_b (b := b) (by have := HL.out; omega) (fun _ => rfl)) hj)
    obtain ⟨x, hx⟩ : ∃ x, x = putM b true := ⟨_, rfl⟩
    rw [← hx] at hs2 hxl HCut ⊢
    have hx11 : ¬ (x.length : Int) < 11 := by omega
    have hx9 : x.length ≤ 300 := by have := HL.out; omega
    have hxp : 0 < x.length := by omega
    obtain ⟨j, hj⟩ : ∃ j, j = n % x.length := ⟨_, rfl⟩
    have hjl : j < x.length := by rw [hj]; exact Nat.mod_lt _ hxp
    have hm : (n : Int).tmod (x.length : Int) = (j : Int) := by rw [Int.tmod_eq_emod_of_nonneg (by omega), hj]; simp
    have hm2 : (n : Int) % (x.length : Int) = (j : Int) := by rw [hj]; simp
    have hwn : IntKind.i64.wrap (n : Int) = (n : Int) := i64_in _ (by omega)
    have hwj : IntKind.i64.wrap (j : Int) = (j : Int) := i64_in _ (by omega)
    have hsl : ∀ W : World, (Instr.slice 22 (.slice A2 x.length c2) none (some (.int .i64 (j : Int))) none).run Tryz.prog W = .ok (.slice A2 j c2) W := fun W => by
      obtain ⟨i0, hi0, hz0, hz1, hz2⟩ := info_parts infoU8
      have := cut_to (P := Tryz.prog) 22 5 .i64 Tryz.underlying22 hi0 A2 x.length c2 (j : Int) (by omega) (by omega) hs2.cap W
      simp only [Int.toNat_natCast] at this
      exact this
    obtain ⟨y, hy⟩ : ∃ y, y = x.take j := ⟨_, rfl⟩
    have hyl : y.length = j := by rw [hy, List.length_take]; omega
    have HY := Lib.hid (And.intro (show (Kd.int .u8).C w2 A2 j y from by have := Kd.C_take (m := j) hs2.row (by omega); rw [← hy, hyl] at this; exact this) (And.intro (show Bytes y from by rw [hy]; exact fun z hz => hs2.by' z (List.mem_of_mem_take hz)) (And.intro hyl (show j ≤ c2 from by have := hs2.cap; omega))))
    have HC := Lib.hid (HCut.out j hjl)
    rw [← hy] at HC
    have HB2 := Lib.hid (below_tr HB1.out hb2)
    have hx0 : ((x.length : Int) == 0) = false := by simp; intro e; subst e; simp at hxp
    have hx00 : (x.length : Int) ≠ 0 := by omega
    have HJ := Lib.hid hjl
    have hj9 : j ≤ 300 := by omega
    have HOp := Lib.hid (fun (W : World) (hW : Below w2.heap.size w2 W) => blockOpen_told A2 c2 y 10 true 1000 W (by rw [hyl]; exact Kd.C_below HY.out.1 hW) HY.out.2.1 (by omega) (by rw [hyl]; exact HY.out.2.2.2) HC.out.1 (by intro z hz; cases hz))
    obtain ⟨sk, sh, hsk⟩ : ∃ sk sh, scanM y 10 true 1000 = (sk, sh) := ⟨_, _, rfl⟩
    have HSk := Lib.hid (show sk = if j < 11 then 3 else 0 from by have := HC.out.2; rw [hsk] at this; exact this)
    have HSc := Lib.hid (fun (W : World) (hW : Below w2.heap.size w2 W) => scan_told A2 c2 y 10 true 1000 W (by rw [hyl]; exact Kd.C_below HY.out.1 hW) HY.out.2.1 (by omega) (by rw [hyl]; exact HY.out.2.2.2) hsk)
    rw [hyl] at HOp HSc
    clear h2 hs2 hb2 hx hy hyl hj hsk hbl hxl hjl hxp
    go_wp2_with fail
    refine (HOp.out w2 (Below.refl _ _)).mono ?_
    rintro e w3 ⟨A3, c3, rfl, hs3, hb3⟩
    have HB23 := Lib.hid hb3
    have HB3 := Lib.hid (below_tr HB2.out hb3)
    clear hs3 hb3
    go_wp2_with fail
    refine (HSc.out w3 HB23.out).mono ?_
    rintro e w4 ⟨rfl, hb4⟩
    have HB4 := Lib.hid (below_tr HB3.out hb4)
    have HAl : Hid (Below w.heap.size w (w4.alloc (.cells (headC sh) 56))) := Lib.hid (HB4.out.alloc HB4.out.size _)
    clear hb4
    by_cases hj11 : j < 11
    · have hd : decide ((j : Int) < 11) = true := decide_eq_true (by omega)
      have hsk3 : sk = 3 := by rw [HSk.out, if_pos hj11]
      subst hsk3
      clear hj11
      unfold headC at HAl ⊢
      go_wp2_with fail
      go_ret
      exact ⟨by first | rfl | exact ret_bool (by simp; omega), HAl.out⟩
    · have hd : decide ((j : Int) < 11) = false := decide_eq_false (by omega)
      have hsk3 : sk = 0 := by rw [HSk.out, if_neg hj11]
      subst hsk3
      clear hj11
      unfold headC at HAl ⊢
      go_wp2_with fail
      go_ret
      exact ⟨by first | rfl | exact ret_bool (by simp; omega), HAl.out⟩
  · have hI : decide ((200 : Int) < (b.length : Int)) = true := decide_eq_true (by omega)
    clear h1
    go_enter Tryz.func18, Tryz.ntmps18
    go_wp2_with fail
    refine (awake23_any w).mono ?_
    rintro e w1 ⟨rfl, hb1⟩
    have HB1 := Lib.hid hb1
    clear hb1
    go_wp2_with fail
    go_ret
    exact ⟨rfl, HB1.out⟩
theorem blockCuts_law (A : Option Addr) (ca : Nat) (b : List Int) (n : Int) (w : World) (hr : (Kd.int .u8).C w A b.length b) (_ : b.length ≤ ca) (hby : Bytes b) (_ : b.length * 1 ≤ 140737488351232) (hn : (Lit.int .u16 n).wf = true) :
    Calls Tryz.prog 18 #[.slice A b.length ca, .int .u16 n] w (Ret (.bool true) w) := by
  obtain ⟨k, rfl, hk⟩ := u16_of hn
  exact blockCuts_any A ca b k w hr hby hk
end Go.Proofs.YtdkemdcflbadhaaGreat
namespace Go.Proofs.YtdkemdcflbadhaaGreat
open Go.RowKit Go.IntWalk Go.Proofs.YtdkemdcflbadhaaGreatW.PrintWords
theorem rScan_told (A : Option Addr) (c : Nat) (f : List Int) (log : Int) (first : Bool) (room : Int) {k : Int} {h : HeadT} (w : World) (hr : (Kd.int .u8).C w A f.length f) (hf : Bytes f) (hl : f.length ≤ 1000000) (he : scanM f log first room = (k, h)) :
    Calls Tryz.prog 49 #[.slice A f.length c, .int .i64 log, .bool first, .int .i64 room] w (fun e w' => e = .returned (.tuple #[.agg (headC h), .int .i64 k]) ∧ Below w.heap.size w w') := by
  have := rScan_any A c f log first room w hr hf hl
  rw [he] at this
  exact this
set_option maxRecDepth 100000 in
set_option maxHeartbeats 1000000 in
theorem blockScans_law (A : Option Addr) (ca : Nat) (f : List Int) (log : Int) (first : Bool) (room : Int) (w : World) (hr : (Kd.int .u8).C w A f.length f) (hc : f.length ≤ ca) (hby : Bytes f) (_ : f.length * 1 ≤ 140737488351232) (_ : (Lit.int .i64 log).wf = true) (_ : (Lit.int .i64 room).wf = true) :
    Calls Tryz.prog 15 #[.slice A f.length ca, .int .i64 log, .bool first, .int .i64 room] w (Ret (.bool true) w) := by
  have HR := Lib.hid (And.intro hr (And.intro hc hby))
  by_cases h1 : f.length ≤ 300
  · have d1 : decide (300 < (f.length : Int)) = false := decide_eq_false (by omega)
    obtain ⟨k, kd, N, Len, lb, sm, hS⟩ : ∃ k kd N Len lb sm, scanM f log first room = (k, kd, N, Len, lb, sm) := ⟨_, _, _, _, _, _, rfl⟩
    have HSc := Lib.hid (fun (W : World) (hB : Below w.heap.size w W) => scan_told A ca f log first room W (Kd.C_below hr hB) hby (by omega) hc hS)
    have HRc := Lib.hid (fun (W : World) (hB : Below w.heap.size w W) => rScan_told A ca f log first room W (Kd.C_below hr hB) hby (by omega) hS)
    unfold headC at HSc HRc
    dsimp only at HSc HRc
    clear hr hc hby h1 hS
    go_enter Tryz.func15, Tryz.ntmps15
    go_wp2_with fail
    refine (awake23_any w).mono ?_
    rintro e w1 ⟨rfl, hb1⟩
    have HB1 := Lib.hid hb1
    clear hb1
    go_wp2_with fail
    refine (HSc.out w1 HB1.out).mono ?_
    rintro e w2 ⟨rfl, hb2⟩
    obtain ⟨w3, hw3⟩ : ∃ w3, w3 = w2.alloc (.cells #[.int .i64 kd, .int .i64 N, .int .i64 Len, .bool lb, .int .u32 sm] 56) := ⟨_, rfl⟩
    have hk3 : w3.heap[w2.heap.size]? = some (.cells #[.int .i64 kd, .int .i64 N, .int .i64 Len, .bool lb, .int .u32 sm] 56 (0, 0)) := by rw [hw3]; exact blk_new _ _
    have HB3 := Lib.hid (show Below w.heap.size w w3 from by rw [hw3]; exact (below_tr HB1.out hb2).alloc (below_tr HB1.out hb2).size _)
    obtain ⟨p3, hp3⟩ : ∃ p, p = w2.heap.size := ⟨_, rfl⟩
    rw [← hp3] at hk3
    have HK3 := Lib.hid hk3
    clear hb2 hk3
    go_wp2_with fail
    rw [← hw3, ← hp3]
    clear hw3 hp3
    refine (HRc.out w3 HB3.out).mono ?_
    rintro e w4 ⟨rfl, hb4⟩
    have hk5 : (w4.alloc (.cells #[.int .i64 kd, .int .i64 N, .int .i64 Len, .bool lb, .int .u32 sm] 59)).heap[p3]? = some (.cells #[.int .i64 kd, .int .i64 N, .int .i64 Len, .bool lb, .int .u32 sm] 56 (0, 0)) := blk_alloc (blk_below HK3.out hb4) _
    obtain ⟨⟨c0, c1, c2, c3, c4⟩, -⟩ := cell5 hk5
    have HB4 := Lib.hid (below_tr HB3.out hb4)
    clear hb4 hk5
    go_wp2_with fail
    go_ret
    exact ⟨by first | rfl | exact ret_bool (by simp), HB4.out.alloc HB4.out.size _⟩
  · have hI : decide ((300 : Int) < (f.length : Int)) = true := decide_eq_true (by omega)
    clear h1 hr hc hby
    go_enter Tryz.func15, Tryz.ntmps15
    go_wp2_with fail
    refine (awake23_any w).mono ?_
    rintro e w1 ⟨rfl, hb1⟩
    have HB1 := Lib.hid hb1
    clear hb1
    go_wp2_with fail
    go_ret
    exact ⟨rfl, HB1.out⟩
end Go.Proofs.YtdkemdcflbadhaaGreat
namespace Go.Proofs.YtdkemdcflbadhaaGreat
open Go.RowKit Go.IntWalk Go.Proofs.YtdkemdcflbadhaaGreatW.PrintWords
/-- what is opened, with room more, or less -/
structure OpF (b x : List Int) (rm : Int) (ek : Int) (ey : List Int) (eu : Nat) (el : Bool) : Prop where
  by' : Bytes ey
  fin : (rm < 0 ∧ (b.length : Int) + rm < 0 ∧ ek = 1 ∧ ey = [] ∧ eu = 0 ∧ el = false) ∨ (rm < 0 ∧ ¬ (b.length : Int) + rm < 0 ∧ ek = 7 ∧ ey = [] ∧ eu = 0 ∧ el = false) ∨ (¬ rm < 0 ∧ ek = 0 ∧ ey = b ∧ eu = x.length ∧ el = true)
theorem opF {b more : List Int} (hb : Bytes b) (hl : b.length ≤ 200) (h0 : 0 < b.length) (rm : Int) : ∃ ek ey eu el, openM (putM b true ++ more) 10 false ((b.length : Int) + rm) = (ek, ey, eu, el) ∧ OpF b (putM b true) rm ek ey eu el := by
  have hs := size_b (b := b) (first := false) (by omega) (fun h => by omega)
  by_cases h1 : rm < 0
  · by_cases h2 : (b.length : Int) + rm < 0
    · refine ⟨1, [], 0, false, ?_, fun x hx => (by cases hx), .inl ⟨h1, h2, rfl, rfl, rfl, rfl⟩⟩
      have e : scanM (putM b true ++ more) 10 false ((b.length : Int) + rm) = (1, headZ) := by unfold scanM; rw [if_pos (.inr (.inr h2))]
      unfold openM
      rw [e, if_pos (by decide)]
    · refine ⟨7, [], 0, false, ?_, fun x hx => (by cases hx), .inr (.inl ⟨h1, h2, rfl, rfl, rfl, rfl⟩)⟩
      obtain ⟨k, hk, hk3, e⟩ := scan_put (m := more) (log := 10) (room := (b.length : Int) + rm) (first := false) (last := true) hb (by omega) (by decide) (by omega) hs
      rw [if_pos (by omega)] at e
      unfold openM
      rw [e, if_pos (by decide)]
  · refine ⟨0, b, 11 + (bestP b).2.length, true, ?_, hb, .inr (.inr ⟨h1, rfl, rfl, (putM_len b true).symm, rfl⟩)⟩
    exact open_put hb (by omega) (by decide) (by omega) hs
set_option maxRecDepth 100000 in
set_option maxHeartbeats 2000000 in
theorem blockBack_in (A B : Option Addr) (ca cb : Nat) (b more : List Int) (rm : Int) (w : World) (hr : (Kd.int .u8).C w A b.length b) (hby : Bytes b) (hm : (Kd.int .u8).C w B more.length more) (hmy : Bytes more) (hl : b.length ≤ 200) (h0 : 0 < b.length) (hml : more.length ≤ 60) (hrm : -128 ≤ rm ∧ rm ≤ 127) :
    Calls Tryz.prog 17 #[.slice A b.length ca, .slice B more.length cb, .int .i8 rm] w (Ret (.bool true) w) := by
  have d1 : decide (200 < (b.length : Int)) = false := decide_eq_false (by omega)
  have d2 : ((b.length : Int) == 0) = false := by simp; intro e; subst e; simp at h0
  have d3 : decide (60 < (more.length : Int)) = false := decide_eq_false (by omega)
  have HR := Lib.hid hr
  have HX := Lib.hid hby
  have HMo := Lib.hid (And.intro hm hmy)
  have HL := Lib.hid (And.intro hl (And.intro h0 hml))
  have HRm := Lib.hid hrm
  obtain ⟨ek, ey, eu, el, hop, hF⟩ := opF (more := more) hby hl h0 rm
  have hsc : scanM (putM b true ++ more) 10 false 1000 = (0, ((bestP b).1).toNat, b.length, (bestP b).2.length, true, crcAdd 0 (bestP b).2) := by
    obtain ⟨k, hk, hk3, e⟩ := scan_put (m := more) (log := 10) (room := 1000) (first := false) (last := true) hby (by omega) (by decide) (by decide) (size_b (b := b) (first := false) (by omega) (fun h => by omega))
    rw [if_neg (by omega)] at e
    rw [e, hk, Int.toNat_natCast]
  have hxl := putM_len b true
  have hbl := best_len b
  have hPB := putM_bytes hby (by omega : b.length ≤ 131072) true
  obtain ⟨k, hk, hk3⟩ := best_kind (b := b) (by omega)
  rw [hk, Int.toNat_natCast] at hsc
  have hcl := crcAdd_le 0 (bestP b).2
  have HBest := Lib.hid (fun (W : World) (hB : Below w.heap.size w W) => best_any A ca b W (Kd.C_below hr hB) hby (by omega))
  unfold BestPost at HBest
  rw [hk] at HBest
  obtain ⟨x, hx⟩ : ∃ x, x = putM b true := ⟨_, rfl⟩
  obtain ⟨bp, hbp⟩ : ∃ x, x = (bestP b).2 := ⟨_, rfl⟩
  have HPut := Lib.hid (fun (W : World) (hB : Below w.heap.size w W) => blockPut_any A ca b true W (Kd.C_below hr hB) hby (by omega) (.inl rfl))
  rw [← hx] at hop hF hsc hxl hPB HPut
  rw [← hbp] at hsc hxl hbl hcl HBest
  obtain ⟨sm, hsm⟩ : ∃ s, s = crcAdd 0 bp := ⟨_, rfl⟩
  rw [← hsm] at hsc hcl
  obtain ⟨al, hal⟩ : ∃ l, l = x ++ more := ⟨_, rfl⟩
  rw [← hal] at hop hsc
  have hal2 : al.length = x.length + more.length := by rw [hal, List.length_append]
  have HAl := Lib.hid hal
  have HALb : Hid (Bytes al) := Lib.hid (by rw [hal]; exact fun z hz => (List.mem_append.1 hz).elim (hPB z) (hmy z))
  have HF := Lib.hid hF
  have HOp := Lib.hid hop
  have HSc := Lib.hid hsc
  have hx6 : x.length ≤ 300 := by omega
  have hbp6 : bp.length ≤ 200 := by omega
  have HXl := Lib.hid hxl
  have HPB := Lib.hid hPB
  have hal6 : al.length ≤ 400 := by omega
  have HAL := Lib.hid (And.intro hal2 hal6)
  have hsm4 : sm < 4294967296 := by omega
  have hwr : IntKind.i64.wrap rm = rm := i64_in _ (by omega)
  have hws : IntKind.i64.wrap ((b.length : Int) + rm) = (b.length : Int) + rm := i64_in _ (by omega)
  clear hr hby hm hmy hl h0 hml hop hF hsc hxl hbl hPB hk hk3 hcl hx hbp hsm hal hal2
  go_enter Tryz.func17, Tryz.ntmps17
  go_wp2_with fail
  refine (awake23_any w).mono ?_
  rintro e w1 ⟨rfl, hb1⟩
  have HB1 := Lib.hid hb1
  clear hb1
  go_wp2_with fail
  refine (HPut.out w1 HB1.out).mono ?_
  intro e w2 h2
  obtain ⟨A2, c2, rfl, hs2, hb2⟩ := h2.out HPB.out
  have HB2 := Lib.hid (below_tr HB1.out hb2)
  have HS2 := Lib.hid hs2
  have HE0 : Hid ((Kd.int .u8).R 5 (w2.alloc (.cells #[] 5)) w2.heap.size (fun _ => True) (.slice (some ⟨w2.heap.size, 0, none⟩) 0 0) []) := row_lit .u8 5 w2 w2.heap.size (fun _ => True) trivial (Nat.le_refl _) [] (by decide)
  have HB0 : Hid (Below w2.heap.size w2 (w2.alloc (.cells #[] 5))) := (Below.refl _ _).alloc (Nat.le_refl _) _
  have HRow0 : Hid ((Kd.int .u8).C (w2.alloc (.cells #[] 5)) A2 x.length x) := Kd.C_alloc hs2.row _
  have HL1 : Hid ((0 + x.length) * 1 ≤ 140737488355328) := by show _ ≤ _; omega
  have HL2 : Hid ((x.length + more.length) * 1 ≤ 140737488355328) := by show _ ≤ _; have := HL.out.2.2; omega
  clear h2 hs2 hb2
  go_wp2_with (at_builtin; first
    | (refine Kd.R_append_rows (Kd.int .u8) (Rr := (Kd.int .u8).K (w2.alloc (.cells #[] 5))) (w0 := w2) (W := w2.alloc (.cells #[] 5)) w2.heap.size rfl (.tmp 42) (.tmp 43) 22 5 (.int .u8 0) 1 rfl Tryz.underlying22 infoU8 rfl (by decide) (by decide) (.slice (some ⟨w2.heap.size, 0, none⟩) 0 0) [] x A2 x.length c2 (fun _ => True) (fun _ => False) rfl rfl HE0.out HRow0.out (fun _ _ h => h) (fun _ h => h.elim) (fun _ _ => trivial) HB0.out HB0.out.size HL1.out ?_
       intro vi w5 hr5 hb5 hg5 hat5
       rw [List.nil_append] at hr5
       obtain ⟨A5, c5, rfl⟩ := Kd.R_slice hr5
       have HR5 := Lib.hid hr5
       have HB5 := Lib.hid hb5
       have HM5 := Lib.hid (Kd.C_below HMo.out.1 (below_tr HB2.out hb5))
       have HS5 := Lib.hid hb5.size
       clear hr5 hb5 hg5 hat5)
    | (refine Kd.R_append_rows (Kd.int .u8) (Rr := (Kd.int .u8).K w5) (w0 := w2) (W := w5) w2.heap.size rfl (.tmp 44) (.tmp 45) 22 5 (.int .u8 0) 1 rfl Tryz.underlying22 infoU8 rfl (by decide) (by decide) (.slice A5 x.length c5) x more B more.length cb (fun _ => True) (fun _ => False) rfl rfl HR5.out HM5.out (fun _ _ h => h) (fun _ h => h.elim) (fun _ _ => trivial) HB5.out HS5.out HL2.out ?_
       intro vi w6 hr6 hb6 hg6 hat6
       rw [← HAl.out] at hr6
       obtain ⟨A6, c6, rfl⟩ := Kd.R_slice hr6
       have HS6 := Lib.hid (BSl.of hr6 HALb.out)
       have HB26 := Lib.hid hb6
       have HB6 := Lib.hid (below_tr HB2.out hb6)
       clear hr6 hb6 hg6 hat6))
  refine (HBest.out w6 HB6.out).mono ?_
  rintro e w7 ⟨A7, c7, rfl, -, hb7⟩
  have HS7 := Lib.hid (HS6.out.below hb7)
  have HB7 := Lib.hid (below_tr HB6.out hb7)
  have HScn := Lib.hid (scan_told A6 c6 al 10 false 1000 w7 HS7.out.row HALb.out (by omega) HS7.out.cap HSc.out)
  unfold headC at HScn
  clear hb7
  go_wp2_with fail
  refine HScn.out.mono ?_
  rintro e w8 ⟨rfl, hb8⟩
  dsimp only
  have hk8 : ∀ W : World, Below (w8.alloc (.cells #[.int .i64 k, .int .i64 b.length, .int .i64 bp.length, .bool true, .int .u32 sm] 56)).heap.size (w8.alloc (.cells #[.int .i64 k, .int .i64 b.length, .int .i64 bp.length, .bool true, .int .u32 sm] 56)) W → W.heap[w8.heap.size]? = some (.cells #[.int .i64 k, .int .i64 b.length, .int .i64 bp.length, .bool true, .int .u32 sm] 56 (0, 0)) := fun W hW => blk_below (blk_new _ _) hW
  have HK8 := Lib.hid hk8
  have HB8 := Lib.hid (show Below w.heap.size w (w8.alloc (.cells #[.int .i64 k, .int .i64 b.length, .int .i64 bp.length, .bool true, .int .u32 sm] 56)) from (below_tr HB7.out hb8).alloc (below_tr HB7.out hb8).size _)
  have HS8 := Lib.hid (HS7.out.below (show Below w7.heap.size w7 (w8.alloc (.cells #[.int .i64 k, .int .i64 b.length, .int .i64 bp.length, .bool true, .int .u32 sm] 56)) from hb8.alloc hb8.size _))
  have HOpn := Lib.hid (blockOpen_told A6 c6 al 10 false ((b.length : Int) + rm) _ HS8.out.row HALb.out (by omega) HS8.out.cap HOp.out HF.out.by')
  clear hb8 hk8
  go_wp2_with fail
  refine HOpn.out.mono ?_
  rintro e w9 ⟨A9, c9, rfl, hs9, hb9⟩
  have HB9 := Lib.hid (below_tr HB8.out hb9)
  have HS9 := Lib.hid hs9
  obtain ⟨⟨c0, c1, c2', c3, c4⟩, -⟩ := cell5 (HK8.out w9 hb9)
  clear hs9 hb9
  have hxe : (x.length : Int) = 11 + (bp.length : Int) := by have := HXl.out; omega
  rcases HF.out.fin with ⟨r1, r2, rfl, rfl, rfl, rfl⟩ | ⟨r1, r2, rfl, rfl, rfl, rfl⟩ | ⟨r1, rfl, rfl, rfl, rfl⟩
  · have dr1 := decide_eq_true r1
    have dr2 := decide_eq_true r2
    clear HF
    go_wp2_with fail
    go_ret
    exact ⟨by first | rfl | exact ret_bool (by simp), HB9.out⟩
  · have dr1 := decide_eq_true r1
    have dr2 := decide_eq_false r2
    clear HF
    go_wp2_with fail
    go_ret
    exact ⟨by first | rfl | exact ret_bool (by simp), HB9.out⟩
  · have dr1 := decide_eq_false r1
    clear HF r1
    go_wp2_with fail
    refine (same_same A9 A c9 ca ey w9 HS9.out.row (Kd.C_below HR.out HB9.out) HX.out).mono ?_
    rintro e w10 ⟨rfl, rfl⟩
    go_wp2_with fail
    go_ret
    exact ⟨by first | rfl | exact ret_bool (by simp; omega), HB9.out⟩
theorem i8_of {n : Int} (h : (Lit.int .i8 n).wf = true) : -128 ≤ n ∧ n ≤ 127 := by
  have a : IntKind.i8.min = -128 := rfl
  have b : IntKind.i8.max = 127 := rfl
  simp only [Lit.wf, a, b, Bool.and_eq_true, decide_eq_true_eq] at h
  exact h
set_option maxRecDepth 100000 in
set_option maxHeartbeats 1000000 in
theorem blockBack_law (A : Option Addr) (ca : Nat) (b : List Int) (B : Option Addr) (cb : Nat) (more : List Int) (rm : Int) (w : World) (hr : (Kd.int .u8).C w A b.length b) (_ : b.length ≤ ca) (hby : Bytes b) (_ : b.length * 1 ≤ 140737488351232) (hm : (Kd.int .u8).C w B more.length more) (_ : more.length ≤ cb) (hmy : Bytes more) (_ : more.length * 1 ≤ 140737488351232) (hn : (Lit.int .i8 rm).wf = true) :
    Calls Tryz.prog 17 #[.slice A b.length ca, .slice B more.length cb, .int .i8 rm] w (Ret (.bool true) w) := by
  by_cases h1 : b.length ≤ 200 ∧ 0 < b.length ∧ more.length ≤ 60
  · exact blockBack_in A B ca cb b more rm w hr hby hm hmy h1.1 h1.2.1 h1.2.2 (i8_of hn)
  · have tail : ∀ d1 d2 d3 : Bool, decide (200 < (b.length : Int)) = d1 → ((b.length : Int) == 0) = d2 → decide (60 < (more.length : Int)) = d3 → (d1 || d2 || d3) = true →
        Calls Tryz.prog 17 #[.slice A b.length ca, .slice B more.length cb, .int .i8 rm] w (Ret (.bool true) w) := by
      intro d1 d2 d3 e1 e2 e3 h
      clear h1 hr hby hm hmy hn
      cases d1 <;> cases d2 <;> cases d3 <;> first
        | (exfalso; revert h; decide)
        | (clear h
           go_enter Tryz.func17, Tryz.ntmps17
           go_wp2_with fail
           refine (awake23_any w).mono ?_
           rintro e w1 ⟨rfl, hb1⟩
           have HB1 := Lib.hid hb1
           clear hb1
           go_wp2_with fail
           go_ret
           exact ⟨rfl, HB1.out⟩)
    refine tail _ _ _ rfl rfl rfl ?_
    by_cases a1 : 200 < b.length
    · rw [decide_eq_true (by omega)]; rfl
    · by_cases a2 : b.length = 0
      · rw [show ((b.length : Int) == 0) = true by rw [a2]; rfl]; simp
      · rw [show decide ((60 : Int) < (more.length : Int)) = true from decide_eq_true (by omega)]; simp
end Go.Proofs.YtdkemdcflbadhaaGreat
namespace Go.Proofs.YtdkemdcflbadhaaGreat
open Go.RowKit
theorem getD_app {f m : List Int} {k : Nat} (h : k < f.length) : (f ++ m).getD k 0 = f.getD k 0 := by
  rw [List.getD_eq_getElem?_getD, List.getElem?_append_left h, ← List.getD_eq_getElem?_getD]
theorem rdN_app {f m : List Int} : ∀ k, k ≤ f.length → rdN (f ++ m) k = rdN f k
  | 0, _ => rfl
  | k + 1, h => by unfold rdN; rw [rdN_app k (by omega), getD_app (by omega)]
theorem rdn_app {f m : List Int} {i k : Nat} (h : i + k ≤ f.length) : rdN ((f ++ m).drop i) k = rdN (f.drop i) k := by
  rw [List.drop_append_of_le_length (by omega)]
  exact rdN_app k (by rw [List.length_drop]; omega)
/-- what is not too short is the same with more behind it -/
theorem scan_more {f m : List Int} {log room : Int} {first : Bool} (h : (scanM f log first room).1 ≠ 3) : scanM (f ++ m) log first room = scanM f log first room := by
  unfold scanM at h ⊢
  by_cases a1 : log < 10 ∨ 17 < log ∨ room < 0
  · rw [if_pos a1, if_pos a1]
  rw [if_neg a1] at h ⊢
  rw [if_neg a1]
  by_cases a2 : f.length < 1
  · rw [if_pos a2] at h; exact absurd rfl h
  rw [if_neg a2] at h
  rw [if_neg (by rw [List.length_append]; omega), if_neg a2, getD_app (by omega)]
  by_cases a3 : 7 < (f.getD 0 0).toNat
  · rw [if_pos a3, if_pos a3]
  rw [if_neg a3] at h
  rw [if_neg a3, if_neg a3]
  by_cases a4 : f.length < 4
  · rw [if_pos a4] at h; exact absurd rfl h
  rw [if_neg a4] at h
  rw [if_neg (by rw [List.length_append]; omega), if_neg a4, rdn_app (by omega : 1 + 3 ≤ f.length)]
  by_cases a5 : sizeOk log first ((f.getD 0 0).toNat % 4) (rdN (f.drop 1) 3) (decide (4 ≤ (f.getD 0 0).toNat)) = false
  · rw [if_pos a5, if_pos a5]
  rw [if_neg a5] at h
  rw [if_neg a5, if_neg a5]
  by_cases a6 : f.length < 7
  · rw [if_pos a6] at h; exact absurd rfl h
  rw [if_neg a6] at h
  rw [if_neg (by rw [List.length_append]; omega), if_neg a6, rdn_app (by omega : 4 + 3 ≤ f.length)]
  by_cases a7 : checkP ((f.getD 0 0).toNat % 4 : Nat) (rdN (f.drop 1) 3) (rdN (f.drop 4) 3) ≠ 0
  · rw [if_pos a7, if_pos a7]
  rw [if_neg a7] at h
  rw [if_neg a7, if_neg a7]
  by_cases a8 : room < rdN (f.drop 1) 3
  · rw [if_pos a8, if_pos a8]
  rw [if_neg a8] at h
  rw [if_neg a8, if_neg a8]
  by_cases a9 : f.length < 11
  · rw [if_pos a9] at h; exact absurd rfl h
  rw [if_neg (by rw [List.length_append]; omega), if_neg a9, rdn_app (by omega : 7 + 4 ≤ f.length)]
end Go.Proofs.YtdkemdcflbadhaaGreat
namespace Go.Proofs.YtdkemdcflbadhaaGreat
open Go.RowKit Go.IntWalk Go.Proofs.YtdkemdcflbadhaaGreatW.PrintWords
theorem turn_rest {p : List Int} {k b i : Nat} (h : 8 * p.length ≤ k + i) (d : Nat) : turnL p k b (i + d) = turnL p k b i ∧ turnE k (8 * p.length) b (i + d) = turnE k (8 * p.length) b i := by
  induction d with
  | zero => exact ⟨rfl, rfl⟩
  | succ d ih =>
    rw [← Nat.add_assoc]
    constructor
    · rw [turnL, if_neg (by omega)]; exact ih.1
    · rw [turnE, if_neg (by omega)]; exact ih.2
def tB (k n b i : Nat) : Bool := decide (turnE k n b i ≠ 0)
theorem turnE_hit {k n b i : Nat} (h : k + i < n) (hb : b / 2 ^ i % 2 = 1) : turnE k n b (i + 1) = turnE k n b i ^^^ 2 ^ i := by rw [turnE, if_pos ⟨h, hb⟩]
theorem turnE_miss {k n b i : Nat} (hb : b / 2 ^ i % 2 ≠ 1) : turnE k n b (i + 1) = turnE k n b i := by rw [turnE, if_neg (fun h => hb h.2)]
theorem tB_hit {k n b i : Nat} (h : k + i < n) (hb : b / 2 ^ i % 2 = 1) : tB k n b (i + 1) = true := by
  have hl := turnE_lt k n b i
  refine decide_eq_true (fun e => ?_)
  rw [turnE_hit h hb] at e
  have := xor_zero e
  omega
theorem tB_miss {k n b i : Nat} (hb : b / 2 ^ i % 2 ≠ 1) : tB k n b (i + 1) = tB k n b i := by
  unfold tB; rw [turnE_miss hb]
theorem turnL_hit {p : List Int} {k b i : Nat} (h : k + i < 8 * p.length) (hb : b / 2 ^ i % 2 = 1) : turnL p k b (i + 1) = flipL (turnL p k b i) (k + i) := by rw [turnL, if_pos ⟨h, hb⟩]
theorem turnL_miss {p : List Int} {k b i : Nat} (hb : b / 2 ^ i % 2 ≠ 1) : turnL p k b (i + 1) = turnL p k b i := by
  rw [turnL, if_neg (fun h => hb h.2)]
theorem set_behind (hd l : List Int) (j : Nat) (v : Int) : (hd ++ l).set (hd.length + j) v = hd ++ l.set j v := by
  rw [List.set_append]
  rw [if_neg (by omega), Nat.add_sub_cancel_left]
theorem get_behind (hd l : List Int) (j : Nat) : (hd ++ l).getD (hd.length + j) 0 = l.getD j 0 := by
  rw [List.getD_eq_getElem?_getD, List.getElem?_append_right (by omega), Nat.add_sub_cancel_left, ← List.getD_eq_getElem?_getD]
/-- bits that are turned in the body are found -/
theorem open_turned {b hd bp : List Int} {k by_ : Nat} (hb : Bytes b) (hl : b.length ≤ 200) (h0 : 0 < b.length) (hbp : bp = (bestP b).2) (hx : putM b true = hd ++ bp) (hh : hd.length = 11) (hk : k < 8 * bp.length) (ht : tB k (8 * bp.length) by_ 32 = true) :
    openM (hd ++ turnL bp k by_ 32) 10 false 1000 = (12, [], 0, false) := by
  obtain ⟨kd, hkd, hk3, e⟩ := scan_put (m := []) (log := 10) (room := 1000) (first := false) (last := true) hb (by omega) (by decide) (by decide) (size_b (b := b) (first := false) (by omega) (fun h => by omega))
  rw [if_neg (by omega), List.append_nil, hx] at e
  have e2 := scan_take e 11 (by rw [List.length_append]; omega)
  rw [if_neg (by omega), List.take_append_of_le_length (by omega), List.take_of_length_le (by omega)] at e2
  have e3 := scan_more (f := hd) (m := turnL bp k by_ 32) (log := 10) (room := 1000) (first := false) (by rw [e2]; exact fun h => by cases h)
  rw [e2] at e3
  have hbb := best_bytes hb
  rw [← hbp] at hbb e3
  have hdr : (hd ++ turnL bp k by_ 32).drop 11 = turnL bp k by_ 32 := drop_app hh.symm
  unfold openM
  rw [e3]
  dsimp only
  rw [if_neg (fun h => h rfl), if_neg (by rw [List.length_append, turnL_len]; omega), hdr, List.take_of_length_le (by rw [turnL_len]; exact Nat.le_refl _), if_pos (crc_turned hbb hk (of_decide_eq_true ht))]
theorem xor_bit {y j : Nat} (hy : y < 256) (hj : j < 8) : bits .xor .u8 (y : Int) (2 ^ j % 256) = ((y ^^^ 2 ^ j : Nat) : Int) := by
  have h8 : 2 ^ j < 2 ^ 8 := Nat.pow_lt_pow_right (by omega) hj
  have e : ((2 : Int) ^ j % 256) = ((2 ^ j : Nat) : Int) := by
    rw [show ((2 : Int) ^ j) = ((2 ^ j : Nat) : Int) by simp]
    generalize 2 ^ j = P at h8 ⊢
    omega
  rw [e]
  exact u8_xor_nat y (2 ^ j) hy (by omega)
def TurnAt (w2 : World) (g c n : Nat) (L : List Int) (w : World) : Prop := (Kd.int .u8).R 5 w w2.heap.size (fun _ => True) (.slice (some ⟨g, 0, none⟩) n c) L ∧ Below w2.heap.size w2 w
set_option maxRecDepth 100000 in
set_option maxHeartbeats 2000000 in
theorem blockTurned_in (A : Option Addr) (ca n v : Nat) (b : List Int) (w : World) (hr : (Kd.int .u8).C w A b.length b) (hby : Bytes b) (hl : b.length ≤ 200) (h0 : 0 < b.length) (hn : n < 65536) (hv : v < 4294967296) :
    Calls Tryz.prog 19 #[.slice A b.length ca, .int .u16 n, .int .u32 v] w (Ret (.bool true) w) := by
  have d1 : decide (200 < (b.length : Int)) = false := decide_eq_false (by omega)
  have d2 : ((b.length : Int) == 0) = false := by simp; intro e; subst e; simp at h0
  have HR := Lib.hid hr
  have HX := Lib.hid hby
  have HL := Lib.hid (And.intro hl h0)
  have hxl := putM_len b true
  have hbl := best_len b
  have hPB := putM_bytes hby (by omega : b.length ≤ 131072) true
  have HPut := Lib.hid (fun (W : World) (hB : Below w.heap.size w W) => blockPut_any A ca b true W (Kd.C_below hr hB) hby (by omega) (.inl rfl))
  have hpos : 0 < (bestP b).2.length := by
    have ho := (best_ok (b := b) (by omega)).is
    have := pickE_pos hby (by omega : b.length ≤ 40000) h0 (k := (bestP b).1) (by rw [ho])
    rw [ho] at this; exact this
  obtain ⟨hd, hhd⟩ : ∃ l, l = (putM b true).take 11 := ⟨_, rfl⟩
  obtain ⟨bp, hbp⟩ : ∃ x, x = (bestP b).2 := ⟨_, rfl⟩
  have hhl : hd.length = 11 := by rw [hhd, List.length_take]; omega
  have hsp : putM b true = hd ++ bp := by
    obtain ⟨_, _, _, _, _, _, _, hdr⟩ := put_parts (b := b) (by omega) true []
    rw [List.append_nil, List.append_nil] at hdr
    rw [hhd, hbp, ← hdr, List.take_append_drop]
  have HTu := Lib.hid (fun (k : Nat) hk ht => open_turned (k := k) (by_ := v) hby hl h0 hbp hsp hhl hk ht)
  have HOp := Lib.hid (show openM (putM b true) 10 false 1000 = (0, b, 11 + (bestP b).2.length, true) from by
    have := open_put (m := []) (log := 10) (room := 1000) (first := false) (last := true) hby (by omega) (by decide) (by omega) (size_b (b := b) (first := false) (by omega) (fun h => by omega))
    rw [List.append_nil] at this; exact this)
  have HBpb := Lib.hid (show Bytes bp from by rw [hbp]; exact best_bytes hby)
  rw [← hbp] at hxl hbl hpos HOp
  obtain ⟨x, hx⟩ : ∃ x, x = putM b true := ⟨_, rfl⟩
  rw [← hx] at hxl hPB HPut hsp HOp
  have HSp := Lib.hid (And.intro hsp hhl)
  obtain ⟨n8, hn8⟩ : ∃ m, m = 8 * bp.length := ⟨_, rfl⟩
  rw [← hn8] at HTu
  have hn8p : 0 < n8 := by omega
  obtain ⟨k, hk⟩ : ∃ k, k = n % n8 := ⟨_, rfl⟩
  have hkl : k < n8 := by rw [hk]; exact Nat.mod_lt _ hn8p
  have hn8I : 8 * ((x.length : Int) - 11) = (n8 : Int) := by omega
  have hx12 : ¬ (x.length : Int) < 12 := by omega
  have hx6 : x.length ≤ 300 := by omega
  have hn86 : n8 ≤ 2400 := by omega
  have hn80 : ¬ (n8 : Int) = 0 := by omega
  have hn8b : ((n8 : Int) == 0) = false := by simp; omega
  have hwn : IntKind.i64.wrap (n : Int) = (n : Int) := i64_in _ (by omega)
  have hkT : (n : Int).tmod (n8 : Int) = (k : Int) := by rw [Int.tmod_eq_emod_of_nonneg (by omega), hk]; simp
  have hkI : (n : Int) % (n8 : Int) = (k : Int) := by rw [hk]; simp
  have HK := Lib.hid (And.intro hkl (And.intro hn8 hxl))
  have HPBx := Lib.hid hPB
  clear hr hby hl h0 hbl hPB hhd hbp hhl hsp hx hxl hpos hk hn8
  go_enter Tryz.func19, Tryz.ntmps19
  go_wp2_with fail
  refine (awake23_any w).mono ?_
  rintro e w1 ⟨rfl, hb1⟩
  have HB1 := Lib.hid hb1
  clear hb1
  go_wp2_with fail
  refine (HPut.out w1 HB1.out).mono ?_
  intro e w2 h2
  obtain ⟨A2, c2, rfl, hs2, hb2⟩ := h2.out HPBx.out
  have HB2 := Lib.hid (below_tr HB1.out hb2)
  have HS2 := Lib.hid hs2
  have HE0 : Hid ((Kd.int .u8).R 5 (w2.alloc (.cells #[] 5)) w2.heap.size (fun _ => True) (.slice (some ⟨w2.heap.size, 0, none⟩) 0 0) []) := row_lit .u8 5 w2 w2.heap.size (fun _ => True) trivial (Nat.le_refl _) [] (by decide)
  have HB0 : Hid (Below w2.heap.size w2 (w2.alloc (.cells #[] 5))) := (Below.refl _ _).alloc (Nat.le_refl _) _
  have HRow0 : Hid ((Kd.int .u8).C (w2.alloc (.cells #[] 5)) A2 x.length x) := Kd.C_alloc hs2.row _
  have HL1 : Hid ((0 + x.length) * 1 ≤ 140737488355328) := by show _ ≤ _; omega
  clear h2 hs2 hb2
  go_wp2_with (at_builtin; refine Kd.R_append_rows (Kd.int .u8) (Rr := (Kd.int .u8).K (w2.alloc (.cells #[] 5))) (w0 := w2) (W := w2.alloc (.cells #[] 5)) w2.heap.size rfl (.tmp 49) (.tmp 50) 22 5 (.int .u8 0) 1 rfl Tryz.underlying22 infoU8 rfl (by decide) (by decide) (.slice (some ⟨w2.heap.size, 0, none⟩) 0 0) [] x A2 x.length c2 (fun _ => True) (fun _ => False) rfl rfl HE0.out HRow0.out (fun _ _ h => h) (fun _ h => h.elim) (fun _ _ => trivial) HB0.out HB0.out.size HL1.out ?_; intro vi w5 hr5 hb5 hg5 hat5; rw [List.nil_append] at hr5; have HR5 := Lib.hid hr5; have HB5 := Lib.hid hb5; clear hg5 hat5 hb5; obtain ⟨g5, c5, rfl, hg5, hg5l, -⟩ := Kd.R_form hr5 (by have := HK.out; omega); clear hr5)
  go_loopw [12, 14] (fun tv iv wr => ∃ i : Nat, i ≤ 32 ∧ tv = .bool (tB k n8 v i) ∧ iv = .int .i64 i ∧ Hid (TurnAt w2 g5 c5 x.length (hd ++ turnL bp k v i) wr)) (fun _ iv _ => 32 - (intOf iv).toNat)
  case atStart => exact ⟨0, by omega, rfl, rfl, Lib.hid ⟨by have := HR5.out; rw [HSp.out.1] at this ⊢; exact this, HB5.out⟩⟩
  case round =>
    obtain ⟨i, hi, rfl, rfl, H⟩ := hrel
    obtain ⟨t, ht⟩ : ∃ t, t = tB k n8 v i := ⟨_, rfl⟩
    have HT := Lib.hid ht
    rw [← ht]
    obtain ⟨L, hL⟩ : ∃ L, L = turnL bp k v i := ⟨_, rfl⟩
    have HLL := Lib.hid hL
    rw [← hL] at H
    have hLl : L.length = bp.length := by rw [hL]; exact turnL_len bp k v i
    have HLb := Lib.hid (show Bytes L from by rw [hL]; exact turnL_bytes HBpb.out k v i)
    clear ht hL
    by_cases hgo : i < 32 ∧ k + i < n8
    · obtain ⟨h32, hki⟩ := hgo
      have h32I : (i : Int) < 32 := by omega
      have hkiI : (k : Int) + (i : Int) < (n8 : Int) := by omega
      obtain ⟨z, hz⟩ : ∃ z, z = v / 2 ^ i := ⟨_, rfl⟩
      have hzI : (v : Int) / 2 ^ i = (z : Int) := by rw [hz]; simp
      have hzl : z < 4294967296 := by rw [hz]; exact Nat.lt_of_le_of_lt (Nat.div_le_self _ _) hv
      have hzm : bits .and .u32 (z : Int) 1 = ((z % 2 : Nat) : Int) := by
        have := u32_and_nat z 1 hzl (by decide)
        rw [nat_mask1] at this; exact this
      obtain ⟨m, hm⟩ : ∃ m, m = z % 2 := ⟨_, rfl⟩
      rw [← hm] at hzm
      have HM := Lib.hid (show m = v / 2 ^ i % 2 from by rw [hm, hz])
      have hm2 : m < 2 := by rw [hm]; exact Nat.mod_lt _ (by decide)
      clear hz hm
      by_cases hm1 : m = 1
      · subst hm1
        obtain ⟨s, hs⟩ : ∃ s, s = k + i := ⟨_, rfl⟩
        obtain ⟨q, hq⟩ : ∃ q, q = s / 8 := ⟨_, rfl⟩
        obtain ⟨j, hj⟩ : ∃ j, j = s % 8 := ⟨_, rfl⟩
        obtain ⟨r, hr⟩ : ∃ r, r = 11 + q := ⟨_, rfl⟩
        have hsI : (k : Int) + (i : Int) = (s : Int) := by omega
        have hqI : (s : Int) / 8 = (q : Int) := by omega
        have hjI : (s : Int) % 8 = (j : Int) := by omega
        have htj : (s : Int).tmod 8 = (j : Int) := by rw [Int.tmod_eq_emod_of_nonneg (by omega)]; exact hjI
        have htq : (s : Int).tdiv 8 = (q : Int) := by rw [Int.tdiv_eq_ediv_of_nonneg (by omega)]; exact hqI
        have hrI : (11 : Int) + (q : Int) = (r : Int) := by omega
        have hrl : (r : Int) < (x.length : Int) := by have := HK.out; omega
        have hj8 : j < 8 := by omega
        have hj0 : ¬ (j : Int) < 0 := by omega
        have hs6 : s < 2400 := by omega
        have hsw : IntKind.i64.wrap (s : Int) = (s : Int) := i64_in _ (by omega)
        have hqw : IntKind.i64.wrap (q : Int) = (q : Int) := i64_in _ (by omega)
        have hjw : IntKind.i64.wrap (j : Int) = (j : Int) := i64_in _ (by omega)
        have hrw : IntKind.i64.wrap (r : Int) = (r : Int) := i64_in _ (by omega)
        obtain ⟨cx, fx⟩ := ints_cells H.out.1 r (by omega)
        have hgy : (hd ++ L).getD r 0 = L.getD q 0 := by rw [hr, ← HSp.out.2]; exact get_behind hd L q
        rw [hgy] at cx
        have hyb := HLb.out.get q
        obtain ⟨y, hy⟩ : ∃ y : Nat, L.getD q 0 = y := ⟨(L.getD q 0).toNat, by omega⟩
        rw [hy] at cx hyb
        have HXo := Lib.hid (xor_bit (y := y) (j := j) (by omega) hj8)
        have HNx : Hid (hd ++ turnL bp k v (i + 1) = (hd ++ L).set r ((y ^^^ 2 ^ j : Nat) : Int)) := Lib.hid (by
          rw [turnL_hit (by have := HK.out; omega) HM.out.symm, ← HLL.out, hr, ← HSp.out.2, set_behind]
          unfold flipL
          rw [← hs, ← hq, ← hj, hy, Int.toNat_natCast])
        have HTn := Lib.hid (tB_hit (k := k) (n := n8) (b := v) (i := i) hki HM.out.symm)
        have HRH := Lib.hid (And.intro H.out (show w2.heap.size ≤ g5 from hg5))
        clear hs hq hj hr hgy hy hyb
        go_wp2_with fail
        go_region
        go_wp2_with fail
        go_roundw
        case rel => exact ⟨i + 1, by omega, by rw [HTn.out], by go_num, Lib.hid (by
          rw [HNx.out, ← HXo.out]
          have h9 := Kd.R_putn HRH.out.1.1 (r : Int) (bits BinOp.xor IntKind.u8 (y : Int) (2 ^ j % 256))
          simp only [Int.toNat_natCast] at h9
          exact ⟨Kd.R_drew h9, below_drew (HRH.out.1.2.setCell (p := ⟨g5, r, none⟩) HRH.out.2 _)⟩)⟩
        case measure => simp [intOf]; omega
      · obtain rfl : m = 0 := by omega
        have HNx : Hid (turnL bp k v (i + 1) = L) := Lib.hid (by rw [turnL_miss (by rw [← HM.out]; decide), HLL.out])
        have HTn := Lib.hid (tB_miss (k := k) (n := n8) (b := v) (i := i) (by rw [← HM.out]; decide))
        clear hm1
        go_wp2_with fail
        go_roundw
        case rel => exact ⟨i + 1, by omega, by rw [HTn.out, HT.out], by go_num, Lib.hid (by rw [HNx.out]; exact H.out)⟩
        case measure => simp [intOf]; omega
    · have hrest : turnL bp k v 32 = L ∧ tB k n8 v 32 = t := by
        by_cases h32 : i < 32
        · have h := turn_rest (p := bp) (k := k) (b := v) (i := i) (by have := HK.out; omega) (32 - i)
          rw [show i + (32 - i) = 32 by omega] at h
          refine ⟨by rw [h.1, HLL.out], ?_⟩
          rw [HT.out]; unfold tB
          rw [HK.out.2.1, h.2]
        · obtain rfl : i = 32 := by omega
          exact ⟨HLL.out.symm, HT.out.symm⟩
      have hyl : (hd ++ L).length = x.length := by rw [List.length_append, hLl, HSp.out.1, List.length_append]
      have hyb : Bytes (hd ++ L) := fun z hz => by
        rcases List.mem_append.1 hz with h | h
        · exact HPBx.out z (by rw [HSp.out.1]; exact List.mem_append_left _ h)
        · exact HLb.out z h
      have hBS : BSl wr (some ⟨g5, 0, none⟩) c5 (hd ++ L) := BSl.of (n := (hd ++ L).length) (base := w2.heap.size) (ok := fun _ => True) (by rw [hyl]; exact H.out.1) hyb
      have HB3 := Lib.hid (below_tr HB2.out H.out.2)
      have hgo2 : (decide ((i : Int) < 32) = false) ∨ (decide ((i : Int) < 32) = true ∧ decide ((k : Int) + (i : Int) < (n8 : Int)) = false) := by
        by_cases h32 : i < 32
        · exact .inr ⟨decide_eq_true (by omega), decide_eq_false (by omega)⟩
        · exact .inl (decide_eq_false (by omega))
      have hi32 : i ≤ 32 := hi
      cases t with
      | false =>
        have hz0 : turnE k (8 * bp.length) v 32 = 0 := by
          have h := hrest.2
          rw [HK.out.2.1] at h
          exact Classical.not_not.1 (of_decide_eq_false h)
        have hLbp : L = bp := by rw [← hrest.1]; exact turnL_same 32 (fun j hj => turnE_zero 32 hz0 j hj)
        have hyx : hd ++ L = x := by rw [hLbp, HSp.out.1]
        have HOpn := Lib.hid (blockOpen_told (some ⟨g5, 0, none⟩) c5 (hd ++ L) 10 false 1000 wr hBS.row hyb (by omega) hBS.cap (by rw [hyx]; exact HOp.out) HX.out)
        rw [hyl] at HOpn
        clear hz0 hLbp hyx hrest hyl hyb hBS hi hgo
        rcases hgo2 with g1 | ⟨g1, g2⟩
        all_goals
          go_wp2_with fail
          refine HOpn.out.mono ?_
          rintro e w6 ⟨A6, c6, rfl, hs6, hb6⟩
          have HS6 := Lib.hid hs6
          have HB6 := Lib.hid (below_tr HB3.out hb6)
          clear hs6 hb6
          go_wp2_with fail
          refine (same_same A6 A c6 ca b w6 HS6.out.row (Kd.C_below HR.out HB6.out) HX.out).mono ?_
          rintro e w7 ⟨rfl, rfl⟩
          go_wp2_with fail
          go_ret
          exact ⟨rfl, HB6.out⟩
      | true =>
        have hop2 : openM (hd ++ L) 10 false 1000 = (12, [], 0, false) := by rw [← hrest.1]; exact HTu.out k hkl hrest.2
        have HOpn := Lib.hid (blockOpen_told (some ⟨g5, 0, none⟩) c5 (hd ++ L) 10 false 1000 wr hBS.row hyb (by omega) hBS.cap hop2 (fun z hz => by cases hz))
        rw [hyl] at HOpn
        clear hop2 hrest hyl hyb hBS hi hgo
        rcases hgo2 with g1 | ⟨g1, g2⟩
        all_goals
          go_wp2_with fail
          refine HOpn.out.mono ?_
          rintro e w6 ⟨A6, c6, rfl, hs6, hb6⟩
          have HB6 := Lib.hid (below_tr HB3.out hb6)
          clear hs6 hb6
          go_wp2_with fail
          go_ret
          exact ⟨rfl, HB6.out⟩
theorem u32_of {n : Int} (h : (Lit.int .u32 n).wf = true) : ∃ k : Nat, n = k ∧ k < 4294967296 := by
  have a : IntKind.u32.min = 0 := rfl
  have b : IntKind.u32.max = 4294967295 := rfl
  simp only [Lit.wf, a, b, Bool.and_eq_true, decide_eq_true_eq] at h
  exact ⟨n.toNat, by omega, by omega⟩
set_option maxRecDepth 100000 in
set_option maxHeartbeats 1000000 in
theorem blockTurned_law (A : Option Addr) (ca : Nat) (b : List Int) (n v : Int) (w : World) (hr : (Kd.int .u8).C w A b.length b) (_ : b.length ≤ ca) (hby : Bytes b) (_ : b.length * 1 ≤ 140737488351232) (hn : (Lit.int .u16 n).wf = true) (hv : (Lit.int .u32 v).wf = true) :
    Calls Tryz.prog 19 #[.slice A b.length ca, .int .u16 n, .int .u32 v] w (Ret (.bool true) w) := by
  obtain ⟨n, rfl, hn2⟩ := u16_of hn
  obtain ⟨v, rfl, hv2⟩ := u32_of hv
  by_cases h1 : b.length ≤ 200 ∧ 0 < b.length
  · exact blockTurned_in A ca n v b w hr hby h1.1 h1.2 hn2 hv2
  · have tail : ∀ d1 d2 : Bool, decide (200 < (b.length : Int)) = d1 → ((b.length : Int) == 0) = d2 → (d1 || d2) = true →
        Calls Tryz.prog 19 #[.slice A b.length ca, .int .u16 n, .int .u32 v] w (Ret (.bool true) w) := by
      intro d1 d2 e1 e2 h
      clear h1 hr hby hn hv hn2 hv2
      cases d1 <;> cases d2 <;> first
        | (exfalso; revert h; decide)
        | (clear h
           go_enter Tryz.func19, Tryz.ntmps19
           go_wp2_with fail
           refine (awake23_any w).mono ?_
           rintro e w1 ⟨rfl, hb1⟩
           have HB1 := Lib.hid hb1
           clear hb1
           go_wp2_with fail
           go_ret
           exact ⟨rfl, HB1.out⟩)
    refine tail _ _ rfl rfl ?_
    by_cases a1 : 200 < b.length
    · rw [decide_eq_true (by omega)]; rfl
    · rw [show ((b.length : Int) == 0) = true by rw [show b.length = 0 by omega]; rfl]; simp
end Go.Proofs.YtdkemdcflbadhaaGreat
