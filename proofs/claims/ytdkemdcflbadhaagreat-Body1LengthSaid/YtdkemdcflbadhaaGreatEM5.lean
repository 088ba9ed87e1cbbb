/- The walks of model.made for each context, and model.First. -/
import Derived.Deep.RegionHeld3
import Derived.Test.YtdkemdcflbadhaaGreatES1
import Derived.Test.YtdkemdcflbadhaaGreatEM4
import Derived.Test.YtdkemdcflbadhaaGreatEM2
import Derived.Test.YtdkemdcflbadhaaGreatEM0
import Derived.Test.YtdkemdcflbadhaaGreatEM1
import Derived.Test.YtdkemdcflbadhaaGreatER1
import Derived.Deep.RegionLaw
namespace Go.Proofs.YtdkemdcflbadhaaGreat
open Go.RowKit Go.IntWalk Go.Proofs.YtdkemdcflbadhaaGreatW.PrintWords
set_option maxRecDepth 100000 in
theorem first1_any (A : Option Addr) (cp p : Nat) (b : List Int) (k : Int) (w : World) (h : w.cell? ⟨p, 0, none⟩ = some (.slice A b.length cp)) (hr : (Kd.int .u8).C w A b.length b) (hl : b.length ≤ 1000000) (hb : Bytes b) :
    Calls Tryz.prog 78 #[.int .i64 k, .pointer (some ⟨p, 0, none⟩)] w (ForPost b k w) := by
  have HF := Lib.hid (ctxFor_any A cp b k w hr hl hb)
  clear hr hl hb
  go_enter Tryz.func78, Tryz.ntmps78
  go_wp2_with fail
  refine HF.out.mono ?_
  rintro e w1 ⟨v, rfl, hv, hb⟩
  have H1 := Lib.hid (And.intro hv hb)
  clear hv hb
  go_wp2_with fail
  go_ret
  exact ⟨v, rfl, H1.out.1, H1.out.2⟩
/-- the lists of the first contexts -/
def firstN (b : List Int) (c : Nat) : List (List Int) := (List.range c).map (firstQ b)
theorem firstN_succ (b : List Int) (c : Nat) : firstN b (c + 1) = firstN b c ++ [firstQ b c] := by simp [firstN, List.range_succ]
theorem firstN_len (b : List Int) (c : Nat) : (firstN b c).length = c := by simp [firstN]
/-- a model on its way -/
def FMade (b : List Int) (r : Nat) (m0 m1 base c : Nat) (w wr : World) : Prop := ∃ A1 c1, wr.heap[m1]? = some (.cells #[.int .i64 r, .bool false, .slice A1 c c1] 31 (0, 0)) ∧ wr.heap[m0]? = some (.cells #[.int .i64 0, .bool false, .slice none 0 0] 31 (0, 0)) ∧ kq.R 39 wr base (fun _ => True) (.slice A1 c c1) (firstN b c) ∧ Below m0 w wr ∧ base ≤ wr.heap.size
theorem FMade.next {b : List Int} {r m0 m1 base c : Nat} {w w6 : World} {A1 : Option Addr} {c1 : Nat} (hm : m0 < base ∧ m1 < base ∧ m0 ≠ m1 ∧ m0 ≤ m1) (h0 : w6.heap[m0]? = some (.cells #[.int .i64 0, .bool false, .slice none 0 0] 31 (0, 0)))
    (h1 : w6.heap[m1]? = some (.cells #[.int .i64 r, .bool false, .slice A1 c c1] 31 (0, 0))) {A2 : Option Addr} {c2 : Nat} (hq : kq.R 39 w6 base (fun _ => True) (.slice A2 (c + 1) c2) (firstN b (c + 1))) (hb : Below m0 w w6) (hsz : base ≤ w6.heap.size) :
    FMade b r m0 m1 base (c + 1) w (w6.setCell ⟨m1, 2, none⟩ (.slice A2 (c + 1) c2)) := by
  refine ⟨A2, c2, blk_set h1 2 _, blk_far h0 (p := ⟨m1, 2, none⟩) hm.2.2.1 _, ?_, hb.setCell hm.2.2.2 _, by simpa using hsz⟩
  refine Kd.R_mono (Kd.R_far (p := ⟨m1, 2, none⟩) (Kd.R_bound hq) (fun k hk => ?_) _) (fun _ _ => trivial)
  show k ≠ m1
  have := hk.2.1
  omega
set_option maxRecDepth 100000 in
set_option maxHeartbeats 4000000 in
theorem made256_any (p cp : Nat) (A : Option Addr) (b : List Int) (w : World) (hp : w.heap[p]? = some (.cells #[.slice A b.length cp] 22 (0, 0))) (hr : (Kd.int .u8).C w A b.length b) (hl : b.length ≤ 1000000) (hb : Bytes b) :
    Calls Tryz.prog 75 #[.int .i64 (firstR b : Nat), .int .i64 256, .func (Fn.func 78) #[] #[.pointer (some ⟨p, 0, none⟩)]] w (MadeM (firstR b : Nat) false (firstL b) w) := by
  obtain ⟨r, hrr⟩ : ∃ r, r = firstR b := ⟨_, rfl⟩
  have HRR := Lib.hid hrr
  rw [← hrr]
  clear hrr
  obtain ⟨W2, hW2⟩ : ∃ W2, W2 = (w.alloc (.cells #[.int .i64 0, .bool false, .slice none 0 0] 31)).alloc (.cells #[.int .i64 r, .bool false, .slice none 0 0] 31) := ⟨_, rfl⟩
  have hb2 : Below w.heap.size w W2 := by rw [hW2]; exact ((Below.refl w.heap.size w).alloc (Nat.le_refl _) _).alloc (by simp) _
  have hs2 : W2.heap.size = w.heap.size + 2 := by rw [hW2]; simp
  have hm1 : W2.heap[w.heap.size + 1]? = some (.cells #[.int .i64 r, .bool false, .slice none 0 0] 31 (0, 0)) := by rw [hW2]; exact blk_new1 _ _ _
  have hm0 : W2.heap[w.heap.size]? = some (.cells #[.int .i64 0, .bool false, .slice none 0 0] 31 (0, 0)) := by rw [hW2]; exact blk_alloc (blk_new _ _) _
  have HPl : Hid (w.heap.size ≤ w.heap.size + 1) := Nat.le_succ _
  have H2 := Lib.hid (And.intro hb2 (And.intro hs2 (And.intro hm1 hm0)))
  have HP := Lib.hid hp
  have HR := Lib.hid (And.intro hr (And.intro hl hb))
  clear hp hr hl hb hb2 hs2 hm1 hm0
  go_enter Tryz.func75, Tryz.ntmps75
  go_wp2_with fail
  rw [← hW2]
  clear hW2
  obtain ⟨m0, hm0⟩ : ∃ m0, m0 = w.heap.size := ⟨_, rfl⟩
  have HM0 := Lib.hid hm0
  rw [← hm0] at H2 ⊢
  clear hm0
  obtain ⟨m1, hm1⟩ : ∃ m1, m1 = m0 + 1 := ⟨_, rfl⟩
  have HM1 := Lib.hid hm1
  rw [← hm1] at H2 ⊢
  clear hm1
  go_loopw [16] (fun kv wr => ∃ c : Nat, c ≤ 256 ∧ kv = .int .i64 c ∧ Hid (FMade b r m0 m1 W2.heap.size c w wr)) (fun kv _ => 256 - (intOf kv).toNat)
  case atStart => exact ⟨0, by omega, rfl, Lib.hid ⟨none, 0, H2.out.2.2.1, H2.out.2.2.2, Kd.R_nil _ _ _ _ _, H2.out.1, Nat.le_refl _⟩⟩
  case round =>
    obtain ⟨c, hc, rfl, H⟩ := hrel
    by_cases hlt : c < 256
    · obtain ⟨A1, c1, h1, h2, h3, h4, h5⟩ := H.out
      have hbw : Below w.heap.size w wr := by have := h4; rw [HM0.out] at this; exact this
      have hpc : wr.cell? ⟨p, 0, none⟩ = some (.slice A b.length cp) := (blk_cell (blk_below HP.out hbw) 0).trans rfl
      have HF := Lib.hid (first1_any A cp p b c wr hpc (Kd.C_below HR.out.1 hbw) HR.out.2.1 HR.out.2.2)
      have HH := Lib.hid (And.intro h1 (And.intro h2 (And.intro h3 (And.intro h4 h5))))
      have hmm : Hid (m0 < W2.heap.size ∧ m1 < W2.heap.size ∧ m0 ≠ m1 ∧ m0 ≤ m1) := by
        have := blk_lt H2.out.2.2.1; have := blk_lt H2.out.2.2.2; have := HM1.out
        exact Lib.hid (by omega)
      have HPk := Lib.hid (pkL_len b (c : Int) b.length)
      have HOwn : Hid (∀ k, (Value.slice A1 c c1).ownBlock = some k → W2.heap.size ≤ k ∧ k < wr.heap.size) := Lib.hid fun k hk => ⟨Kd.R_base h3 k hk, Kd.R_lt h3 k hk⟩
      clear h1 h2 h3 h4 h5 hbw hpc H
      go_wp2_with fail
      refine HF.out.mono ?_
      rintro e w3 ⟨vl, rfl, hvl, hb3⟩
      obtain ⟨Al, cl, rfl⟩ := Kd.R_slice hvl
      have hhl : (histL (pickedL b (c : Int))).length = 256 := mapR_len _
      have hrd := (Kd.R_reads' hvl).2.2
      have hmany := many_any Al cl (histL (pickedL b (c : Int))) w3 hrd (hist_right _ (picked_bytes HR.out.2.2 c) (by have := HPk.out; have := HR.out.2.1; unfold pickedL; omega))
      rw [hhl] at hrd hmany ⊢
      have HV := Lib.hid hrd
      have HMa := Lib.hid hmany
      have HB3 := Lib.hid hb3
      clear hvl hb3 hrd hmany hhl
      go_wp2_with fail
      refine HMa.out.mono ?_
      by_cases hp0 : 0 < (pickedL b (c : Int)).length
      · have hmp : 0 < manyC (histL (pickedL b (c : Int))) := many_pos (picked_bytes HR.out.2.2 c) (by have := HPk.out; have := HR.out.2.1; unfold pickedL; omega) hp0
        have HCan := Lib.hid (first_can HR.out.2.2 HR.out.2.1 hlt hp0)
        have HQ : Hid (firstQ b c = normL (histL (pickedL b (c : Int))) r) := by show _ = _; unfold firstQ; rw [if_pos hp0, ← HRR.out]
        rw [← HRR.out] at HCan
        obtain ⟨mn, hmn⟩ : ∃ mn, mn = manyC (histL (pickedL b (c : Int))) := ⟨_, rfl⟩
        rw [← hmn] at hmp ⊢
        clear hmn hp0
        rintro e w' ⟨rfl, rfl⟩
        go_wp2_with fail
        refine (counts_any Al cl _ r w3 HV.out HCan.out).mono ?_
        rintro e w5 ⟨vq, rfl, hq, hb5⟩
        rw [← HQ.out] at hq
        obtain ⟨Aq, cq, rfl⟩ := Kd.R_slice hq
        obtain ⟨Q, hQ⟩ : ∃ Q, Q = firstQ b c := ⟨_, rfl⟩
        rw [← hQ] at hq ⊢
        have HQQ := Lib.hid hQ
        obtain ⟨ql, hql⟩ : ∃ ql, ql = Q.length := ⟨_, rfl⟩
        rw [← hql] at hq ⊢
        have HQr : Hid ((Kd.int .i64).R 3 w5 W2.heap.size (fun k => wr.heap.size ≤ k) (.slice Aq ql cq) Q) := Lib.hid (Kd.R_mono (Kd.R_lower (Kd.R_bound hq) (Nat.le_trans HH.out.2.2.2.2 HB3.out.size)) (fun k hk => by have := hk.2.1; have := HB3.out.size; omega))
        have hb35 := below_tr HB3.out hb5
        have h15 := blk_below HH.out.1 hb35
        have H05 := Lib.hid (blk_below HH.out.2.1 hb35)
        obtain ⟨⟨ca, cb, cc⟩, fa, fb, fc⟩ := cell3 h15
        have H15 := Lib.hid h15
        have HB5 := Lib.hid hb35
        have hm1l := blk_lt h15
        have hm1n : ¬ m1 = w5.heap.size := by omega
        have hm1n' : ¬ w5.heap.size = m1 := by omega
        have HS5 : Hid (W2.heap.size ≤ w5.heap.size) := Lib.hid (Nat.le_trans HH.out.2.2.2.2 hb35.size)
        have HB5' : Hid (Below W2.heap.size w5 w5) := Below.refl _ _
        have HL : Hid (((firstN b c).length + 1) * 24 ≤ 140737488355328) := by show _ ≤ _; rw [firstN_len]; omega
        have HO5 := Lib.hid (Kd.R_below HH.out.2.2.1 hb35)
        clear hq hb5 h15 hql hQ hb35
        go_wp2_with (at_builtin; refine Kd.R_append kq (w0 := w5) (W := w5) W2.heap.size rfl (.tmp 32) (.tmp 34) 29 39 (.slice none 0 0) 24 rfl Tryz.underlying29 infoInts rfl (by decide) (by decide) (.slice A1 c c1) (firstN b c) Q [.slice Aq ql cq] (fun _ => True) (fun k => wr.heap.size ≤ k) rfl (by simp [go_sem]) ⟨_, rfl, HQr.out⟩ (fun k hk => ⟨trivial, fun e => by have := (HOwn.out k e.symm).2; omega⟩) (fun _ _ => trivial) HO5.out HB5'.out HS5.out HL.out ?_; intro v1 w6 hr6 hb6 hg6 hat6; have h16 := blk_grown H15.out hg6 (fun e => by have := (HOwn.out _ e.symm).1; have := hmm.out; omega); have H16 := Lib.hid h16; have H06 := Lib.hid (blk_grown H05.out hg6 (fun e => by have := (HOwn.out _ e.symm).1; have := hmm.out; omega)); obtain ⟨⟨da, db, dc⟩, ga, gb, gc⟩ := cell3 h16; obtain ⟨A2, c2, rfl⟩ := Kd.R_slice hr6; have hlen : (firstN b c ++ [Q]).length = c + 1 := (by rw [List.length_append, firstN_len]; rfl); rw [hlen] at hr6; have HR6 := Lib.hid hr6; have HB6 := Lib.hid hb6; rw [hlen]; clear hr6 hb6 hg6 hat6 h16 hlen)
        go_roundw
        case rel =>
          refine ⟨c + 1, by omega, by go_num, Lib.hid (FMade.next hmm.out H06.out H16.out ?_ ?_ (Nat.le_trans HS5.out HB6.out.size))⟩
          · rw [firstN_succ, ← HQQ.out]; exact HR6.out
          · have hm := hmm.out
            have hs := HH.out.2.2.2.2
            exact (HH.out.2.2.2.1.trans (HB5.out.mono (by omega))).trans (HB6.out.mono (by omega))
        case measure => simp [intOf]; omega
      · have hpe : pickedL b (c : Int) = [] := List.eq_nil_of_length_eq_zero (by omega)
        rw [hpe, many_nil]
        have HQ : Hid (firstQ b c = []) := by show _ = _; unfold firstQ; rw [if_neg hp0]
        clear hp0 hpe
        rintro e w' ⟨rfl, rfl⟩
        have h15 := blk_below HH.out.1 HB3.out
        have H05 := Lib.hid (blk_below HH.out.2.1 HB3.out)
        obtain ⟨⟨ca, cb, cc⟩, fa, fb, fc⟩ := cell3 h15
        have H15 := Lib.hid h15
        have hm1l := blk_lt h15
        have hm1n : ¬ m1 = w3.heap.size := by omega
        have hm1n' : ¬ w3.heap.size = m1 := by omega
        have HS5 : Hid (W2.heap.size ≤ w3.heap.size) := Lib.hid (Nat.le_trans HH.out.2.2.2.2 HB3.out.size)
        have HB5' : Hid (Below W2.heap.size w3 w3) := Below.refl _ _
        have HL : Hid (((firstN b c).length + 1) * 24 ≤ 140737488355328) := by show _ ≤ _; rw [firstN_len]; omega
        have HO5 := Lib.hid (Kd.R_below HH.out.2.2.1 HB3.out)
        clear h15
        go_wp2_with (at_builtin; refine Kd.R_append kq (w0 := w3) (W := w3) W2.heap.size rfl (.tmp 32) (.tmp 34) 29 39 (.slice none 0 0) 24 rfl Tryz.underlying29 infoInts rfl (by decide) (by decide) (.slice A1 c c1) (firstN b c) [] [.slice none 0 0] (fun _ => True) (fun _ => False) rfl (by simp [go_sem]) ⟨_, rfl, Kd.R_nil _ _ _ _ _⟩ (fun _ h => h.elim) (fun _ _ => trivial) HO5.out HB5'.out HS5.out HL.out ?_; intro v1 w6 hr6 hb6 hg6 hat6; have h16 := blk_grown H15.out hg6 (fun e => by have := (HOwn.out _ e.symm).1; have := hmm.out; omega); have H16 := Lib.hid h16; have H06 := Lib.hid (blk_grown H05.out hg6 (fun e => by have := (HOwn.out _ e.symm).1; have := hmm.out; omega)); obtain ⟨⟨da, db, dc⟩, ga, gb, gc⟩ := cell3 h16; obtain ⟨A2, c2, rfl⟩ := Kd.R_slice hr6; have hlen : (firstN b c ++ [([] : List Int)]).length = c + 1 := (by rw [List.length_append, firstN_len]; rfl); rw [hlen] at hr6; have HR6 := Lib.hid hr6; have HB6 := Lib.hid hb6; rw [hlen]; clear hr6 hb6 hg6 hat6 h16 hlen)
        go_roundw
        case rel =>
          refine ⟨c + 1, by omega, by go_num, Lib.hid (FMade.next hmm.out H06.out H16.out ?_ ?_ (Nat.le_trans HS5.out HB6.out.size))⟩
          · rw [firstN_succ, HQ.out]; exact HR6.out
          · have hm := hmm.out
            have hs := HH.out.2.2.2.2
            exact (HH.out.2.2.2.1.trans (HB3.out.mono (by omega))).trans (HB6.out.mono (by omega))
        case measure => simp [intOf]; omega
    · obtain rfl : c = 256 := by omega
      obtain ⟨A1, c1, h1, h2, h3, h4, h5⟩ := H.out
      obtain ⟨⟨ca, cb, cc⟩, fa, fb, fc⟩ := cell3 h1
      obtain ⟨⟨da, db, dc⟩, ga, gb, gc⟩ := cell3 h2
      have HH := Lib.hid (And.intro h2 (And.intro h3 (And.intro h4 h5)))
      clear h1 h2 h3 h4 h5 H
      go_wp2_with fail
      have hmm : m0 < W2.heap.size := blk_lt H2.out.2.2.2
      refine bodyPost_ret (results_cell_row (fn := Tryz.f75) (p := 6) (ty := 31) rfl _ _ _ _ _ _ _ rfl (blk_set3 HH.out.1 _ _ _) Tryz.underlying31 rfl sizeModel) rfl ?_
      have hw0 := HM0.out
      subst hw0
      refine ⟨_, rfl, ?_, ((HH.out.2.2.1.setCell (Nat.le_refl _) _).setCell (Nat.le_refl _) _).setCell (Nat.le_refl _) _⟩
      have e : firstN b 256 = firstL b := rfl
      have h4 : kq.R 39 wr w.heap.size (fun k => k ≠ w.heap.size) (.slice A1 256 c1) (firstL b) := Kd.R_mono (Kd.R_lower (Kd.R_bound HH.out.2.1) (by omega)) (fun k hk => by have := hk.2.1; omega)
      exact Kd.R_mono (R_far3 h4 _ _ _) (fun _ _ => trivial)
def FirstPost (b : List Int) (w : World) (e : Ending) (w' : World) : Prop :=
  (b.length = 0 ∧ e = .returned (.tuple #[.agg #[.int .i64 0, .bool false, .slice none 0 0], .int .i64 1]) ∧ Below w.heap.size w w') ∨
  (0 < b.length ∧ ∃ Av cv, e = .returned (.tuple #[.agg #[.int .i64 (firstR b : Nat), .bool false, .slice Av 256 cv], .int .i64 0]) ∧ kq.R 39 w' w.heap.size (fun _ => True) (.slice Av 256 cv) (firstL b) ∧ Below w.heap.size w w')
end Go.Proofs.YtdkemdcflbadhaaGreat
namespace Go.Proofs.YtdkemdcflbadhaaGreat
open Go.RowKit Go.IntWalk Go.Proofs.YtdkemdcflbadhaaGreatW.PrintWords
theorem frz_below {w w' : World} {m j : Nat} {c : Value} (hb : Below w.heap.size w w') (hc : w.cell? ⟨m, j, none⟩ = some c) (hf : w.frozen? ⟨m, j, none⟩ = false) : w'.frozen? ⟨m, j, none⟩ = false := by
  rw [hb.frozen (p := ⟨m, j, none⟩) (World.block_lt_of_cell? w _ hc)]; exact hf
/-- what the statement reads and writes, kept -/
def SF (W1 : World) (p m n cp : Nat) (A : Option Addr) (W : World) : Prop := Below W1.heap.size W1 W ∧ W.cell? ⟨p, 0, none⟩ = some (.slice A n cp) ∧ W.cell? ⟨m, 0, none⟩ = some (.int .i64 0) ∧ W.cell? ⟨m, 1, none⟩ = some (.bool false) ∧ W.cell? ⟨m, 2, none⟩ = some (.slice none 0 0) ∧ W.frozen? ⟨m, 0, none⟩ = false ∧ W.frozen? ⟨m, 1, none⟩ = false ∧ W.frozen? ⟨m, 2, none⟩ = false
theorem SF.keep {W1 W w' : World} {p m n cp : Nat} {A : Option Addr} (h : SF W1 p m n cp A W) (hb : Below W.heap.size W w') : SF W1 p m n cp A w' :=
  ⟨below_tr h.1 hb, pw_cell_below hb h.2.1, pw_cell_below hb h.2.2.1, pw_cell_below hb h.2.2.2.1, pw_cell_below hb h.2.2.2.2.1, frz_below hb h.2.2.1 h.2.2.2.2.2.1, frz_below hb h.2.2.2.1 h.2.2.2.2.2.2.1, frz_below hb h.2.2.2.2.1 h.2.2.2.2.2.2.2⟩
theorem SF.drew {W1 W : World} {p m n cp : Nat} {A : Option Addr} (h : SF W1 p m n cp A W) : SF W1 p m n cp A W.drew :=
  ⟨h.1.drew, h.2.1, h.2.2.1, h.2.2.2.1, h.2.2.2.2.1, h.2.2.2.2.2.1, h.2.2.2.2.2.2.1, h.2.2.2.2.2.2.2⟩
set_option maxRecDepth 100000 in
set_option maxHeartbeats 4000000 in
theorem modelFirst_any (A : Option Addr) (cp : Nat) (b : List Int) (w : World) (hr : (Kd.int .u8).C w A b.length b) (hb : Bytes b) (hl : b.length ≤ 1000000) (h0 : 0 < b.length) :
    Calls Tryz.prog 29 #[.slice A b.length cp] w (FirstPost b w) := by
  have hne : ((b.length : Int) == 0) = false := by simp; intro e; subst e; simp at h0
  have hne2 : ¬ b = [] := by intro e; subst e; simp at h0
  obtain ⟨n, hn⟩ : ∃ n, n = b.length := ⟨_, rfl⟩
  rw [← hn] at hne
  obtain ⟨W1, hW1⟩ : ∃ W1, W1 = (w.alloc (.cells #[.slice A n cp] 22)).alloc (.cells #[.int .i64 0, .bool false, .slice none 0 0] 31) := ⟨_, rfl⟩
  have hb1 : Below w.heap.size w W1 := by rw [hW1]; exact ((Below.refl w.heap.size w).alloc (Nat.le_refl _) _).alloc (by simp) _
  have hk1 : W1.heap[w.heap.size + 1]? = some (.cells #[.int .i64 0, .bool false, .slice none 0 0] 31 (0, 0)) := by rw [hW1]; exact blk_new1 _ _ _
  have hk0 : W1.heap[w.heap.size]? = some (.cells #[.slice A n cp] 22 (0, 0)) := by rw [hW1]; exact blk_alloc (blk_new _ _) _
  have hc0 : W1.cell? ⟨w.heap.size, 0, none⟩ = some (.slice A n cp) := (blk_cell hk0 0).trans rfl
  obtain ⟨m, hm⟩ : ∃ m, m = w.heap.size + 1 := ⟨_, rfl⟩
  have HM := Lib.hid hm
  rw [← hm] at hk1
  obtain ⟨p, hp⟩ : ∃ p, p = w.heap.size := ⟨_, rfl⟩
  have HPp := Lib.hid hp
  rw [← hp] at hk0 hc0
  obtain ⟨⟨ca, cb, cc⟩, fa, fb, fc⟩ := cell3 hk1
  have s0 : SF W1 p m n cp A W1 := ⟨Below.refl _ _, hc0, ca, cb, cc, fa, fb, fc⟩
  have HK := Lib.hid (And.intro hk1 hk0)
  have hrz := firstR_ok b
  have HX := Lib.hid (And.intro hb (And.intro hl (And.intro h0 (And.intro hb1 hn))))
  have HR1 := Lib.hid (Kd.C_below hr hb1)
  have hW256 := widN_le b 256
  obtain ⟨wd, hwd⟩ : ∃ wd, wd = widN b 256 := ⟨_, rfl⟩
  have hw256 : wd ≤ 256 := by omega
  have HWd := Lib.hid hwd
  have hn6 : n ≤ 1000000 := by omega
  have HCW : Hid (∀ W : World, Below W1.heap.size W1 W → Calls Tryz.prog 77 #[.slice A n cp] W fun e w' => e = .returned (.int .i64 wd) ∧ Below W.heap.size W w') := Lib.hid fun W hW => by
    have := ctxWidest_any A cp b W (Kd.C_below HR1.out hW) hl hb
    rw [← hn, ← hwd] at this; exact this
  obtain ⟨rz, hrz1⟩ : ∃ rz, rz = firstR b := ⟨_, rfl⟩
  have HRZ := Lib.hid hrz1
  have hpk : pickI n wd 9 = (rz : Int) := by rw [hn, hwd, hrz1]; exact hrz.1
  have HPk : Hid (∀ W : World, Calls Tryz.prog 76 #[.int .i64 n, .int .i64 wd, .int .i64 9] W fun e w' => e = .returned (.int .i64 rz) ∧ Below W.heap.size W w') := Lib.hid fun W => by
    have := pick_any n wd 9 W hn6 (by omega)
    rw [hpk] at this; exact this
  have HMd : Hid (∀ W : World, Below W1.heap.size W1 W → Calls Tryz.prog 75 #[.int .i64 rz, .int .i64 256, .func (Fn.func 78) #[] #[.pointer (some ⟨p, 0, none⟩)]] W fun e w' => ∃ Av cv, e = .returned (.agg #[.int .i64 rz, .bool false, .slice Av 256 cv]) ∧ kq.R 39 w' W1.heap.size (fun _ => True) (.slice Av 256 cv) (firstL b) ∧ Below W.heap.size W w') := Lib.hid fun W hW => by
    have h7 := blk_below hk0 hW
    rw [hn] at h7
    have := made256_any p cp A b W h7 (Kd.C_below HR1.out hW) hl hb
    rw [← hrz1] at this
    refine this.mono ?_
    rintro e w' ⟨v, rfl, hv, hb⟩
    obtain ⟨Av, cv, rfl⟩ := Kd.R_slice hv
    rw [firstL_len] at hv ⊢
    exact ⟨Av, cv, rfl, Kd.R_lower hv hW.size, hb⟩
  have hmf : ∀ (fn : Fn) (first cap : Array Value) (w : World), (Instr.makeFunc fn first cap).run Tryz.prog w = .ok (.func fn first cap) w := fun _ _ _ _ => rfl
  rw [← hn]
  clear hr hb hl h0 hb1 hk1 hk0 hn hrz hwd hrz1 hpk hW256
  go_enter Tryz.func29, Tryz.ntmps29
  go_wp2_with fail
  rw [← hW1, ← hm, ← hp]
  clear hW1 hm hp
  go_wp2_with fail
  go_region_law (first
    | (go_simp; go_at_call 77; refine (HCW.out _ (by first | exact And.left ‹SF _ _ _ _ _ _ _› | exact (SF.drew ‹SF _ _ _ _ _ _ _›).1)).mono ?_; rintro e w' ⟨rfl, hb⟩; have s1 := (by first | exact SF.keep ‹_› hb | exact SF.keep (SF.drew ‹_›) hb : SF W1 p m n cp A w'); obtain ⟨g0, g1, g2, g3, g4, g5, g6, g7⟩ := id s1)
    | (go_simp; go_at_call 76; refine (HPk.out _).mono ?_; rintro e w' ⟨rfl, hb⟩; have s1 := (by first | exact SF.keep ‹_› hb | exact SF.keep (SF.drew ‹_›) hb : SF W1 p m n cp A w'); obtain ⟨g0, g1, g2, g3, g4, g5, g6, g7⟩ := id s1)
    | (go_simp; go_at_call 75; refine (HMd.out _ (by first | exact And.left ‹SF _ _ _ _ _ _ _› | exact (SF.drew ‹SF _ _ _ _ _ _ _›).1)).mono ?_; rintro e w' ⟨Av, cv, rfl, hv, hb⟩; have s1 := (by first | exact SF.keep ‹_› hb | exact SF.keep (SF.drew ‹_›) hb : SF W1 p m n cp A w'); obtain ⟨g0, g1, g2, g3, g4, g5, g6, g7⟩ := id s1))
  all_goals
    have HV := Lib.hid hv
    have HS := Lib.hid s1
    go_wp2_with fail
    refine bodyPost_ret (results_row_tmp (fn := Tryz.f29) (p := 2) (u := 3) (ty := 31) rfl _ _ _ _ rfl (load_model (blk_set3 (blk_below HK.out.1 HS.out.1) _ _ _))) rfl ?_
    have hle : w.heap.size ≤ m := by have := HM.out; omega
    have hlt : m < W1.heap.size := blk_lt HK.out.1
    have hB : Below w.heap.size w w' := below_tr HX.out.2.2.2.1 HS.out.1
    have h4 : kq.R 39 w' w.heap.size (fun k => k ≠ m) (.slice Av 256 cv) (firstL b) := Kd.R_mono (Kd.R_lower (Kd.R_bound HV.out) (by omega)) (fun k hk => by have := hk.2.1; omega)
    exact .inr ⟨HX.out.2.2.1, Av, cv, (by rw [← HRZ.out]; rfl), Kd.R_mono (R_far3 h4 _ _ _) (fun _ _ => trivial), ((hB.setCell hle _).setCell hle _).setCell hle _⟩
end Go.Proofs.YtdkemdcflbadhaaGreat
namespace Go.Proofs.YtdkemdcflbadhaaGreat
open Go.RowKit Go.IntWalk Go.Proofs.YtdkemdcflbadhaaGreatW.PrintWords
/-- 'xs[k:]' -/
theorem from_at (A : Option Addr) (n c k : Nat) (hk : k ≤ n) : ∀ W : World, (Instr.slice 22 (.slice A n c) (some (.int .i64 (k : Int))) none none).run Tryz.prog W = .ok (.slice (if c = k then A else A.map (·.add (k * 1))) (n - k) (c - k)) W := by
  intro W
  obtain ⟨i0, hi0, hz0, hz1, hz2⟩ := info_parts infoU8
  have := cut_from (P := Tryz.prog) 22 5 .i64 Tryz.underlying22 hi0 1 hz1 A n c (k : Int) (by omega) (by omega) W
  simp only [Int.toNat_natCast] at this
  exact this
def Split1Post (ps : List Int) (w : World) (e : Ending) (w' : World) : Prop :=
  ((split1M ps).1 = 0 → ∃ vm vp, e = .returned (.tuple #[.agg #[.int .i64 (split1M ps).2.1, .bool false, vm], vp, .int .i64 0]) ∧ kq.R 39 w' w.heap.size (fun _ => True) vm (split1M ps).2.2.1 ∧ (Kd.int .u8).R 5 w' w.heap.size (fun _ => True) vp (split1M ps).2.2.2) ∧
  ((split1M ps).1 ≠ 0 → e = .returned (.tuple #[.agg #[.int .i64 0, .bool false, .slice none 0 0], .slice none 0 0, .int .i64 (split1M ps).1])) ∧ Below w.heap.size w w'
/-- no model: an error -/
theorem split1_no {ps : List Int} {k : Int} {w w' : World} (h : split1M ps = (k, 0, [], [])) (hk : k ≠ 0) (hb : Below w.heap.size w w') : Split1Post ps w (.returned (.tuple #[.agg #[.int .i64 0, .bool false, .slice none 0 0], .slice none 0 0, .int .i64 k])) w' := by
  unfold Split1Post
  rw [h]
  exact ⟨fun e => absurd e hk, fun _ => rfl, hb⟩
/-- what the last statement reads and writes, kept -/
def SR (w5 : World) (mb rx m0 : Nat) (a b c q : Value) (W : World) : Prop := Below w5.heap.size w5 W ∧ W.cell? ⟨mb, 0, none⟩ = some a ∧ W.cell? ⟨mb, 1, none⟩ = some b ∧ W.cell? ⟨mb, 2, none⟩ = some c ∧ W.cell? ⟨rx, 0, none⟩ = some q ∧ W.cell? ⟨m0, 0, none⟩ = some (.int .i64 0) ∧ W.cell? ⟨m0, 1, none⟩ = some (.bool false) ∧ W.cell? ⟨m0, 2, none⟩ = some (.slice none 0 0) ∧ W.frozen? ⟨m0, 0, none⟩ = false ∧ W.frozen? ⟨m0, 1, none⟩ = false ∧ W.frozen? ⟨m0, 2, none⟩ = false
theorem SR.keep {w5 W w' : World} {mb rx m0 : Nat} {a b c q : Value} (h : SR w5 mb rx m0 a b c q W) (hb : Below W.heap.size W w') : SR w5 mb rx m0 a b c q w' := by
  obtain ⟨h0, h1, h2, h3, h4, h5, h6, h7, h8, h9, h10⟩ := h
  exact ⟨below_tr h0 hb, pw_cell_below hb h1, pw_cell_below hb h2, pw_cell_below hb h3, pw_cell_below hb h4, pw_cell_below hb h5, pw_cell_below hb h6, pw_cell_below hb h7, frz_below hb h5 h8, frz_below hb h6 h9, frz_below hb h7 h10⟩
theorem SR.drew {w5 W : World} {mb rx m0 : Nat} {a b c q : Value} (h : SR w5 mb rx m0 a b c q W) : SR w5 mb rx m0 a b c q W.drew := by
  obtain ⟨h0, h1, h2, h3, h4, h5, h6, h7, h8, h9, h10⟩ := h
  exact ⟨h0.drew, h1, h2, h3, h4, h5, h6, h7, h8, h9, h10⟩
set_option maxRecDepth 100000 in
set_option maxHeartbeats 4000000 in
theorem split1_any (A : Option Addr) (c : Nat) (ps : List Int) (w : World) (hr : (Kd.int .u8).C w A ps.length ps) (hps : Bytes ps) (hl : ps.length ≤ 1000000) (hc : ps.length ≤ c) :
    Calls Tryz.prog 24 #[.slice A ps.length c] w (Split1Post ps w) := by
  obtain ⟨W, hW⟩ : ∃ W, W = w.alloc (.cells #[.int .i64 0, .bool false, .slice none 0 0] 31) := ⟨_, rfl⟩
  have hb1 : Below w.heap.size w W := by rw [hW]; exact (Below.refl _ _).alloc (Nat.le_refl _) _
  have hk1 : W.heap[w.heap.size]? = some (.cells #[.int .i64 0, .bool false, .slice none 0 0] 31 (0, 0)) := by rw [hW]; exact blk_new _ _
  have HB1 := Lib.hid hb1
  have HK1 := Lib.hid hk1
  have HR := Lib.hid (And.intro (Kd.C_below hr hb1) (And.intro hps (And.intro hl hc)))
  obtain ⟨⟨ca, cb, cc⟩, fa, fb, fc⟩ := cell3 hk1
  by_cases h0 : ps.length = 0
  · have HE := Lib.hid (show split1M ps = (3, 0, [], []) from by unfold split1M; rw [if_pos h0])
    rw [h0]
    clear hr hps hl hc hb1 hk1 h0
    go_enter Tryz.func24, Tryz.ntmps24
    go_wp2_with fail
    refine bodyPost_ret (results_row_tmp2 (fn := Tryz.f24) (p := 2) (u := 3) (v := 4) (ty := 31) rfl _ _ _ _ rfl (load_model (blk_new _ _))) rfl ?_
    exact split1_no HE.out (by decide) ((Below.refl _ _).alloc (Nat.le_refl _) _)
  have hne : ((ps.length : Int) == 0) = false := by simp; intro e; subst e; simp at h0
  obtain ⟨ad, hA, hcx⟩ := ints_get (Kd.C_below hr hb1) 0 (by omega)
  subst hA
  have e0 : ad.add 0 = ad := by simp [Addr.add]
  rw [e0] at hcx
  have hx := hps _ (hd_mem (by omega : 0 < ps.length))
  obtain ⟨v, hv⟩ : ∃ v : Nat, v = (ps.getD 0 0).toNat := ⟨_, rfl⟩
  have hv2 : ps.getD 0 0 = (v : Int) := by omega
  rw [hv2] at hcx hx
  have hI0 : (0 : Int) < (ps.length : Int) := by omega
  by_cases hlog : 5 ≤ v ∧ v ≤ 9
  · have d1 : decide ((v : Int) < 5) = false := decide_eq_false (by omega)
    have d2 : decide ((9 : Int) < (v : Int)) = false := decide_eq_false (by omega)
    have hcW := hcx
    rw [hW] at hcx
    have hsl0 := from_at (some ad) ps.length c 1 (by omega)
    obtain ⟨A1, hA1⟩ : ∃ A1, A1 = (if c = 1 then some ad else (some ad).map (·.add (1 * 1))) := ⟨_, rfl⟩
    rw [← hA1] at hsl0
    have hsl : ∀ W : World, (Instr.slice 22 (.slice (some ad) ps.length c) (some (.int .i64 1)) none none).run Tryz.prog W = .ok (.slice A1 (ps.length - 1) (c - 1)) W := hsl0
    have hC1 : (Kd.int .u8).C W A1 (ps.drop 1).length (ps.drop 1) := by
      have := Kd.C_drop (c := c) (m := 1) HR.out.1 (by omega) hc
      rw [hA1]; exact this
    have hl1 : (ps.drop 1).length = ps.length - 1 := List.length_drop
    have hDT := dirTake_any A1 (c - 1) (ps.drop 1) W hC1 (fun x hx => hps x (List.mem_of_mem_drop hx)) (by omega) (by omega)
    rw [hl1] at hDT
    unfold DTakePost at hDT
    obtain ⟨dt, hdt⟩ : ∃ dt, dt = dirT (ps.drop 1) := ⟨_, rfl⟩
    rw [← hdt] at hDT
    have HDT := Lib.hid hDT
    have HV := Lib.hid (And.intro hv (And.intro hlog (And.intro hdt (And.intro h0 hcW))))
    clear hr hps hl hc hb1 hk1 h0 hv hv2 e0 hx hlog hA1 hC1 hl1 hDT hdt hcW hsl0
    go_enter Tryz.func24, Tryz.ntmps24
    go_wp2_with fail
    rw [← hW]
    clear hW hcx
    refine HDT.out.mono ?_
    rintro e w1 ⟨vl, rfl, hvl, hb⟩
    have hk2 := blk_below HK1.out hb
    have hcx1 : w1.cell? ad = some (.int .u8 v) := pw_cell_below hb HV.out.2.2.2.2
    have HB2 := Lib.hid (below_tr HB1.out hb)
    have HWs := Lib.hid (blk_lt HK1.out)
    have HK2 := Lib.hid hk2
    obtain ⟨⟨ca, cb, cc⟩, fa, fb, fc⟩ := cell3 hk2
    by_cases hz : dt.1 = 0
    · have hlst : dt.2.length ≤ 256 ∧ (∀ x ∈ dt.2, 0 ≤ x ∧ x < 256) ∧ 33 ≤ ps.length := by
        have e := HV.out.2.2.1
        unfold dirT at e
        split at e
        · rw [e] at hz; cases hz
        · split at e
          · rw [e] at hz; cases hz
          · rename_i h32 _
            rw [List.length_drop] at h32
            rw [e]
            refine ⟨onesN_len _ 256, fun x hx => ?_, by omega⟩
            obtain ⟨c, rfl, h1, _⟩ := onesN_mem hx
            omega
      obtain ⟨Al, cl, rfl⟩ := Kd.R_slice hvl
      have HL := Lib.hid (And.intro hvl (And.intro hlst hb))
      have hmk : ∀ w : World, (Instr.makeSlice 29 (.int .i64 256) (.int .i64 256)).run Tryz.prog w = .ok (.slice (some ⟨w.heap.size, 0, none⟩) 256 256) (w.alloc (.cells (madeCells #[.slice none 0 0] 256) 39)) := fun w => made_ints 256 (by omega) w
      have hwr : IntKind.i64.wrap (v : Int) = (v : Int) := i64_in _ (by have := HV.out.2.1; omega)
      have hca1 : ∀ o : Obj, (w1.alloc o).cell? ad = some (.int .u8 v) := fun o => pw_cell_below ((Below.refl _ _).alloc (Nat.le_refl _) o) hcx1
      have hca2 : ∀ o o' : Obj, ((w1.alloc o).alloc o').cell? ad = some (.int .u8 v) := fun o o' => pw_cell_below (((Below.refl w1.heap.size w1).alloc (Nat.le_refl _) o).alloc (by simp) o') hcx1
      clear hvl hlst hb hk2
      rw [hz]
      go_wp2_with fail
      go_cut [7] (fun s7 wx => StartM v w1 s7 wx)
      case first =>
        go_region
        all_goals
          go_wp2_with fail
          go_meet
          refine' start_mk _ ?_ ?_ ?_ ?_ ?_ ?_
          rotate_left 1
          · repeat' (with_reducible (first | exact blk_new _ _ | exact blk_new1 _ _ _ | refine blk_dr ?_ | refine blk_alloc ?_ _))
          · repeat' (with_reducible (first | refine kq_made _ _ _ ?_ ?_ | refine kq_made1 _ _ _ _ ?_ ?_ | refine Kd.R_drew ?_ | refine Kd.R_alloc ?_ _))
            all_goals omega
          · exact (((Below.refl w1.heap.size w1).alloc (Nat.le_refl _) _).alloc (by simp) _).drew
          all_goals omega
      case rest =>
        obtain ⟨mb, g, rfl, hmb, hg, hne7, hblk, hrow, hbl⟩ := hcut
        have h33 := HL.out.2.1.2.2
        have hsl0 := from_at (some ad) ps.length c 33 h33
        obtain ⟨A3, hA3⟩ : ∃ A3, A3 = (if c = 33 then some ad else (some ad).map (·.add (33 * 1))) := ⟨_, rfl⟩
        rw [← hA3] at hsl0
        have hsl3 : ∀ W : World, (Instr.slice 22 (.slice (some ad) ps.length c) (some (.int .i64 33)) none none).run Tryz.prog W = .ok (.slice A3 (ps.length - 33) (c - 33)) W := hsl0
        have hBc : Below W.heap.size W wc := below_tr HL.out.2.2 hbl
        have hC3 : (Kd.int .u8).C wc A3 (ps.drop 33).length (ps.drop 33) := by
          have := Kd.C_drop (c := c) (m := 33) (Kd.C_below HR.out.1 hBc) h33 HR.out.2.2.2
          rw [hA3]; exact this
        obtain ⟨ps3, hps3⟩ : ∃ ps3, ps3 = ps.drop 33 := ⟨_, rfl⟩
        have hl3 : ps3.length = ps.length - 33 := by rw [hps3]; exact List.length_drop
        have hb3 : Bytes ps3 := by rw [hps3]; exact fun x hx => HR.out.2.1 x (List.mem_of_mem_drop hx)
        rw [← hps3] at hC3
        have hnw := fnew_any A3 (c - 33) ps3 wc hC3 (by have := HR.out.2.2.1; omega) (by have := HR.out.2.2.2; omega) (fun h => by
          rw [hA3] at h; split at h <;> cases h)
        rw [hl3] at hnw
        have HNw := Lib.hid hnw
        have HM := Lib.hid (And.intro hmb (And.intro hg (And.intro hne7 (And.intro hblk (And.intro hrow hbl)))))
        have HP3 := Lib.hid (And.intro hps3 (And.intro hl3 (And.intro hb3 hBc)))
        clear hmb hg hne7 hblk hrow hbl h33 hsl0 hA3 hBc hC3 hps3 hl3 hb3 hnw
        have hmf : ∀ (fn : Fn) (first cap : Array Value) (w : World), (Instr.makeFunc fn first cap).run Tryz.prog w = .ok (.func fn first cap) w := fun _ _ _ _ => rfl
        go_wp2_with fail
        refine HNw.out.mono ?_
        rintro e w2 ⟨p, rfl, hp, hrd, hb⟩
        obtain ⟨w3, hw3⟩ : ∃ w3, w3 = w2.alloc (.cells #[.pointer (some ⟨p, 0, none⟩)] 80) := ⟨_, rfl⟩
        obtain ⟨rx, hrx⟩ : ∃ rx, rx = w2.heap.size := ⟨_, rfl⟩
        have hb23 : Below w2.heap.size w2 w3 := by rw [hw3]; exact (Below.refl _ _).alloc (Nat.le_refl _) _
        have hkx : w3.heap[rx]? = some (.cells #[.pointer (some ⟨p, 0, none⟩)] 80 (0, 0)) := by rw [hw3, hrx]; exact blk_new _ _
        obtain ⟨_, _, hpb, _⟩ := hrd.ex
        have hprx : p < rx := by rw [hrx]; exact blk_lt hpb
        have hbc3 : Below wc.heap.size wc w3 := below_tr hb hb23
        have hmbl := blk_lt HM.out.2.2.2.1
        have hgl := ((Kd.R_bound HM.out.2.2.2.2.1).1 g rfl).2.2.1
        have h1s := HB2.out.size
        have h2s := HL.out.2.2.size
        have hS1 : S1 rx mb g p wc.heap.size v W.heap.size ps3 (List.replicate 256 []) 0 W w3 := by
          refine ⟨hrd.below hb23, hkx, blk_below HM.out.2.2.2.1 hbc3, ?_, below_tr (below_tr HL.out.2.2 HM.out.2.2.2.2.2) hbc3⟩
          exact Kd.R_below (Kd.R_lower (Kd.R_mono (Kd.R_bound HM.out.2.2.2.2.1) (fun k hk => ⟨by have := hk.2.2.1; omega, by have := hk.2.2.1; omega, hk.1⟩)) h2s) hbc3
        have hL1 : (Kd.int .i64).R 3 w3 W.heap.size (fun k => k < g ∧ k < mb) (.slice Al dt.2.length cl) dt.2 := by
          have hx := HL.out.1
          have h3 := HM.out.1
          have h4 := HM.out.2.1
          exact Kd.R_below (Kd.R_below (Kd.R_mono (Kd.R_bound hx) (fun k hk => ⟨by have := hk.2.2.1; omega, by have := hk.2.2.1; omega⟩)) HM.out.2.2.2.2.2) hbc3
        have hEa := each_any Al cl dt.2 rx mb g p wc.heap.size v W.heap.size ps3 (List.replicate 256 []) 0 W w3 hS1 hL1 HL.out.2.1.2.1 HL.out.2.1.1 HP3.out.2.2.1 (by have := HP3.out.2.1; have := HR.out.2.2.1; omega) (Nat.zero_le _) (by have := HV.out.2.1; omega) (by have := HV.out.2.1; omega) (by have := HM.out.2.1; omega) hgl hp hprx hmbl (by have := HM.out.1; omega) HM.out.2.2.1
        unfold EachPost at hEa
        have hHe : (hdrsT ps3 v dt.2 (List.replicate 256 []) 0).1 = 0 → (hdrsT ps3 v dt.2 (List.replicate 256 []) 0).2.2 ≤ 8 * ps3.length := hdrsT_end _ _ _ _ _ (Nat.zero_le _)
        obtain ⟨T, hT⟩ : ∃ T, T = hdrsT ps3 v dt.2 (List.replicate 256 []) 0 := ⟨_, rfl⟩
        rw [← hT] at hEa hHe
        have HEa := Lib.hid (And.intro hEa (And.intro hHe (And.intro hT hbc3)))
        have HPx := Lib.hid (And.intro hp (And.intro hprx (And.intro hmbl hgl)))
        clear hS1 hL1 hEa hHe hT hrd hb hb23 hkx hpb hbc3 hmbl hgl h1s h2s hp hprx
        go_wp2_with fail
        rw [← hw3, ← hrx]
        clear hw3 hrx
        have HSM := Lib.hid (show split1M ps = if T.1 ≠ 0 then (T.1, 0, [], []) else if T.2.2 % 8 ≠ 0 ∧ (ps3.getD (T.2.2 / 8) 0).toNat / 2 ^ (T.2.2 % 8) ≠ 0 then (4, 0, [], []) else (0, v, T.2.1, ps3.drop ((T.2.2 + 7) / 8)) from by
          have hlg := HV.out.2.1
          unfold split1M
          rw [if_neg HV.out.2.2.2.1, ← HV.out.1, if_neg (by omega), ← HV.out.2.2.1, if_neg (fun h => h hz), ← HP3.out.1]
          have e : none256 = List.replicate 256 [] := rfl
          rw [e, ← HEa.out.2.2.1])
        refine HEa.out.1.mono ?_
        rintro e w4 ⟨t1, t2⟩
        by_cases hT0 : T.1 = 0
        · obtain ⟨rfl, hS4⟩ := t1 hT0
          have HS4 := Lib.hid hS4
          have hkx4 := hS4.kb
          have hcx4 : w4.cell? ⟨rx, 0, none⟩ = some (.pointer (some ⟨p, 0, none⟩)) := (blk_cell hkx4 0).trans rfl
          have HPd := Lib.hid (fpad_any wc.heap.size p ps3 T.2.2 w4 hS4.rd HP3.out.2.2.1 (by have := HP3.out.2.1; have := HR.out.2.2.1; omega) (HEa.out.2.1 hT0))
          clear t1 t2 hS4 hkx4
          go_wp2_with fail
          refine HPd.out.mono ?_
          rintro e w5 ⟨rfl, p2, p3⟩
          have hO5 := Lib.hid p3
          have hk5 : w5.heap[w.heap.size]? = some (.cells #[.int .i64 0, .bool false, .slice none 0 0] 31 (0, 0)) := by
            rw [p3.block _ (by have := HS4.out.on.size; have := HWs.out; omega) (by have := HPx.out.1; have := HP3.out.2.2.2.size; have := HWs.out; omega)]
            exact (HS4.out.on.block _ HWs.out).trans HK1.out
          have HK5 := Lib.hid hk5
          have HB5 : Hid (Below w.heap.size w w5) := Lib.hid ((HB1.out.trans (HS4.out.on.mono HB1.out.size)).trans (p3.below (by have := HB1.out.size; have := HS4.out.on.size; omega) (fun k hk => by have := HPx.out.1; have := HP3.out.2.2.2.size; have := HB1.out.size; omega)))
          have hcx5 : w5.cell? ⟨rx, 0, none⟩ = some (.pointer (some ⟨p, 0, none⟩)) := (blk_cell ((p3.block rx (blk_lt HS4.out.kb) (by have := HPx.out.2.1; omega)).trans HS4.out.kb) 0).trans rfl
          obtain ⟨⟨ca, cb, cc⟩, fa, fb, fc⟩ := cell3 hk5
          cases hpd : padOk ps3 T.2.2 with
          | false =>
            have HE : Hid (split1M ps = (4, 0, [], [])) := by
              have := HSM.out
              rw [if_neg (fun h => h hT0)] at this
              unfold padOk at hpd
              rw [if_pos (by have h := of_decide_eq_false hpd; exact Classical.not_not.1 h)] at this; exact Lib.hid this
            clear p2 p3 hk5 hpd hT0
            go_wp2_with fail
            refine bodyPost_ret (results_row_tmp2 (fn := Tryz.f24) (p := 2) (u := 3) (v := 4) (ty := 31) rfl _ _ _ _ rfl (load_model (blk_set3 HK5.out _ _ _))) rfl ?_
            exact split1_no HE.out (by decide) (((HB5.out.setCell (Nat.le_refl _) _).setCell (Nat.le_refl _) _).setCell (Nat.le_refl _) _)
          | true =>
            have HE : Hid (split1M ps = (0, v, T.2.1, ps3.drop ((T.2.2 + 7) / 8))) := by
              have := HSM.out
              rw [if_neg (fun h => h hT0)] at this
              unfold padOk at hpd
              rw [if_neg (of_decide_eq_true hpd)] at this; exact Lib.hid this
            have km5 : w5.heap[mb]? = some (.cells #[.int .i64 v, .bool false, .slice (some ⟨g, 0, none⟩) 256 256] 31 (0, 0)) := (p3.block mb (blk_lt HS4.out.km) (by have := HPx.out.2.2.1; have := HPx.out.1; omega)).trans HS4.out.km
            obtain ⟨⟨b0, b1, b2⟩, -⟩ := cell3 km5
            have hle5 : 8 * ((T.2.2 + 7) / 8) ≤ 8 * ps3.length := by have := HEa.out.2.1 hT0; omega
            have hl35 : ps3.length ≤ 1000000 := by have := HP3.out.2.1; have := HR.out.2.2.1; omega
            have HRs : Hid (∀ W' : World, Below w5.heap.size w5 W' → Calls Tryz.prog 66 #[.pointer (some ⟨p, 0, none⟩)] W' (FRestPost ps3 (8 * ((T.2.2 + 7) / 8)) W')) := Lib.hid fun W' hW' => frest_any wc.heap.size p ps3 _ W' ((p2 hpd).below hW') hl35 hle5
            have s0 : SR w5 mb rx w.heap.size (.int .i64 v) (.bool false) (.slice (some ⟨g, 0, none⟩) 256 256) (.pointer (some ⟨p, 0, none⟩)) w5 := ⟨Below.refl _ _, b0, b1, b2, hcx5, ca, cb, cc, fa, fb, fc⟩
            clear p2 p3 hk5 hpd km5 hle5 hl35
            go_wp2_with fail
            go_region_law (go_simp; go_at_call 66; refine (HRs.out _ (by first | exact And.left ‹SR _ _ _ _ _ _ _ _ _› | exact (SR.drew ‹SR _ _ _ _ _ _ _ _ _›).1)).mono ?_; rintro e w6 ⟨vp, rfl, hvp, hb⟩; have s1 := (by first | exact SR.keep ‹_› hb | exact SR.keep (SR.drew ‹_›) hb : SR w5 mb rx w.heap.size (.int .i64 v) (.bool false) (.slice (some ⟨g, 0, none⟩) 256 256) (.pointer (some ⟨p, 0, none⟩)) w6); obtain ⟨g0, g1, g2, g3, g4, g5, g6, g7, g8, g9, g10⟩ := id s1)
            all_goals
              have HV6 := Lib.hid (And.intro hvp s1)
              clear hvp hb
              go_wp2_with fail
              refine bodyPost_ret (results_row_tmp2 (fn := Tryz.f24) (p := 2) (u := 3) (v := 4) (ty := 31) rfl _ _ _ _ rfl (load_model (blk_set3 (blk_below HK5.out HV6.out.2.1) _ _ _))) rfl ?_
              have hlt5 : w.heap.size < w5.heap.size := blk_lt HK5.out
              have hB6 : Below w.heap.size w w6 := below_tr HB5.out HV6.out.2.1
              refine ⟨(fun _ => ?_), (fun h => by rw [HE.out] at h; exact absurd rfl h), ((hB6.setCell (Nat.le_refl _) _).setCell (Nat.le_refl _) _).setCell (Nat.le_refl _) _⟩
              rw [HE.out]
              have e8 : (8 * ((T.2.2 + 7) / 8) + 7) / 8 = (T.2.2 + 7) / 8 := by omega
              have hp6 := HV6.out.1
              rw [e8] at hp6
              have hWlt := HWs.out
              refine ⟨_, _, rfl, ?_, ?_⟩
              · have h4 : kq.R 39 w5 W.heap.size (fun k => W.heap.size ≤ k) (.slice (some ⟨g, 0, none⟩) 256 256) T.2.1 := Kd.R_mono (Kd.R_bound (Kd.R_step HS4.out.row (fun k hk hlt => hO5.out.block k hlt hk.1))) (fun k hk => hk.2.1)
                have h5 : kq.R 39 w6 w.heap.size (fun k => k ≠ w.heap.size) (.slice (some ⟨g, 0, none⟩) 256 256) T.2.1 := Kd.R_mono (Kd.R_lower (Kd.R_below h4 HV6.out.2.1) (Nat.le_of_lt hWlt)) (fun k hk => by omega)
                exact Kd.R_mono (R_far3 h5 _ _ _) (fun _ _ => trivial)
              · have h4 : (Kd.int .u8).R 5 w6 w.heap.size (fun k => k ≠ w.heap.size) vp (ps3.drop ((T.2.2 + 7) / 8)) := Kd.R_mono (Kd.R_lower (Kd.R_bound hp6) (Nat.le_of_lt hlt5)) (fun k hk => Nat.ne_of_gt (Nat.lt_of_lt_of_le hlt5 hk.2.1))
                exact Kd.R_mono (R_far3 h4 _ _ _) (fun _ _ => trivial)
        · obtain ⟨rfl, hb4⟩ := t2 hT0
          have HE : Hid (split1M ps = (T.1, 0, [], [])) := by have := HSM.out; rw [if_pos hT0] at this; exact Lib.hid this
          have HB4 := Lib.hid (HB1.out.trans (hb4.mono HB1.out.size))
          have hk4 : w4.heap[w.heap.size]? = some (.cells #[.int .i64 0, .bool false, .slice none 0 0] 31 (0, 0)) := (hb4.block _ HWs.out).trans HK1.out
          have HK4 := Lib.hid hk4
          obtain ⟨⟨ca, cb, cc⟩, fa, fb, fc⟩ := cell3 hk4
          have hT2 : (T.1 != 0) = true := by simpa using hT0
          clear t1 t2 hb4 hk4
          go_wp2_with fail
          refine bodyPost_ret (results_row_tmp2 (fn := Tryz.f24) (p := 2) (u := 3) (v := 4) (ty := 31) rfl _ _ _ _ rfl (load_model (blk_set3 HK4.out _ _ _))) rfl ?_
          exact split1_no HE.out hT0 (((HB4.out.setCell (Nat.le_refl _) _).setCell (Nat.le_refl _) _).setCell (Nat.le_refl _) _)
    · have HE := Lib.hid (show split1M ps = (dt.1, 0, [], []) from by
        have hlg := HV.out.2.1
        unfold split1M
        rw [if_neg HV.out.2.2.2.1, ← HV.out.1, if_neg (by omega), ← HV.out.2.2.1, if_pos hz])
      have hz2 : (dt.1 != 0) = true := by simpa using hz
      obtain ⟨Al, cl, rfl⟩ := Kd.R_slice hvl
      clear hvl hb hk2
      go_wp2_with fail
      refine bodyPost_ret (results_row_tmp2 (fn := Tryz.f24) (p := 2) (u := 3) (v := 4) (ty := 31) rfl _ _ _ _ rfl (load_model (blk_set3 HK2.out _ _ _))) rfl ?_
      exact split1_no HE.out hz (((HB2.out.setCell (Nat.le_refl _) _).setCell (Nat.le_refl _) _).setCell (Nat.le_refl _) _)
  · have HE := Lib.hid (show split1M ps = (13, 0, [], []) from by unfold split1M; rw [if_neg h0, ← hv, if_pos (by omega)])
    have hd : (decide ((v : Int) < 5) = true) ∨ (decide ((v : Int) < 5) = false ∧ decide ((9 : Int) < (v : Int)) = true) := by
      by_cases h5 : v < 5
      · exact .inl (decide_eq_true (by omega))
      · exact .inr ⟨decide_eq_false (by omega), decide_eq_true (by omega)⟩
    rw [hW] at hcx
    clear hr hps hl hc hb1 hk1 h0 hv hv2 e0 hx hlog ca cb cc fa fb fc HB1 HK1 HR hW
    rcases hd with hd | ⟨hd, hd2⟩
    all_goals
      go_enter Tryz.func24, Tryz.ntmps24
      go_wp2_with fail
      refine bodyPost_ret (results_row_tmp2 (fn := Tryz.f24) (p := 2) (u := 3) (v := 4) (ty := 31) rfl _ _ _ _ rfl (load_model (blk_new _ _))) rfl ?_
      exact split1_no HE.out (by decide) ((Below.refl _ _).alloc (Nat.le_refl _) _)
end Go.Proofs.YtdkemdcflbadhaaGreat
namespace Go.Proofs.YtdkemdcflbadhaaGreat
open Go.RowKit Go.IntWalk Go.Proofs.YtdkemdcflbadhaaGreatW.PrintWords
def Split1Yes (r : Nat) (qs : List (List Int)) (p : List Int) (w : World) (e : Ending) (w' : World) : Prop :=
  ∃ Am cm Ap cp, e = .returned (.tuple #[.agg #[.int .i64 r, .bool false, .slice Am qs.length cm], .slice Ap p.length cp, .int .i64 0]) ∧ kq.R 39 w' w.heap.size (fun _ => True) (.slice Am qs.length cm) qs ∧ (Kd.int .u8).R 5 w' w.heap.size (fun _ => True) (.slice Ap p.length cp) p ∧ Below w.heap.size w w'
theorem split1_yes (A : Option Addr) (c : Nat) (ps : List Int) {r : Nat} {qs : List (List Int)} {p : List Int} (w : World) (hr : (Kd.int .u8).C w A ps.length ps) (hps : Bytes ps) (hl : ps.length ≤ 1000000) (hc : ps.length ≤ c) (h : split1M ps = (0, r, qs, p)) :
    Calls Tryz.prog 24 #[.slice A ps.length c] w (Split1Yes r qs p w) := by
  refine (split1_any A c ps w hr hps hl hc).mono ?_
  intro e w' hp
  unfold Split1Post at hp
  rw [h] at hp
  obtain ⟨vm, vp, rfl, hm, hv⟩ := hp.1 rfl
  obtain ⟨Am, cm, rfl⟩ := Kd.R_slice hm
  obtain ⟨Ap, cp, rfl⟩ := Kd.R_slice hv
  exact ⟨Am, cm, Ap, cp, rfl, hm, hv, hp.2.2⟩
theorem split1_not (A : Option Addr) (c : Nat) (ps : List Int) {k : Int} (w : World) (hr : (Kd.int .u8).C w A ps.length ps) (hps : Bytes ps) (hl : ps.length ≤ 1000000) (hc : ps.length ≤ c) (h : (split1M ps).1 = k) (hk : k ≠ 0) :
    Calls Tryz.prog 24 #[.slice A ps.length c] w (fun e w' => e = .returned (.tuple #[.agg #[.int .i64 0, .bool false, .slice none 0 0], .slice none 0 0, .int .i64 k]) ∧ Below w.heap.size w w') := by
  refine (split1_any A c ps w hr hps hl hc).mono ?_
  intro e w' hp
  unfold Split1Post at hp
  rw [h] at hp
  exact ⟨hp.2.1 hk, hp.2.2⟩
set_option maxRecDepth 100000 in
set_option maxHeartbeats 1000000 in
theorem decode1_any (A : Option Addr) (c : Nat) (ps : List Int) (n : Int) (w : World) (hr : (Kd.int .u8).C w A ps.length ps) (hps : Bytes ps) (hl : ps.length ≤ 1000000) (hc : ps.length ≤ c) :
    Calls Tryz.prog 26 #[.slice A ps.length c, .int .i64 n] w (ReadPost (dec1M ps n) w) := by
  obtain ⟨k, r, q, p, hS⟩ : ∃ k r q p, split1M ps = (k, r, q, p) := ⟨_, _, _, _, rfl⟩
  have hpb := split1_bytes hps
  have hpl := (split1_len ps).1
  have hql := (split1_len ps).2
  rw [hS] at hpb hpl hql
  by_cases hk : k = 0
  · subst hk
    have HD : Hid (dec1M ps n = decM (r : Nat) false q p n) := by show _ = _; unfold dec1M; rw [hS, if_neg (fun h => h rfl)]
    have HS := Lib.hid (split1_yes A c ps w hr hps hl hc hS)
    have HP := Lib.hid (And.intro hpb (And.intro (Nat.le_trans hpl hl) (show q.length ≤ 256 from hql)))
    rw [HD.out]
    clear hr hps hl hc hS hpb hpl hql
    go_enter Tryz.func26, Tryz.ntmps26
    go_wp2_with fail
    refine HS.out.mono ?_
    rintro e w1 ⟨Am, cm, Ap, cp, rfl, hm, hv, hb1⟩
    obtain ⟨w2, hw2⟩ : ∃ w2, w2 = w1.alloc (.cells #[.int .i64 r, .bool false, .slice Am q.length cm] 31) := ⟨_, rfl⟩
    have hb2 : Below w1.heap.size w1 w2 := by rw [hw2]; exact (Below.refl _ _).alloc (Nat.le_refl _) _
    have HB2 := Lib.hid (hb1.trans (hb2.mono hb1.size))
    have HM := Lib.hid (Kd.C_below (Kd.R_reads' hm).2.2 hb2)
    have HV := Lib.hid (Kd.C_below (Kd.R_reads' hv).2.2 hb2)
    clear hm hv hb1 hb2
    go_wp2_with fail
    rw [← hw2]
    clear hw2
    refine (decodeL_any r false Am cm q Ap cp p n w2 HM.out (by have := HP.out.2.2; omega) HV.out HP.out.1 HP.out.2.1).mono ?_
    rintro e w3 ⟨⟨v, rfl, hv⟩, hb3⟩
    have H3 := Lib.hid (And.intro hv hb3)
    clear hv hb3
    go_wp2_with fail
    go_ret2
    exact ⟨⟨v, rfl, Kd.R_lower H3.out.1 HB2.out.size⟩, HB2.out.trans (H3.out.2.mono HB2.out.size)⟩
  · have HD : Hid (dec1M ps n = (k, [])) := by show _ = _; unfold dec1M; rw [hS, if_pos hk]
    have HS := Lib.hid (split1_not A c ps w hr hps hl hc (by rw [hS]) hk)
    have hkb : (k == 0) = false := beq_eq_false_iff_ne.2 hk
    have hkn : (k != 0) = true := by simp [hk]
    rw [HD.out]
    clear hr hps hl hc hS hpb hpl hql
    go_enter Tryz.func26, Tryz.ntmps26
    go_wp2_with fail
    refine HS.out.mono ?_
    rintro e w1 ⟨rfl, hb1⟩
    have HB1 := Lib.hid hb1
    clear hb1
    go_wp2_with fail
    go_ret2
    exact ⟨⟨_, rfl, Kd.R_nil _ _ _ _ _⟩, HB1.out.alloc HB1.out.size _⟩
end Go.Proofs.YtdkemdcflbadhaaGreat
namespace Go.Proofs.YtdkemdcflbadhaaGreat
open Go.RowKit
def aw1X : List Int := [5, 1] ++ List.replicate 31 0 ++ [192, 3, 2, 0, 4]
set_option maxRecDepth 100000 in
theorem aw1_enc : body1L [7] = aw1X := by decide +kernel
theorem aw1_dec : dec1M aw1X 1 = (0, [7]) := by
  rw [← aw1_enc]
  exact dec_body1 (b := [7]) (by intro x hx; simp at hx; omega) (by decide) (by decide)
end Go.Proofs.YtdkemdcflbadhaaGreat
namespace Go.Proofs.YtdkemdcflbadhaaGreat
open Go.RowKit Go.IntWalk Go.Proofs.YtdkemdcflbadhaaGreatW.PrintWords
theorem low_zero : lowBits 0 1 = [false] := by decide
theorem low_one : lowBits 1 1 = [true] := by decide
theorem putN_hi {l : List Int} (h : Asc l) {i : Nat} (hi : i ≤ l.length) : putN l i ≤ 256 := by
  cases i with
  | zero => exact Nat.zero_le _
  | succ i =>
    show (l.getD i 0).toNat + 1 ≤ 256
    have := h.hi _ (hd_mem (show i < l.length by omega)); omega
theorem dir_take_len {l : List Int} {n : Nat} (hn : n ≤ 256) : ((dirB l).take n).length = n := by
  rw [List.length_take, dirB_len]; omega
/-- a writer on its way -/
def DRel (P : Nat) (l : List Int) (n : Nat) (W wr : World) : Prop := PutRel P P (.slice none 0 0) ((dirB l).take n) W wr
theorem DRel.cell {P n : Nat} {l : List Int} {W wr : World} (h : DRel P l n W wr) (hn : n ≤ 256) : wr.cell? ⟨P, 1, none⟩ = some (.int .i64 n) := by
  obtain ⟨v, h1, _⟩ := h
  have := (blk_cell h1.blk 1).trans rfl
  rw [dir_take_len hn] at this; exact this
theorem DRel.below {P n : Nat} {l : List Int} {w W wr : World} (h : DRel P l n W wr) (hb : Below w.heap.size w W) (hp : w.heap.size ≤ P) : Below w.heap.size w wr := PutRel.bel h hb hp (fun k hk => by simp [Value.ownBlock] at hk)
def DPutPost (l : List Int) (w : World) (e : Ending) (w' : World) : Prop := ∃ v, e = .returned (.tuple #[v, .bool true]) ∧ (Kd.int .u8).R 5 w' w.heap.size (fun _ => True) v (dirL l) ∧ Below w.heap.size w w'
set_option maxRecDepth 100000 in
set_option maxHeartbeats 4000000 in
theorem dirPut_any (A : Option Addr) (cp : Nat) (l : List Int) (w : World) (hr : (Kd.int .i64).C w A l.length l) (hA : Asc l) (hl : l.length ≤ 256) :
    Calls Tryz.prog 112 #[.slice A l.length cp] w (DPutPost l w) := by
  obtain ⟨ad, rfl, hcs⟩ := ints_at hr hA.pos
  have h00 := hcs 0 hA.pos
  rw [hA.zero, Addr.add_zero'] at h00
  obtain ⟨W, hW⟩ : ∃ W, W = w.alloc (.cells #[.slice none 0 0, .int .i64 0] 171) := ⟨_, rfl⟩
  have hb1 : Below w.heap.size w W := by rw [hW]; exact (Below.refl _ _).alloc (Nat.le_refl _) _
  have hw0 : WrVal W w.heap.size w.heap.size (.slice none 0 0) [] := by rw [hW]; exact wr_new w
  obtain ⟨P, hP⟩ : ∃ P, P = w.heap.size := ⟨_, rfl⟩
  have HPW : Hid (P ≤ W.heap.size) := by rw [hP]; exact Lib.hid hb1.size
  rw [← hP] at hw0
  have HP := Lib.hid hP
  have HR := Lib.hid (And.intro hr (And.intro hA hl))
  have HW0 := Lib.hid (And.intro hb1 hw0)
  have hne : ((l.length : Int) == 0) = false := by have := hA.pos; simp; intro e; subst e; simp at this
  have hpos : 0 < l.length := hA.pos
  have hl256 : l.length ≤ 256 := hl
  have hne0 : ¬ l = [] := by intro e; subst e; simp at hpos
  clear hr hA hl hb1 hw0 hcs
  go_enter Tryz.func112, Tryz.ntmps112
  go_wp2_with fail
  refine (bitwNew_any _).mono ?_
  rw [← hW, ← hP]
  clear hW hP h00
  rintro e w1 ⟨rfl, rfl⟩
  go_wp2_with fail
  go_loopw [19] (fun kv wr => ∃ i : Nat, i ≤ l.length ∧ kv = .int .i64 i ∧ Hid (DRel P l (putN l i) w1 wr)) (fun kv _ => l.length - (intOf kv).toNat)
  case atStart => exact ⟨0, by omega, rfl, Lib.hid ⟨_, HW0.out.2, .inl rfl, Only.refl _ _⟩⟩
  case round =>
    obtain ⟨i, hi, rfl, H⟩ := hrel
    by_cases hlt : i < l.length
    · obtain ⟨c, hc, hc256⟩ := HR.out.2.1.get hlt
      have hB := H.out.below HW0.out.1 (by have := HP.out; omega)
      obtain ⟨ad2, hA2, hcx⟩ := ints_get (Kd.C_below HR.out.1 hB) i hlt
      cases hA2
      rw [hc] at hcx
      have hgap : Hid ((¬ 0 < i ∧ i = 0) ∨ (0 < i ∧ ∃ j c' : Nat, (i : Int) - 1 = (j : Int) ∧ wr.cell? (ad.add j) = some (.int .i64 c') ∧ c' < c ∧ (j : Int) < (l.length : Int))) := by
        rcases Nat.eq_zero_or_pos i with h0 | h0
        · exact Lib.hid (.inl ⟨by omega, h0⟩)
        · obtain ⟨c', hc', _⟩ := HR.out.2.1.get (i := i - 1) (by omega)
          obtain ⟨ad3, hA3, hcx'⟩ := ints_get (Kd.C_below HR.out.1 hB) (i - 1) (by omega)
          cases hA3
          rw [hc'] at hcx'
          have h2 := HR.out.2.1.asc (i - 1) (by omega)
          rw [show i - 1 + 1 = i by omega] at h2
          exact Lib.hid (.inr ⟨h0, i - 1, c', by omega, hcx', by omega, by omega⟩)
      have hpl := HR.out.2.1.put_le hlt hc
      have HC := Lib.hid (And.intro hc (And.intro hc256 (And.intro hpl hlt)))
      have hc2 : c < 256 := hc256
      have HZ1 := Lib.hid (dir_one (l := l) hlt hc hc2)
      have HZ0 : Hid (∀ n, putN l i ≤ n → n < c → (dirB l).take (n + 1) = (dirB l).take n ++ [false]) := Lib.hid fun n g1 g2 => dir_zero HR.out.2.1 hlt hc hc2 g1 g2
      obtain ⟨i1, hi1⟩ : ∃ i1, i1 = i + 1 := ⟨_, rfl⟩
      rw [← hi1] at HZ1
      have HI : Hid (DRel P l (putN l i1) w1 wr → i1 ≤ l.length ∧ (i1 : Int) = (i : Int) + 1) := Lib.hid fun _ => ⟨by omega, by omega⟩
      have HI1 : Hid (i1 ≤ l.length ∧ (i1 : Int) = (i : Int) + 1) := Lib.hid ⟨by omega, by omega⟩
      obtain ⟨N0, hN0⟩ : ∃ N0, N0 = putN l i := ⟨_, rfl⟩
      rw [← hN0] at H hpl HZ0
      have HPl := Lib.hid hpl
      clear hc hc256 hB hpl hN0 hi1 HC HI
      have hd256 : decide ((256 : Int) ≤ (c : Int)) = false := decide_eq_false (by omega)
      rcases hgap.out with ⟨hz, hz0⟩ | ⟨hz, j, c', hij, hcy, hcc, hjl⟩
      · subst hz0
        rw [Addr.add_zero'] at hcx
        rw [show ((0 : Nat) : Int) = 0 from rfl] at HI1 ⊢
        clear hz hgap
        go_wp2_with fail
        go_loopw [] (fun wr => Hid (∃ n, N0 ≤ n ∧ n ≤ c ∧ DRel P l n w1 wr)) (fun wr => c - (intOf ((wr.cell? ⟨P, 1, none⟩).getD undef)).toNat)
        case atStart => exact Lib.hid ⟨_, Nat.le_refl _, HPl.out, H.out⟩
        case round =>
          obtain ⟨n, hn1, hn2, hn3⟩ := hrel.out
          obtain ⟨v1, k1, k2, k3⟩ := hn3
          have hcell := DRel.cell ⟨v1, k1, k2, k3⟩ (show n ≤ 256 by omega)
          have hlen := dir_take_len (l := l) (show n ≤ 256 by omega)
          have HK := Lib.hid (And.intro k1 (And.intro k2 k3))
          have HBs : Hid (P ≤ wr.heap.size) := Lib.hid (Nat.le_trans HPW.out k3.size)
          have HN := Lib.hid (And.intro hn1 hn2)
          have HBt := Lib.hid (bitwBits_any P P v1 _ wr k1)
          rw [hlen] at HBt
          have HLe : Hid (((dirB l).take n).length ≤ 900000) := Lib.hid (by omega)
          have HCell := Lib.hid hcell
          clear k1 k2 k3 hn1 hlen hrel hcell
          go_wp2_with fail
          refine HBt.out.mono ?_
          rintro e w2 ⟨rfl, rfl⟩
          by_cases hnc : n < c
          · have hz2 := HZ0.out n HN.out.1 hnc
            have HZ2 := Lib.hid hz2
            clear hz2
            go_wp2_with fail
            refine (put_any P P v1 _ 0 1 wr HK.out.1 HBs.out HLe.out (by decide) (by decide)).mono ?_
            rintro e w3 ⟨rfl, hp⟩
            have HP3 : Hid (DRel P l (n + 1) w1 w3) := Lib.hid (by
              have := PutRel.trans HK.out hp
              unfold DRel
              rw [HZ2.out, ← low_zero]; exact this)
            clear hp
            go_wp2_with fail
            go_roundw
            case rel => exact Lib.hid ⟨n + 1, by have := HN.out.1; omega, by omega, HP3.out⟩
            case measure =>
              rw [HP3.out.cell (by omega), HCell.out]
              simp [intOf]; omega
          · obtain rfl : n = c := by omega
            go_wp2_with fail
            refine (put_any P P v1 _ 1 1 wr HK.out.1 HBs.out HLe.out (by decide) (by decide)).mono ?_
            rintro e w3 ⟨rfl, hp⟩
            have HP3 : Hid (DRel P l (putN l i1) w1 w3) := Lib.hid (by
              have := PutRel.trans HK.out hp
              unfold DRel
              rw [HZ1.out, ← low_one]; exact this)
            clear hp
            go_wp2_with fail
            go_roundw
            case rel => exact ⟨i1, HI1.out.1, by first | (rw [HI1.out.2]; done) | (rw [HI1.out.2]; rfl) | (rw [HI1.out.2]; go_num), HP3.out⟩
            case measure => first | (simp [intOf]; done) | (simp [intOf]; omega)
      · clear hgap
        have hcd : decide (c ≤ c') = false := decide_eq_false (by omega)
        clear hcc
        go_wp2_with fail
        go_loopw [] (fun wr => Hid (∃ n, N0 ≤ n ∧ n ≤ c ∧ DRel P l n w1 wr)) (fun wr => c - (intOf ((wr.cell? ⟨P, 1, none⟩).getD undef)).toNat)
        case atStart => exact Lib.hid ⟨_, Nat.le_refl _, HPl.out, H.out⟩
        case round =>
          obtain ⟨n, hn1, hn2, hn3⟩ := hrel.out
          obtain ⟨v1, k1, k2, k3⟩ := hn3
          have hcell := DRel.cell ⟨v1, k1, k2, k3⟩ (show n ≤ 256 by omega)
          have hlen := dir_take_len (l := l) (show n ≤ 256 by omega)
          have HK := Lib.hid (And.intro k1 (And.intro k2 k3))
          have HBs : Hid (P ≤ wr.heap.size) := Lib.hid (Nat.le_trans HPW.out k3.size)
          have HN := Lib.hid (And.intro hn1 hn2)
          have HBt := Lib.hid (bitwBits_any P P v1 _ wr k1)
          rw [hlen] at HBt
          have HLe : Hid (((dirB l).take n).length ≤ 900000) := Lib.hid (by omega)
          have HCell := Lib.hid hcell
          clear k1 k2 k3 hn1 hlen hrel hcell
          go_wp2_with fail
          refine HBt.out.mono ?_
          rintro e w2 ⟨rfl, rfl⟩
          by_cases hnc : n < c
          · have hz2 := HZ0.out n HN.out.1 hnc
            have HZ2 := Lib.hid hz2
            clear hz2
            go_wp2_with fail
            refine (put_any P P v1 _ 0 1 wr HK.out.1 HBs.out HLe.out (by decide) (by decide)).mono ?_
            rintro e w3 ⟨rfl, hp⟩
            have HP3 : Hid (DRel P l (n + 1) w1 w3) := Lib.hid (by
              have := PutRel.trans HK.out hp
              unfold DRel
              rw [HZ2.out, ← low_zero]; exact this)
            clear hp
            go_wp2_with fail
            go_roundw
            case rel => exact Lib.hid ⟨n + 1, by have := HN.out.1; omega, by omega, HP3.out⟩
            case measure =>
              rw [HP3.out.cell (by omega), HCell.out]
              simp [intOf]; omega
          · obtain rfl : n = c := by omega
            go_wp2_with fail
            refine (put_any P P v1 _ 1 1 wr HK.out.1 HBs.out HLe.out (by decide) (by decide)).mono ?_
            rintro e w3 ⟨rfl, hp⟩
            have HP3 : Hid (DRel P l (putN l i1) w1 w3) := Lib.hid (by
              have := PutRel.trans HK.out hp
              unfold DRel
              rw [HZ1.out, ← low_one]; exact this)
            clear hp
            go_wp2_with fail
            go_roundw
            case rel => exact ⟨i1, HI1.out.1, by first | (rw [HI1.out.2]; done) | (rw [HI1.out.2]; rfl) | (rw [HI1.out.2]; go_num), HP3.out⟩
            case measure => first | (simp [intOf]; omega) | (simp [intOf]; done)
    · obtain rfl : i = l.length := by omega
      have hB := H.out.below HW0.out.1 (by have := HP.out; omega)
      have hpn := putN_hi HR.out.2.1 (Nat.le_refl l.length)
      obtain ⟨v1, k1, k2, k3⟩ := H.out
      have hE := dir_end HR.out.2.1
      obtain ⟨n, hn⟩ : ∃ n, n = putN l l.length := ⟨_, rfl⟩
      rw [← hn] at k1 hE hpn
      have hlen := dir_take_len (l := l) hpn
      obtain ⟨bs, hbs⟩ : ∃ bs, bs = (dirB l).take n := ⟨_, rfl⟩
      rw [← hbs] at k1 hE hlen
      have HK := Lib.hid k1
      have HE := Lib.hid hE
      have HB := Lib.hid hB
      have hbl : (packB bs).length = (n + 7) / 8 := by rw [packB_len, hlen]
      have HL := Lib.hid (And.intro hlen hbl)
      obtain ⟨pb, hpb⟩ : ∃ pb, pb = packB bs := ⟨_, rfl⟩
      obtain ⟨q, hq⟩ : ∃ q, q = (n + 7) / 8 := ⟨_, rfl⟩
      have hq32 : q ≤ 32 := by omega
      rw [← hpb, ← hq] at HE
      have hpq : pb.length = q := by rw [hpb, hq]; exact hbl
      have HPQ := Lib.hid (And.intro hpb hpq)
      clear k1 k2 k3 hE hB hn hlen hbs hbl hpb hq hpq
      go_wp2_with fail
      refine (bytes_any P P v1 bs wr HK.out (by have := HL.out.1; omega)).mono ?_
      rintro e w2 ⟨u2, rfl, hu2, hb2⟩
      rw [← HPQ.out.1] at hu2
      obtain ⟨A2, c2, rfl⟩ := Kd.R_slice hu2
      rw [HPQ.out.2] at hu2 ⊢
      have HK2 : Hid (WrVal w2 P P v1 bs) := Lib.hid ⟨blk_below HK.out.blk hb2, Kd.R_below HK.out.row hb2⟩
      have HU2 := Lib.hid hu2
      have HB2 := Lib.hid (below_tr HB.out hb2)
      clear hu2 hb2
      go_wp2_with fail
      refine (bytes_any P P v1 bs w2 HK2.out (by have := HL.out.1; omega)).mono ?_
      rintro e w3 ⟨u3, rfl, hu3, hb3⟩
      rw [← HPQ.out.1] at hu3
      obtain ⟨A3, c3, rfl⟩ := Kd.R_slice hu3
      rw [HPQ.out.2] at hu3 ⊢
      have HU3 : Hid ((Kd.int .u8).R 5 w3 w.heap.size (fun _ => True) (.slice A2 q c2) pb) := Lib.hid (Kd.R_lower (Kd.R_below HU2.out hb3) HB.out.size)
      have HB3 := Lib.hid (below_tr HB2.out hb3)
      have HS3 := Lib.hid HB3.out.size
      have HLn : Hid ((pb.length + ((32 : Int) - (q : Int)).toNat) * 1 ≤ 140737488355328) := Lib.hid (by have := HPQ.out.2; omega)
      have hge : (0 : Int) ≤ 32 - (q : Int) := by omega
      have HGe := Lib.hid hge
      clear hu3 hb3
      go_wp2_with (at_builtin; refine Kd.R_append_zeros (Kd.int .u8) (w0 := w) (W := w3) w.heap.size rfl (.tmp 49) (.tmp 53) 22 3 5 (.int .u8 0) 1 rfl Tryz.underlying22 (k := .i64) Tryz.underlying3 infoU8 rfl (by decide) (by decide) (.slice A2 q c2) pb (0 : Int) (kx := .i64) (32 - (q : Int)) (fun _ => True) rfl rfl rfl (fun _ _ => trivial) HU3.out HGe.out HB3.out HS3.out HLn.out ?_; intro v4 w4 hr4 hb4 hg4 hat4; have HA4 := Lib.hid (And.intro hr4 hb4); clear hr4 hb4 hg4 hat4)
      go_ret2
      refine ⟨v4, rfl, ?_, HA4.out.2⟩
      rw [HE.out]
      have h9 := HA4.out.1
      rw [show ((32 : Int) - (q : Int)).toNat = 32 - q by omega] at h9
      exact h9
end Go.Proofs.YtdkemdcflbadhaaGreat
namespace Go.Proofs.YtdkemdcflbadhaaGreat
open Go.RowKit Go.IntWalk Go.Proofs.YtdkemdcflbadhaaGreatW.PrintWords
theorem hdrsB_app (r : Nat) (qs : List (List Int)) (c : Int) : ∀ l : List Int, hdrsB r qs (l ++ [c]) = hdrsB r qs l ++ hdrB (qs.getD c.toNat []) 257 0 (2 ^ r)
  | [] => by simp [hdrsB]
  | x :: l => by
    show hdrB _ 257 0 (2 ^ r) ++ hdrsB r qs (l ++ [c]) = (hdrB _ 257 0 (2 ^ r) ++ hdrsB r qs l) ++ _
    rw [hdrsB_app r qs c l, List.append_assoc]
theorem hdrsB_len {r : Nat} {qs : List (List Int)} (hr9 : r ≤ 9) : ∀ l : List Int, (∀ c ∈ l, Nrm (qs.getD c.toNat []) r) → (hdrsB r qs l).length ≤ l.length * 3072
  | [], _ => by simp [hdrsB]
  | x :: l, h => by
    have hn := h x (by simp)
    have ih := hdrsB_len hr9 l (fun c hc => h c (by simp [hc]))
    have e2 : (2 : Int) ^ r = ((2 ^ r : Nat) : Int) := by simp
    have h1 := hdrB_len hn.r12 hn.len hn.nn 257 0 (2 ^ r) (by omega) (by rw [List.drop_zero, hn.sum, e2]) (by rw [Nat.pow_succ]; have := Nat.two_pow_pos r; omega)
    have h2 : (256 - 0) * (r + 3) ≤ 256 * 12 := Nat.mul_le_mul (by omega) (by omega)
    show (hdrB _ 257 0 (2 ^ r) ++ hdrsB r qs l).length ≤ _
    rw [List.length_append, List.length_cons]; omega
def head1L (r : Nat) (qs : List (List Int)) (l : List Int) : List Int := [(r : Int)] ++ dirL l ++ packB (hdrsB r qs l)
def Head1Post (r : Nat) (qs : List (List Int)) (l : List Int) (w : World) (e : Ending) (w' : World) : Prop := ∃ v, e = .returned v ∧ (Kd.int .u8).R 5 w' w.heap.size (fun _ => True) v (head1L r qs l) ∧ Below w.heap.size w w'
set_option maxRecDepth 100000 in
set_option maxHeartbeats 4000000 in
theorem head1_any (r c cl : Nat) (A Al : Option Addr) (qs : List (List Int)) (l : List Int) (w : World) (hr : kq.C w A qs.length qs) (hq : qs.length = 256) (hl : (Kd.int .i64).C w Al l.length l) (hA : Asc l) (hll : l.length ≤ 256) (hr9 : r ≤ 9) (hN : ∀ c ∈ l, Nrm (qs.getD c.toNat []) r) :
    Calls Tryz.prog 53 #[.agg #[.int .i64 r, .bool false, .slice A 256 c], .slice Al l.length cl] w (Head1Post r qs l w) := by
  obtain ⟨W, hW⟩ : ∃ W, W = w.alloc (.cells #[.int .i64 r, .bool false, .slice A 256 c] 31) := ⟨_, rfl⟩
  have hb1 : Below w.heap.size w W := by rw [hW]; exact (Below.refl _ _).alloc (Nat.le_refl _) _
  have hk1 : W.heap[w.heap.size]? = some (.cells #[.int .i64 r, .bool false, .slice A 256 c] 31 (0, 0)) := by rw [hW]; exact blk_new _ _
  obtain ⟨mb, hmb⟩ : ∃ mb, mb = w.heap.size := ⟨_, rfl⟩
  rw [← hmb] at hk1
  have HMb := Lib.hid hmb
  have HR := Lib.hid (And.intro hr (And.intro hl (And.intro hA (And.intro hll (And.intro hN hq)))))
  have H1 := Lib.hid (And.intro hb1 hk1)
  have hll2 : l.length ≤ 256 := hll
  clear hr hq hl hA hll hN hb1 hk1
  go_enter Tryz.func53, Tryz.ntmps53
  go_wp2_with fail
  rw [← hW, ← hmb]
  clear hW hmb
  refine (dirPut_any Al cl l W (Kd.C_below HR.out.2.1 H1.out.1) HR.out.2.2.1 HR.out.2.2.2.1).mono ?_
  rintro e w2 ⟨vd, rfl, hvd, hb2⟩
  obtain ⟨Ad, cd, rfl⟩ := Kd.R_slice hvd
  rw [dirL_len] at hvd ⊢
  have HD := Lib.hid (Kd.R_reads' hvd).2.2
  have HB2 := Lib.hid (below_tr H1.out.1 hb2)
  have HK2 := Lib.hid (blk_below H1.out.2 hb2)
  clear hvd hb2
  go_wp2_with fail
  refine (bitwNew_any _).mono ?_
  rintro e w3 ⟨rfl, hw3⟩
  have hw0 : WrVal w3 w2.heap.size w2.heap.size (.slice none 0 0) [] := by rw [hw3]; exact wr_new w2
  have hb3 : Below w2.heap.size w2 w3 := by rw [hw3]; exact (Below.refl _ _).alloc (Nat.le_refl _) _
  obtain ⟨P, hP⟩ : ∃ P, P = w2.heap.size := ⟨_, rfl⟩
  rw [← hP] at hw0 ⊢
  have HW0 := Lib.hid (And.intro hw0 (And.intro hb3 hP))
  have HB3 := Lib.hid (below_tr HB2.out hb3)
  clear hw3 hw0 hb3 hP
  go_wp2_with fail
  go_loopw [18] (fun kv wr => ∃ i : Nat, i ≤ l.length ∧ kv = .int .i64 i ∧ Hid (PutRel P P (.slice none 0 0) (hdrsB r qs (l.take i)) w3 wr)) (fun kv _ => l.length - (intOf kv).toNat)
  case atStart => exact ⟨0, by omega, rfl, Lib.hid ⟨_, HW0.out.1, .inl rfl, Only.refl _ _⟩⟩
  case round =>
    obtain ⟨i, hi, rfl, H⟩ := hrel
    have hBw2 : Below w2.heap.size w2 wr := PutRel.bel H.out HW0.out.2.1 (by have := HW0.out.2.2; omega) (fun k hk => by simp [Value.ownBlock] at hk)
    have hBw : Below w.heap.size w wr := HB2.out.trans (hBw2.mono HB2.out.size)
    obtain ⟨⟨ka, kb, kc⟩, -⟩ := cell3 (blk_below HK2.out hBw2)
    by_cases hlt : i < l.length
    · obtain ⟨cx, hc, hc256⟩ := HR.out.2.2.1.get hlt
      obtain ⟨ad, hA2, hcx⟩ := ints_get (Kd.C_below HR.out.2.1 hBw) i hlt
      subst hA2
      rw [hc] at hcx
      have hm := hd_mem hlt
      rw [hc] at hm
      have hn := HR.out.2.2.2.2.1 _ hm
      rw [Int.toNat_natCast] at hn
      obtain ⟨aq, B, cq, hA3, hcq', -, hCq⟩ := kq_at HR.out.1 cx (by rw [HR.out.2.2.2.2.2]; exact hc256)
      subst hA3
      rw [hn.len] at hcq' hCq
      have hcq := pw_cell_below hBw hcq'
      have HCq := Lib.hid hCq
      have HBw := Lib.hid (And.intro hBw hBw2)
      clear hcq'
      have ht : l.take (i + 1) = l.take i ++ [(cx : Int)] := by rw [List.take_succ_eq_append_getElem hlt, ← hc, List.getD_eq_getElem?_getD, List.getElem?_eq_getElem hlt, Option.getD_some]
      have hs : hdrsB r qs (l.take (i + 1)) = hdrsB r qs (l.take i) ++ hdrB (qs.getD cx []) 257 0 (2 ^ r) := by rw [ht, hdrsB_app, Int.toNat_natCast]
      have hlb := hdrsB_len (r := r) (qs := qs) hr9 (l.take i) (fun x hx => HR.out.2.2.2.2.1 x (List.mem_of_mem_take hx))
      have hlb2 : (hdrsB r qs (l.take i)).length ≤ 800000 := by rw [List.length_take] at hlb; omega
      have HS := Lib.hid hs
      have HN := Lib.hid (And.intro hn hlb2)
      have hc2 : (cx : Int) < 256 := by omega
      obtain ⟨v1, k1, k2, k3⟩ := H.out
      have HK := Lib.hid (And.intro k1 (And.intro k2 k3))
      have HBs : Hid (P ≤ wr.heap.size) := Lib.hid (Nat.le_trans (by have := HW0.out.2.2; have := HW0.out.2.1.size; omega) k3.size)
      clear hc hm hn hCq ht hs hlb hlb2 k1 k2 k3 hBw2 hBw
      go_wp2_with fail
      refine (hput_any P P cq r B v1 (hdrsB r qs (l.take i)) (qs.getD cx []) w wr HK.out.1 HBs.out HN.out.2 HCq.out HBw.out.1 (by have := HW0.out.2.2; have := HB2.out.size; omega) (by have := HW0.out.2.2; have := HB2.out.size; omega) HN.out.1).mono ?_
      rintro e w5 ⟨rfl, hp⟩
      have HP5 := Lib.hid (PutRel.trans HK.out hp)
      clear hp
      go_wp2_with fail
      go_roundw
      case rel => exact ⟨i + 1, by omega, by go_num, Lib.hid (by rw [HS.out]; exact HP5.out)⟩
      case measure => first | (simp [intOf]; done) | (simp [intOf]; omega)
    · obtain rfl : i = l.length := by omega
      rw [List.take_length] at H
      obtain ⟨v1, k1, k2, k3⟩ := H.out
      have hlb := hdrsB_len (r := r) (qs := qs) hr9 l HR.out.2.2.2.2.1
      have HX := Lib.hid (And.intro k1 (by omega : (hdrsB r qs l).length ≤ 800000))
      obtain ⟨X, hX⟩ : ∃ X, X = packB (hdrsB r qs l) := ⟨_, rfl⟩
      have HXX := Lib.hid hX
      have HXl : Hid (X.length ≤ 100001) := Lib.hid (by rw [hX, packB_len]; omega)
      have HBw := Lib.hid hBw
      have HD2 := Lib.hid (Kd.C_below HD.out hBw2)
      have hDl := dirL_len l
      obtain ⟨D, hD⟩ : ∃ D, D = dirL l := ⟨_, rfl⟩
      rw [← hD] at HD2 hDl
      have HDD := Lib.hid (And.intro hD hDl)
      clear k1 k2 k3 hlb hBw hBw2 hX hD hDl H
      have hrw : IntKind.u8.wrap (r : Int) = (r : Int) := by rw [IntKind.wrap_u8]; omega
      have hWl : Below w.heap.size w (wr.alloc (.cells #[.int .u8 (r : Int)] 5)) := HBw.out.alloc HBw.out.size _
      have HWl := Lib.hid (And.intro hWl hWl.size)
      have HO1 : Hid ((Kd.int .u8).R 5 (wr.alloc (.cells #[.int .u8 (r : Int)] 5)) w.heap.size (fun _ => True) (.slice (some ⟨wr.heap.size, 0, none⟩) 1 1) [(r : Int)]) := Lib.hid (row_lit .u8 5 wr w.heap.size (fun _ => True) trivial HBw.out.size [(r : Int)] (by simp))
      have HD3 : Hid ((Kd.int .u8).C (wr.alloc (.cells #[.int .u8 (r : Int)] 5)) Ad 32 D) := Lib.hid (by have := Kd.C_alloc HD2.out (.cells #[.int .u8 (r : Int)] 5); rw [HDD.out.2] at this; exact this)
      have HL1 : Hid ((([(r : Int)] : List Int).length + 32) * 1 ≤ 140737488355328) := Lib.hid (by simp)
      have HWr : Hid (WrVal wr P P v1 (hdrsB r qs l)) := HX.out.1
      have HWr2 : Hid (WrVal (wr.alloc (.cells #[.int .u8 (r : Int)] 5)) P P v1 (hdrsB r qs l)) := Lib.hid ⟨blk_alloc HX.out.1.blk _, Kd.R_alloc HX.out.1.row _⟩
      have HZ33 : Hid (([(r : Int)] ++ D).length = 33) := Lib.hid (by rw [List.length_append, HDD.out.2]; rfl)
      clear hWl
      go_wp2_with (at_builtin; refine Kd.R_append_rows (Kd.int .u8) (Rr := (Kd.int .u8).K (wr.alloc (.cells #[.int .u8 (r : Int)] 5))) (w0 := w) (W := wr.alloc (.cells #[.int .u8 (r : Int)] 5)) w.heap.size rfl (.tmp 33) (.tmp 34) 22 5 (.int .u8 0) 1 rfl Tryz.underlying22 infoU8 rfl (by decide) (by decide) (.slice (some ⟨wr.heap.size, 0, none⟩) 1 1) [(r : Int)] D Ad 32 cd (fun _ => True) (fun _ => False) rfl rfl HO1.out HD3.out (fun _ _ h => h) (fun _ h => h.elim) (fun _ _ => trivial) HWl.out.1 HWl.out.2 HL1.out ?_; intro vi w5 hr5 hb5 hg5 hat5; have HG5 := Lib.hid (And.intro hg5 hat5); obtain ⟨A5, c5, rfl⟩ := Kd.R_slice hr5; rw [HZ33.out] at hr5 ⊢; have HR5 := Lib.hid (And.intro hr5 hb5); clear hr5 hb5 hg5 hat5)
      have HW5 : Hid (WrVal w5 P P v1 (hdrsB r qs l)) := Lib.hid ⟨blk_grown HWr2.out.blk HG5.out.1 (fun e => by have := blk_lt HWr.out.blk; simp [Value.ownBlock] at e; omega), Kd.R_mono (Kd.R_grown (Kd.R_alloc (Kd.R_bound HWr.out.row) _) HG5.out.1 (fun k hk e => by have := hk.2.2.1; simp [Value.ownBlock] at e; omega)) (fun k hk => hk.1)⟩
      have HX8 : Hid ((hdrsB r qs l).length ≤ 900000) := Lib.hid (by have := HX.out.2; omega)
      obtain ⟨Z, hZ⟩ : ∃ Z, Z = [(r : Int)] ++ D := ⟨_, rfl⟩
      rw [← hZ] at HR5
      have HZ := Lib.hid (And.intro hZ (by rw [hZ]; exact HZ33.out : Z.length = 33))
      clear hZ
      refine (bytes_any P P v1 _ w5 HW5.out HX8.out).mono ?_
      rintro e w6 ⟨v6, rfl, hv6, hb6⟩
      rw [← HXX.out] at hv6
      obtain ⟨A6, c6, rfl⟩ := Kd.R_slice hv6
      have HO6 := Lib.hid (Kd.R_below HR5.out.1 hb6)
      have HX6 := Lib.hid (Kd.R_reads' hv6).2.2
      have HB6 := Lib.hid (And.intro (below_tr HR5.out.2 hb6) (below_tr HR5.out.2 hb6).size)
      have HL6 : Hid ((Z.length + X.length) * 1 ≤ 140737488355328) := Lib.hid (by have := HZ.out.2; have := HXl.out; omega)
      clear hv6 hb6
      go_wp2_with (at_builtin; refine Kd.R_append_rows (Kd.int .u8) (Rr := (Kd.int .u8).K w6) (w0 := w) (W := w6) w.heap.size rfl (.tmp 35) (.tmp 37) 22 5 (.int .u8 0) 1 rfl Tryz.underlying22 infoU8 rfl (by decide) (by decide) (.slice A5 33 c5) Z X A6 X.length c6 (fun _ => True) (fun _ => False) rfl rfl HO6.out HX6.out (fun _ _ h => h) (fun _ h => h.elim) (fun _ _ => trivial) HB6.out.1 HB6.out.2 HL6.out ?_; intro v7 w7 hr7 hb7 hg7 hat7; have HR7 := Lib.hid (And.intro hr7 hb7); clear hr7 hb7 hg7 hat7)
      go_ret
      refine ⟨v7, rfl, ?_, HR7.out.2⟩
      unfold head1L
      rw [← HXX.out, ← HDD.out.1, ← HZ.out.1]
      exact HR7.out.1
end Go.Proofs.YtdkemdcflbadhaaGreat
namespace Go.Proofs.YtdkemdcflbadhaaGreat
open Go.RowKit Go.IntWalk Go.Proofs.YtdkemdcflbadhaaGreatW.PrintWords
theorem first_nrm {b : List Int} (hb : Bytes b) (hl : b.length ≤ 1000000) : ∀ c ∈ presN b 256, Nrm ((firstL b).getD c.toNat []) (firstR b) := by
  intro c hc
  have hr := firstR_ok b
  obtain ⟨i, hi, e⟩ := mem_getD hc
  obtain ⟨c', h1, h2, h3⟩ := presN_get b hi
  have : c = (c' : Int) := by rw [← e, h1]
  subst this
  rw [Int.toNat_natCast, firstL_get b h2]
  obtain ⟨n1, n2, n3⟩ := firstQ_nrm hb hl h2 h3
  exact ⟨n1, n2, n3, by omega, by omega⟩
/-- later -/
def SLater (W1 W : World) : Prop := Below W1.heap.size W1 W
theorem SLater.keep {W1 W w' : World} (h : SLater W1 W) (hb : Below W.heap.size W w') : SLater W1 w' := below_tr h hb
theorem SLater.drew {W1 W : World} (h : SLater W1 W) : SLater W1 W.drew := Below.drew h
def Enc1Post (b : List Int) (w : World) (e : Ending) (w' : World) : Prop := ∃ v, e = .returned (.tuple #[v, .int .i64 0]) ∧ (Kd.int .u8).R 5 w' w.heap.size (fun _ => True) v (body1L b) ∧ Below w.heap.size w w'
set_option maxRecDepth 100000 in
set_option maxHeartbeats 4000000 in
theorem encode1_any (A : Option Addr) (cp : Nat) (b : List Int) (w : World) (hr : (Kd.int .u8).C w A b.length b) (hb : Bytes b) (hl : b.length ≤ 40000) (h0 : 0 < b.length) :
    Calls Tryz.prog 21 #[.slice A b.length cp] w (Enc1Post b w) := by
  have HR := Lib.hid (And.intro hr (And.intro hb (And.intro hl h0)))
  have HCan : Hid (canM (firstR b : Nat) false (firstL b) b = true) := of_can (one := false) hb (by omega) h0
  have HZ := Lib.hid (modelFirst_any A cp b w hr hb (by omega) h0)
  have HRok := Lib.hid (firstR_ok b)
  have HFit := Lib.hid (encBits_len (can_log HCan.out).1 hb)
  have HNr := Lib.hid (first_nrm hb (by omega : b.length ≤ 1000000))
  obtain ⟨r, hr'⟩ : ∃ r, r = firstR b := ⟨_, rfl⟩
  obtain ⟨q, hq'⟩ : ∃ q, q = firstL b := ⟨_, rfl⟩
  have HQl : Hid (q.length = 256) := Lib.hid (by rw [hq']; exact firstL_len b)
  have HRQ := Lib.hid (And.intro hr' hq')
  rw [← hr', ← hq'] at HCan HFit HNr
  rw [← hr'] at HRok
  obtain ⟨L, hL⟩ : ∃ L, L = presN b 256 := ⟨_, rfl⟩
  have HL : Hid (L = presN b 256 ∧ Asc L ∧ L.length ≤ 256) := Lib.hid ⟨hL, by rw [hL]; exact pres_asc h0, by rw [hL]; exact presN_len b 256⟩
  rw [← hL] at HNr
  clear hr hb hl h0 hL
  go_enter Tryz.func21, Tryz.ntmps21
  go_wp2_with fail
  refine HZ.out.mono ?_
  rintro e w1 (⟨h, _⟩ | ⟨_, Av, cv, rfl, hv, hb1⟩)
  · have := HR.out.2.2.2; omega
  rw [← hr']
  rw [← hq'] at hv
  have HV := Lib.hid (Kd.R_reads' hv).2.2
  have HB1 := Lib.hid hb1
  clear hv hb1 hr' hq'
  obtain ⟨w2, hw2⟩ : ∃ w2, w2 = w1.alloc (.cells #[.int .i64 r, .bool false, .slice Av 256 cv] 31) := ⟨_, rfl⟩
  have HB2 : Hid (Below w.heap.size w w2) := Lib.hid (by rw [hw2]; exact HB1.out.alloc HB1.out.size _)
  have HV2 : Hid (kq.C w2 Av q.length q) := Lib.hid (by rw [hw2]; exact Kd.C_alloc HV.out _)
  have hk2 : w2.heap[w1.heap.size]? = some (.cells #[.int .i64 r, .bool false, .slice Av 256 cv] 31 (0, 0)) := by rw [hw2]; exact blk_new _ _
  obtain ⟨mb, hmb⟩ : ∃ mb, mb = w1.heap.size := ⟨_, rfl⟩
  rw [← hmb] at hk2
  have HK2 := Lib.hid hk2
  clear hk2
  have HEnc := encodeL_any (r : Nat) false Av cv q A cp b w2 HV2.out (by have := HQl.out; omega) (Kd.C_below HR.out.1 HB2.out) HR.out.2.1 (by have := HR.out.2.2.1; omega)
  rw [HQl.out] at HEnc
  have HE := Lib.hid HEnc
  clear HEnc
  go_wp2_with fail
  rw [← hw2, ← hmb]
  clear hw2 hmb
  refine HE.out.mono ?_
  rintro e w3 ⟨_, h2, hb3⟩
  obtain ⟨vp, rfl, hvp⟩ := h2 HCan.out
  obtain ⟨Ap, cpp, rfl⟩ := Kd.R_slice hvp
  have HB3 : Hid (Below w.heap.size w w3) := Lib.hid (HB2.out.trans (hb3.mono HB2.out.size))
  have hk3 := blk_below HK2.out hb3
  have HV3 : Hid (kq.C w3 Av q.length q) := Lib.hid (Kd.C_below HV2.out hb3)
  have HP3 := Lib.hid (Kd.R_reads' hvp).2.2
  obtain ⟨Pl, hPl⟩ : ∃ Pl, Pl = packB (encBits (r : Nat) false q b ++ [true]) := ⟨_, rfl⟩
  have HPl := Lib.hid hPl
  rw [← hPl] at HP3 ⊢
  have HPlen : Hid (Pl.length ≤ 700000) := Lib.hid (by
    rw [hPl, packB_len, List.length_append]
    have := HFit.out; have := HR.out.2.2.1; simp only [List.length_singleton]; omega)
  have HK3 := Lib.hid hk3
  obtain ⟨⟨ka, kb, kc⟩, -⟩ := cell3 hk3
  have s0 : SLater w3 w3 := Below.refl _ _
  have HPres : Hid (∀ W : World, SLater w3 W → Calls Tryz.prog 30 #[.slice A b.length cp] W fun e w' => ∃ Al cl, e = .returned (.slice Al L.length cl) ∧ (Kd.int .i64).C w' Al L.length L ∧ Below W.heap.size W w') := Lib.hid fun W hW => by
    refine (ctxPresent_any A cp b W (Kd.C_below HR.out.1 (HB3.out.trans (Below.mono hW HB3.out.size))) (by have := HR.out.2.2.1; omega) HR.out.2.1).mono ?_
    rintro e w' ⟨v, rfl, hv, hb⟩
    obtain ⟨Al, cl, rfl⟩ := Kd.R_slice hv
    rw [← HL.out.1] at hv ⊢
    exact ⟨Al, cl, rfl, (Kd.R_reads' hv).2.2, hb⟩
  have HHead : Hid (∀ (W : World) (Al : Option Addr) (cl : Nat), SLater w3 W → (Kd.int .i64).C W Al L.length L → Calls Tryz.prog 53 #[.agg #[.int .i64 r, .bool false, .slice Av 256 cv], .slice Al L.length cl] W fun e w' => ∃ Ah ch, e = .returned (.slice Ah (head1L r q L).length ch) ∧ (Kd.int .u8).R 5 w' w3.heap.size (fun _ => True) (.slice Ah (head1L r q L).length ch) (head1L r q L) ∧ Below W.heap.size W w') := Lib.hid fun W Al cl hW hC => by
    refine (head1_any r cv cl Av Al q L W (Kd.C_below HV3.out hW) HQl.out hC HL.out.2.1 HL.out.2.2 (by have := HRok.out; omega) HNr.out).mono ?_
    rintro e w' ⟨v, rfl, hv, hb⟩
    obtain ⟨Ah, ch, rfl⟩ := Kd.R_slice hv
    exact ⟨Ah, ch, rfl, Kd.R_lower hv (Below.size hW), hb⟩
  have HHl : Hid ((head1L r q L).length ≤ 200000) := Lib.hid (by
    have h1 := hdrsB_len (r := r) (qs := q) (by have := HRok.out; omega) L HNr.out
    have h2 := HL.out.2.2
    unfold head1L
    rw [List.length_append, List.length_append, dirL_len, packB_len, List.length_singleton]; omega)
  obtain ⟨Hd, hHd⟩ : ∃ Hd, Hd = head1L r q L := ⟨_, rfl⟩
  rw [← hHd] at HHead HHl
  have HHd := Lib.hid hHd
  have HLn : Hid ((Hd.length + Pl.length) * 1 ≤ 140737488355328) := Lib.hid (by have := HHl.out; have := HPlen.out; omega)
  clear h2 hb3 hvp hk3 hPl hHd
  go_wp2_with fail
  go_region_law (first
    | (go_simp; go_at_call 30; refine (HPres.out _ (by first | assumption | exact SLater.drew ‹_›)).mono ?_; rintro e w' ⟨Al, cl, rfl, hcl, hb⟩; have s1 := (by first | exact SLater.keep ‹_› hb | exact SLater.keep (SLater.drew ‹_›) hb : SLater w3 w'); obtain ⟨⟨ka, kb, kc⟩, -⟩ := cell3 (blk_below HK3.out s1))
    | (go_simp; go_at_call 53; refine (HHead.out _ _ _ (by first | assumption | exact SLater.drew ‹_›) (by first | assumption | exact Kd.C_drew ‹_›)).mono ?_; rintro e w' ⟨Ah, ch, rfl, hvh, hb⟩; have s1 := (by first | exact SLater.keep ‹_› hb | exact SLater.keep (SLater.drew ‹_›) hb : SLater w3 w'); have HVH := Lib.hid (And.intro hvh s1); clear hvh hb)
    | (refine Kd.R_append_rows_step (Kd.int .u8) (Rr := (Kd.int .u8).K w') (w0 := w) (W := w') w.heap.size rfl (.tmp 27) (.tmp 28) 22 5 (.int .u8 0) 1 rfl Tryz.underlying22 infoU8 rfl (by decide) (by decide) _ Hd Pl Ap Pl.length cpp (fun _ => True) (fun _ => False) rfl rfl (Kd.R_lower HVH.out.1 HB3.out.size) (Kd.C_below HP3.out HVH.out.2) (fun _ _ h => h) (fun _ h => h.elim) (fun _ _ => trivial) (HB3.out.trans (Below.mono HVH.out.2 HB3.out.size)) (Nat.le_trans HB3.out.size (Below.size HVH.out.2)) HLn.out ?_; intro v9 w9 hr9 hb9 hg9 hat9; have HA := Lib.hid (And.intro hr9 hb9); clear hr9 hb9 hg9 hat9))
  all_goals
    go_wp2_with fail
    go_ret2
    refine ⟨v9, rfl, ?_, HA.out.2⟩
    have h9 := HA.out.1
    have e : body1L b = Hd ++ Pl := by unfold body1L; rw [HHd.out, HPl.out, HRQ.out.1, HRQ.out.2, HL.out.1]; rfl
    rw [e]; exact h9
theorem encode1_told (A : Option Addr) (cp : Nat) (b : List Int) (w : World) (hr : (Kd.int .u8).C w A b.length b) (hb : Bytes b) (hl : b.length ≤ 40000) (h0 : 0 < b.length) :
    Calls Tryz.prog 21 #[.slice A b.length cp] w (Told 0 (body1L b) w) := by
  refine (encode1_any A cp b w hr hb hl h0).mono ?_
  rintro e w' ⟨v, rfl, hv, hbl⟩
  obtain ⟨A1, c1, rfl⟩ := Kd.R_slice hv
  exact ⟨A1, c1, rfl, hv, hbl⟩
end Go.Proofs.YtdkemdcflbadhaaGreat
namespace Go.Proofs.YtdkemdcflbadhaaGreat
open Go.RowKit Go.IntWalk Go.Proofs.YtdkemdcflbadhaaGreatW.PrintWords
theorem b7one : Bytes [7] := by intro x hx; simp at hx; omega
theorem baw1X : Bytes aw1X := by rw [← aw1_enc]; exact body1L_bytes _
set_option maxRecDepth 100000 in
set_option maxHeartbeats 2000000 in
theorem awake20_any (w : World) : Calls Tryz.prog 20 #[] w (Ret (.bool true) w) := by
  obtain ⟨w1, hw1⟩ : ∃ w1, w1 = w.alloc (.cells #[.int .u8 7] 5) := ⟨_, rfl⟩
  have HB1 : Hid (Below w.heap.size w w1) := by show Below _ _ _; rw [hw1]; exact (Below.refl _ _).alloc (Nat.le_refl _) _
  have HS1 : Hid (BSl w1 (some ⟨w.heap.size, 0, none⟩) 1 [7]) := by show BSl _ _ _ _; rw [hw1]; exact lit_row [7] b7one (by decide)
  go_enter Tryz.func20, Tryz.ntmps20
  go_wp2_with fail
  rw [← hw1]
  clear hw1
  have h2 := encode1_told (some ⟨w.heap.size, 0, none⟩) 1 [7] w1 HS1.out.row b7one (by decide) (by decide)
  rw [aw1_enc] at h2
  refine h2.mono ?_
  clear h2
  intro e w2 h2
  obtain ⟨A2, c2, rfl, hs2, hb2⟩ := h2.out baw1X
  obtain ⟨X, hX⟩ : ∃ X, X = aw1X := ⟨_, rfl⟩
  have HXl : Hid (X.length = 38) := by show _ = _; rw [hX]; rfl
  have HDc : Hid (dec1M X 1 = (0, [7])) := by show _ = _; rw [hX]; exact aw1_dec
  have HXX := Lib.hid hX
  rw [← hX] at hs2 ⊢
  have HB2 := Lib.hid (below_tr HB1.out hb2)
  have HS2 := Lib.hid hs2
  clear h2 hs2 hb2 hX
  go_wp2_with fail
  have h3 := decode1_any A2 c2 X 1 w2 HS2.out.row HS2.out.by' (by have := HXl.out; omega) HS2.out.cap
  rw [HDc.out] at h3
  refine h3.mono ?_
  intro e w3 h3
  obtain ⟨A3, c3, rfl, hs3, hb3⟩ := h3.told.out b7one
  have HB3 := Lib.hid (below_tr HB2.out hb3)
  have HS3 := Lib.hid hs3
  have HS23 := Lib.hid (HS2.out.below hb3)
  clear h3 hs3 hb3
  have hb34 : Below w3.heap.size w3 (w3.alloc (.cells #[.int .u8 5, .int .u8 1] 5)) := (Below.refl _ _).alloc (Nat.le_refl _) _
  have HO4 : Hid ((Kd.int .u8).R 5 (w3.alloc (.cells #[.int .u8 5, .int .u8 1] 5)) w3.heap.size (fun _ => True) (.slice (some ⟨w3.heap.size, 0, none⟩) 2 2) [5, 1]) := Lib.hid (row_lit .u8 5 w3 w3.heap.size (fun _ => True) trivial (Nat.le_refl _) [5, 1] (by simp))
  have HB34 := Lib.hid hb34
  have HS34 := Lib.hid hb34.size
  clear hb34
  have HZ : Hid ((([5, 1] : List Int) ++ List.replicate (31 : Int).toNat (0 : Int)).length = 33) := Lib.hid rfl
  have HX38 : Hid ((([5, 1] : List Int) ++ List.replicate (31 : Int).toNat (0 : Int)) ++ [192, 3, 2, 0, 4] = X) := Lib.hid (by rw [HXX.out]; rfl)
  go_wp2_with (at_builtin; first
    | (refine Kd.R_append_zeros (Kd.int .u8) (w0 := w3) (W := w3.alloc (.cells #[.int .u8 5, .int .u8 1] 5)) w3.heap.size rfl (.tmp 16) (.const (.int .i64 31)) 22 3 5 (.int .u8 0) 1 rfl Tryz.underlying22 (k := .i64) Tryz.underlying3 infoU8 rfl (by decide) (by decide) (.slice (some ⟨w3.heap.size, 0, none⟩) 2 2) [5, 1] (0 : Int) (kx := .i64) 31 (fun _ => True) rfl rfl rfl (fun _ _ => trivial) HO4.out (by decide) HB34.out HS34.out (by decide) ?_
       intro v5 w5 hr5 hb5 hg5 hat5
       obtain ⟨A5, c5, rfl⟩ := Kd.R_slice hr5
       obtain ⟨z33, hz33⟩ : ∃ z, z = ([5, 1] : List Int) ++ List.replicate (31 : Int).toNat (0 : Int) := ⟨_, rfl⟩
       rw [← hz33] at hr5 HZ HX38 ⊢
       rw [HZ.out] at hr5 ⊢
       have hb6 : Below w3.heap.size w3 (w5.alloc (.cells #[.int .u8 192, .int .u8 3, .int .u8 2, .int .u8 0, .int .u8 4] 5)) := hb5.alloc hb5.size _
       have HB6 := Lib.hid hb6
       have HS6 := Lib.hid hb6.size
       have HO6 : Hid ((Kd.int .u8).R 5 (w5.alloc (.cells #[.int .u8 192, .int .u8 3, .int .u8 2, .int .u8 0, .int .u8 4] 5)) w3.heap.size (fun _ => True) (.slice A5 33 c5) z33) := Lib.hid (Kd.R_alloc hr5 _)
       have HD6 : Hid ((Kd.int .u8).C (w5.alloc (.cells #[.int .u8 192, .int .u8 3, .int .u8 2, .int .u8 0, .int .u8 4] 5)) (some ⟨w5.heap.size, 0, none⟩) 5 [192, 3, 2, 0, 4]) := Lib.hid (lit_row (w := w5) [192, 3, 2, 0, 4] (by intro x hx; simp at hx; omega) (by decide)).row
       have HL6 : Hid ((z33.length + 5) * 1 ≤ 140737488355328) := Lib.hid (by rw [HZ.out]; decide)
       clear hb5 hg5 hat5 hz33 hb6 hr5)
    | (refine Kd.R_append_rows (Kd.int .u8) (Rr := (Kd.int .u8).K (w5.alloc (.cells #[.int .u8 192, .int .u8 3, .int .u8 2, .int .u8 0, .int .u8 4] 5))) (w0 := w3) (W := w5.alloc (.cells #[.int .u8 192, .int .u8 3, .int .u8 2, .int .u8 0, .int .u8 4] 5)) w3.heap.size rfl (.tmp 18) (.tmp 19) 22 5 (.int .u8 0) 1 rfl Tryz.underlying22 infoU8 rfl (by decide) (by decide) (.slice A5 33 c5) z33 [192, 3, 2, 0, 4] (some ⟨w5.heap.size, 0, none⟩) 5 5 (fun _ => True) (fun _ => False) rfl rfl HO6.out HD6.out (fun _ _ h => h) (fun _ h => h.elim) (fun _ _ => trivial) HB6.out HS6.out HL6.out ?_
       intro v7 w7 hr7 hb7 hg7 hat7
       rw [HX38.out] at hr7
       obtain ⟨A7, c7, rfl⟩ := Kd.R_slice hr7
       have HA7 := Lib.hid (And.intro hr7 hb7)
       clear hr7 hb7 hg7 hat7))
  have HS7 := Lib.hid (BSl.of HA7.out.1 HS2.out.by')
  have HS27 := Lib.hid (HS23.out.below HA7.out.2)
  have HB7 := Lib.hid (below_tr HB3.out HA7.out.2)
  have HSm := same_same A2 A7 c2 c7 X w7 HS27.out.row HS7.out.row HS2.out.by'
  refine HSm.mono ?_
  rintro e w8 ⟨rfl, rfl⟩
  have v3 : (convert 22 9 (.slice A3 1 c3)).run Tryz.prog w7 = .ok (.string ⟨#[7]⟩) w7 := (HS3.out.below HA7.out.2).str
  clear HSm
  go_wp2_with fail
  go_ret
  exact ⟨rfl, HB7.out⟩
end Go.Proofs.YtdkemdcflbadhaaGreat
namespace Go.Proofs.YtdkemdcflbadhaaGreat
open Go.RowKit Go.Proofs.YtdkemdcflbadhaaGreat.PRef Go.Proofs.YtdkemdcflbadhaaGreatW.PrintWords Go.Proofs.YtdkemdcflbadhaaGreatW.PrintLast Go.Proofs.YtdkemdcflbadhaaGreatW.PrintMore
/-- a number's words -/
def digs (n : Nat) : List Int := if h : n = 0 then [] else ((n % 65536 : Nat) : Int) :: digs (n / 65536)
termination_by n
decreasing_by omega
theorem digs_zero : digs 0 = [] := by rw [digs]; simp
theorem digs_pos {n : Nat} (h : 0 < n) : digs n = ((n % 65536 : Nat) : Int) :: digs (n / 65536) := by
  rw [digs]; exact dif_neg (by omega)
theorem digs_one : digs 1 = [1] := by rw [digs_pos (by omega)]; simp [digs_zero]
theorem tmod_nat (t : Nat) : Int.tmod (t : Int) 65536 = ((t % 65536 : Nat) : Int) := by rw [Int.tmod_eq_emod_of_nonneg (by omega)]; simp
theorem tdiv_nat (t : Nat) (h : t ≤ 1000000000000) : wrap64 (Int.tdiv (t : Int) 65536) = ((t / 65536 : Nat) : Int) := by
  rw [Int.tdiv_eq_ediv_of_nonneg (by omega), w64 (by omega)]; simp
theorem times_num (x f c y : Nat) (hy : y = x * f) (h : y ≤ 100000000000) (hc : c ≤ 100000) : wrap64 (wrap64 ((x : Int) * f) + c) = ((y + c : Nat) : Int) := by
  have e : (x : Int) * f = (y : Int) := by rw [hy]; simp
  have i1 : wrap64 (y : Int) = y := w64 (by omega)
  have i2 : wrap64 ((y : Int) + c) = (y : Int) + c := w64 (by omega)
  rw [e, i1, i2]; simp
theorem times_val (v f c x t : Nat) (hx : x = v % 65536) (ht : t = x * f + c) : v * f + c = 65536 * (v / 65536 * f) + t := by
  have hvd : v = 65536 * (v / 65536) + x := by omega
  rw [ht]
  calc v * f + c = (65536 * (v / 65536) + x) * f + c := by rw [← hvd]
    _ = 65536 * (v / 65536 * f) + (x * f + c) := by rw [Nat.add_mul, Nat.mul_assoc]; omega
theorem times_rest : ∀ (m n : Nat) (out : List Int), n ≤ m → out.length + n ≤ 1000000000 → Ev (fun k => puncheonref17_times.l1 k out (n : Int)) (out ++ digs n) := by
  intro m
  induction m with
  | zero =>
    intro n out hn _
    obtain rfl : n = 0 := by omega
    refine Ev.step (fun k => (show puncheonref17_times.l1 (k + 1) out _ = _ by simp only [puncheonref17_times.l1]; rw [if_neg (by omega)])) ?_
    rw [digs_zero, List.append_nil]; exact Ev.now _
  | succ m ih =>
    intro n out hn hl
    by_cases h0 : n = 0
    · subst h0
      refine Ev.step (fun k => (show puncheonref17_times.l1 (k + 1) out _ = _ by simp only [puncheonref17_times.l1]; rw [if_neg (by omega)])) ?_
      rw [digs_zero, List.append_nil]; exact Ev.now _
    · have c1 : (n : Int) > 0 := by omega
      have c2 : out.length < 17592186044416 := by omega
      refine Ev.step (fun k => (show puncheonref17_times.l1 (k + 1) out _ = _ by simp only [puncheonref17_times.l1]; rw [if_pos c1, if_pos c2, tmod_nat n, tdiv_nat n (by clear c1 c2 ih; omega)])) ?_
      have := ih (n / 65536) (out ++ [((n % 65536 : Nat) : Int)]) (by omega) (by rw [List.length_append, List.length_singleton]; omega)
      rw [digs_pos (by omega), show out ++ ((n % 65536 : Nat) : Int) :: digs (n / 65536) = (out ++ [((n % 65536 : Nat) : Int)]) ++ digs (n / 65536) by simp]
      exact this
set_option maxHeartbeats 400000 in
theorem times_loop (a : List Int) (f : Nat) (hf : 0 < f) (hf2 : f ≤ 100000) (hl : a.length ≤ 1000000) : ∀ (d i v c : Nat) (out : List Int), i + d = a.length → a.drop i = digs v → c ≤ f → out.length = i → Ev (fun k => puncheonref17_times.l0 k a f out c i) (out ++ digs (v * f + c)) := by
  intro d
  induction d with
  | zero =>
    intro i v c out hi hv hc ho
    refine Ev.step (fun k => (show puncheonref17_times.l0 (k + 1) a f out c i = _ by simp only [puncheonref17_times.l0]; rw [if_neg (by omega)])) ?_
    have h0 : v = 0 := by
      by_cases e : v = 0
      · exact e
      · rw [digs_pos (by omega), List.drop_of_length_le (by omega)] at hv; cases hv
    subst h0
    rw [Nat.zero_mul, Nat.zero_add]
    exact times_rest c c out (Nat.le_refl _) (by omega)
  | succ d ih =>
    intro i v c out hi hv hc ho
    have hlt : i < a.length := by omega
    have hv0 : 0 < v := by
      by_cases e : v = 0
      · subst e; rw [digs_zero, List.drop_eq_nil_iff] at hv; omega
      · omega
    rw [digs_pos hv0, List.drop_eq_getElem_cons hlt] at hv
    obtain ⟨g1, g2⟩ := List.cons.inj hv
    have hrd : rd a (i : Int) = ((v % 65536 : Nat) : Int) := by rw [rd_nat, List.getD_eq_getElem?_getD, List.getElem?_eq_getElem hlt, Option.getD_some, g1]
    obtain ⟨x, hx⟩ : ∃ x, x = v % 65536 := ⟨_, rfl⟩
    have hx2 : x < 65536 := by rw [hx]; exact Nat.mod_lt _ (by omega)
    have hxf : x * f ≤ 65535 * f := Nat.mul_le_mul_right f (by omega)
    rw [← hx] at hrd
    obtain ⟨t, ht⟩ : ∃ t, t = x * f + c := ⟨_, rfl⟩
    have htb : t ≤ 1000000000000 := by omega
    have htf : t / 65536 ≤ f := by omega
    have hval := times_val v f c x t hx ht
    have b1 : x * f ≤ 100000000000 := by omega
    have b2 : c ≤ 100000 := by omega
    have c1 : (i : Int) < (a.length : Int) := by omega
    have c2 : (0 : Int) ≤ i := by omega
    have c3 : out.length < 17592186044416 := by omega
    have b4 : i ≤ 1000000000 := by omega
    have hstep : ∀ k, puncheonref17_times.l0 (k + 1) a f out c i = puncheonref17_times.l0 k a f (out ++ [((t % 65536 : Nat) : Int)]) ((t / 65536 : Nat) : Int) ((i + 1 : Nat) : Int) := by
      intro k
      simp only [puncheonref17_times.l0]
      rw [if_pos c1, if_pos c2, if_pos c3, hrd, times_num x f c _ rfl b1 b2, ← ht, tmod_nat t, tdiv_nat t htb, wS i b4]
    refine Ev.step hstep ?_
    clear hstep hrd b1 b2 c1 c2 c3 b4 hxf ht hx
    have := ih (i + 1) (v / 65536) (t / 65536) (out ++ [((t % 65536 : Nat) : Int)]) (by omega) g2 htf (by rw [List.length_append, List.length_singleton]; omega)
    have hpos : 0 < v * f + c := by have := Nat.mul_pos hv0 hf; omega
    have h1 : (v * f + c) % 65536 = t % 65536 := by rw [hval]; omega
    have h2 : (v * f + c) / 65536 = v / 65536 * f + t / 65536 := by rw [hval]; omega
    rw [digs_pos hpos, h1, h2, show out ++ ((t % 65536 : Nat) : Int) :: digs (v / 65536 * f + t / 65536) = (out ++ [((t % 65536 : Nat) : Int)]) ++ digs (v / 65536 * f + t / 65536) by simp]
    exact this
theorem refTimes_eq (n f : Nat) (hf : 0 < f) (hf2 : f ≤ 100000) (hl : (digs n).length ≤ 1000000) : Ev (fun k => puncheonref17_times.f k (digs n) f) (digs (n * f)) := by
  have := times_loop (digs n) f hf hf2 hl (digs n).length 0 n 0 [] (by omega) (by simp) (by omega) rfl
  rw [Nat.add_zero, List.nil_append] at this
  exact this
end Go.Proofs.YtdkemdcflbadhaaGreat
namespace Go.Proofs.YtdkemdcflbadhaaGreat
open Go.RowKit Go.Proofs.YtdkemdcflbadhaaGreat.PRef Go.Proofs.YtdkemdcflbadhaaGreatW.PrintWords Go.Proofs.YtdkemdcflbadhaaGreatW.PrintLast Go.Proofs.YtdkemdcflbadhaaGreatW.PrintMore
/-- what words tell -/
def valW : List Int → Int
  | [] => 0
  | a :: l => a + 65536 * valW l
def WordsL (l : List Int) : Prop := ∀ x ∈ l, 0 ≤ x ∧ x < 65536
theorem digs_words : ∀ (m n : Nat), n ≤ m → WordsL (digs n) ∧ valW (digs n) = n := by
  intro m
  induction m with
  | zero =>
    intro n h
    obtain rfl : n = 0 := by omega
    rw [digs_zero]; exact ⟨(fun x hx => by cases hx), rfl⟩
  | succ m ih =>
    intro n h
    by_cases h0 : n = 0
    · subst h0; rw [digs_zero]; exact ⟨(fun x hx => by cases hx), rfl⟩
    · obtain ⟨h1, h2⟩ := ih (n / 65536) (by omega)
      rw [digs_pos (by omega)]
      refine ⟨fun x hx => ?_, ?_⟩
      · rcases List.mem_cons.1 hx with e | e
        · rw [e]; omega
        · exact h1 x e
      · simp only [valW]; rw [h2]; omega
/-- with the same words from i + 1 on, the i-th decides -/
theorem val_cmp : ∀ (i : Nat) (a b : List Int) (ha : WordsL a) (hb : WordsL b), i < a.length → i < b.length → a.drop (i + 1) = b.drop (i + 1) → (a.getD i 0 > b.getD i 0 → valW a > valW b) := by
  intro i
  induction i with
  | zero =>
    intro a b ha hb h1 h2 hd hg
    cases a with
    | nil => simp at h1
    | cons x a =>
      cases b with
      | nil => simp at h2
      | cons y b =>
        simp only [List.drop_succ_cons, List.drop_zero, List.getD_cons_zero] at hd hg
        subst hd
        simp only [valW]; omega
  | succ i ih =>
    intro a b ha hb h1 h2 hd hg
    cases a with
    | nil => simp at h1
    | cons x a =>
      cases b with
      | nil => simp at h2
      | cons y b =>
        simp only [List.drop_succ_cons, List.getD_cons_succ] at hd hg
        have := ih a b (fun z hz => ha z (List.mem_cons_of_mem _ hz)) (fun z hz => hb z (List.mem_cons_of_mem _ hz)) (by simpa using h1) (by simpa using h2) hd hg
        have h3 := ha x (List.mem_cons_self ..)
        have h4 := hb y (List.mem_cons_self ..)
        simp only [valW]; omega
/-- fewer words, a smaller number -/
theorem digs_len : ∀ (k n m : Nat), (digs n).length ≤ k → (digs n).length < (digs m).length → n < m := by
  intro k
  induction k with
  | zero =>
    intro n m h1 h2
    by_cases h0 : n = 0
    · subst h0
      by_cases h3 : m = 0
      · subst h3; omega
      · omega
    · rw [digs_pos (by omega)] at h1; simp at h1
  | succ k ih =>
    intro n m h1 h2
    by_cases h3 : m = 0
    · subst h3; rw [digs_zero] at h2; simp at h2
    · by_cases h0 : n = 0
      · omega
      · rw [digs_pos (n := n) (by omega)] at h1 h2
        rw [digs_pos (n := m) (by omega)] at h2
        simp only [List.length_cons] at h1 h2
        have := ih (n / 65536) (m / 65536) (by omega) (by omega)
        omega
theorem above_loop (a b : List Int) (ha : WordsL a) (hb : WordsL b) (hl : a.length = b.length) (hl2 : a.length ≤ 1000000) : ∀ i, i ≤ a.length → a.drop i = b.drop i → Ev (fun k => puncheonref17_above.l0 k a b ((i : Int) - 1)) (decide (valW b < valW a)) := by
  intro i
  induction i with
  | zero =>
    intro _ hd
    rw [List.drop_zero, List.drop_zero] at hd
    subst hd
    refine Ev.step (fun k => (show puncheonref17_above.l0 (k + 1) a a _ = _ by simp only [puncheonref17_above.l0]; rw [if_neg (by omega)])) ?_
    rw [decide_eq_false (by omega)]; exact Ev.now _
  | succ i ih =>
    intro hi hd
    have c1 : (((i + 1 : Nat) : Int) - 1) ≥ 0 := by omega
    have c2 : (((i + 1 : Nat) : Int) - 1) < (a.length : Int) := by omega
    have c3 : (((i + 1 : Nat) : Int) - 1) < (b.length : Int) := by omega
    have e0 : (((i + 1 : Nat) : Int) - 1) = (i : Int) := by omega
    rw [e0] at c1 c2 c3 ⊢
    have hla : i < a.length := by omega
    have hlb : i < b.length := by omega
    have w1 : wrap64 ((i : Int) - 1) = (i : Int) - 1 := w64 (by omega)
    by_cases e : a.getD i 0 = b.getD i 0
    · refine Ev.step (fun k => (show puncheonref17_above.l0 (k + 1) a b _ = _ by simp only [puncheonref17_above.l0]; rw [if_pos c1, if_pos c1, if_pos c2, if_pos c3, rd_nat, rd_nat, if_pos e, w1])) ?_
      refine ih (by omega) ?_
      rw [List.drop_eq_getElem_cons hla, List.drop_eq_getElem_cons hlb, hd]
      rw [List.getD_eq_getElem?_getD, List.getD_eq_getElem?_getD, List.getElem?_eq_getElem hla, List.getElem?_eq_getElem hlb] at e
      simp only [Option.getD_some] at e
      rw [e]
    · refine Ev.step (fun k => (show puncheonref17_above.l0 (k + 1) a b _ = _ by simp only [puncheonref17_above.l0]; rw [if_pos c1, if_pos c1, if_pos c2, if_pos c3, rd_nat, rd_nat, if_neg e])) ?_
      have e2 : decide (a.getD i 0 > b.getD i 0) = decide (valW b < valW a) := by
        by_cases h : a.getD i 0 > b.getD i 0
        · rw [decide_eq_true h, decide_eq_true (val_cmp i a b ha hb hla hlb hd h)]
        · have := val_cmp i b a hb ha hlb hla hd.symm (by omega)
          rw [decide_eq_false h, decide_eq_false (by omega)]
      rw [e2]; exact Ev.now _
theorem refAbove_eq (n m : Nat) (hl : (digs n).length ≤ 1000000) : Ev (fun k => puncheonref17_above.f k (digs n) (digs m)) (decide (m < n)) := by
  obtain ⟨a1, a2⟩ := digs_words n n (Nat.le_refl _)
  obtain ⟨b1, b2⟩ := digs_words m m (Nat.le_refl _)
  by_cases h : (digs n).length = (digs m).length
  · have w1 : wrap64 (((digs n).length : Int) - 1) = ((digs n).length : Int) - 1 := w64 (by omega)
    have c1 : ((digs n).length : Int) = ((digs m).length : Int) := by omega
    refine Ev.congr (fun k => (show puncheonref17_above.f k (digs n) (digs m) = _ by unfold puncheonref17_above.f; rw [if_pos c1, w1])) ?_
    have := above_loop (digs n) (digs m) a1 b1 h hl (digs n).length (Nat.le_refl _) (by rw [List.drop_length, h, List.drop_length])
    rw [a2, b2] at this
    have e : decide ((m : Int) < n) = decide (m < n) := by simp
    rw [e] at this; exact this
  · have c1 : ¬ ((digs n).length : Int) = ((digs m).length : Int) := by omega
    refine Ev.congr (fun k => (show puncheonref17_above.f k (digs n) (digs m) = _ by unfold puncheonref17_above.f; rw [if_neg c1])) ?_
    have e : decide (((digs n).length : Int) > ((digs m).length : Int)) = decide (m < n) := by
      by_cases h2 : (digs m).length < (digs n).length
      · rw [decide_eq_true (by omega), decide_eq_true (digs_len _ m n (Nat.le_refl _) h2)]
      · have := digs_len _ n m (Nat.le_refl _) (by omega)
        rw [decide_eq_false (by omega), decide_eq_false (by omega)]
    rw [e]; exact Ev.now _
end Go.Proofs.YtdkemdcflbadhaaGreat
namespace Go.Proofs.YtdkemdcflbadhaaGreat
theorem countP_lt {p : Nat → Bool} {K : Nat} (h : ∀ j, p j = true → j < K) (N : Nat) : (List.range N).countP p ≤ K := by
  induction N with
  | zero => simp
  | succ N ih =>
    rw [List.range_succ, List.countP_append]
    by_cases e : p N = true
    · have h1 := List.countP_le_length (p := p) (l := List.range N)
      rw [List.length_range] at h1
      have h2 := h N e
      simp [e]; omega
    · simp [e]; exact ih
theorem countP_ge {p : Nat → Bool} {K : Nat} (h : ∀ j, j < K → p j = true) (N : Nat) (hN : K ≤ N) : K ≤ (List.range N).countP p := by
  induction N with
  | zero => omega
  | succ N ih =>
    rw [List.range_succ, List.countP_append]
    by_cases e : K ≤ N
    · have := ih e; omega
    · have hK : K = N + 1 := by omega
      have h1 : (List.range N).countP p = (List.range N).length := List.countP_eq_length.2 (fun x hx => h x (by rw [List.mem_range] at hx; omega))
      rw [h1, List.length_range]
      simp [h N (by omega)]; omega
/-- another symbol's key that is no more than (c + d) / c -/
def lowP (c d s : Int) (x : K3) : Bool := decide (x.2.2 ≠ s ∧ x.1 * c ≤ (c + d) * x.2.1)
theorem low_keys (c d s n : Int) (t : Nat) (hc : 0 < c) (hd : 0 ≤ d) (hn : 0 ≤ n) : c * ((keysOf n t).countP (lowP c d s) : Nat) ≤ d * n + (if 0 < n then c else 0) := by
  by_cases h0 : 0 < n
  · rw [if_pos h0]
    unfold keysOf
    rw [List.countP_map]
    have hdn : 0 ≤ d * n := Int.mul_nonneg hd hn
    have hK := countP_lt (p := lowP c d s ∘ fun (j : Nat) => (n + j, n, (t : Int))) (K := (d * n / c).toNat + 1) (fun j hj => by
      simp only [Function.comp, lowP, decide_eq_true_eq] at hj
      have h2 : (j : Int) * c ≤ d * n := by
        have := hj.2
        rw [Int.add_mul, Int.add_mul, Int.mul_comm n c] at this; omega
      have h3 : (j : Int) ≤ d * n / c := (Int.le_ediv_iff_mul_le hc).2 h2
      omega) n.toNat
    have h4 : c * (d * n / c) ≤ d * n := Int.mul_ediv_self_le (by omega)
    have h5 : 0 ≤ d * n / c := Int.ediv_nonneg hdn (by omega)
    have h6 : ((List.range n.toNat).countP (lowP c d s ∘ fun (j : Nat) => (n + j, n, (t : Int))) : Int) ≤ d * n / c + 1 := by omega
    have h7 := Int.mul_le_mul_of_nonneg_left h6 (by omega : 0 ≤ c)
    rw [Int.mul_add] at h7; omega
  · rw [keysOf_none h0, if_neg h0]
    have : n = 0 := by omega
    subst this; simp
theorem low_self (c d n : Int) (t : Nat) : (keysOf n t).countP (lowP c d t) = 0 := by
  rw [List.countP_eq_zero]
  intro x hx
  unfold keysOf at hx
  rw [List.mem_map] at hx
  obtain ⟨j, _, rfl⟩ := hx
  simp [lowP]
theorem low_all {q : List Int} (hq : ∀ x ∈ q, 0 ≤ x) {s : Nat} (_ : s < q.length) {d : Int} (hc : 0 < q.getD s 0) (hd : 0 ≤ d) : ∀ k, k ≤ q.length →
    q.getD s 0 * ((allKeys (q.take k)).countP (lowP (q.getD s 0) d s) : Nat) + (if s < k then d * q.getD s 0 + q.getD s 0 else 0) ≤ d * (q.take k).sum + q.getD s 0 * (posC q k : Nat) := by
  intro k
  induction k with
  | zero => intro _; simp [allKeys, posC]
  | succ k ih =>
    intro hk
    have h1 := ih (by omega)
    have hn : 0 ≤ q.getD k 0 := by
      rw [List.getD_eq_getElem?_getD, List.getElem?_eq_getElem (by omega)]; exact hq _ (List.getElem_mem _)
    have hsum : (q.take (k + 1)).sum = (q.take k).sum + q.getD k 0 := by
      rw [List.take_succ_eq_append_getElem (by omega), List.sum_append, List.getD_eq_getElem?_getD, List.getElem?_eq_getElem (by omega)]; simp
    rw [allKeys_take (by omega), List.countP_append, hsum, posC_succ q k (by omega)]
    have e1 : q.getD s 0 * (((allKeys (q.take k)).countP (lowP (q.getD s 0) d s) + (keysOf (q.getD k 0) k).countP (lowP (q.getD s 0) d s) : Nat) : Int) = q.getD s 0 * ((allKeys (q.take k)).countP (lowP (q.getD s 0) d s) : Nat) + q.getD s 0 * ((keysOf (q.getD k 0) k).countP (lowP (q.getD s 0) d s) : Nat) := by rw [Int.natCast_add, Int.mul_add]
    have e2 : q.getD s 0 * ((posC q k + (if 0 < q.getD k 0 then 1 else 0) : Nat) : Int) = q.getD s 0 * (posC q k : Nat) + (if 0 < q.getD k 0 then q.getD s 0 else 0) := by
      split
      · rw [Int.natCast_add, Int.mul_add]; simp
      · simp
    have e3 : d * ((q.take k).sum + q.getD k 0) = d * (q.take k).sum + d * q.getD k 0 := Int.mul_add _ _ _
    rw [e1, e2, e3]
    by_cases h : s = k
    · subst h
      rw [low_self, if_pos (by omega), if_pos hc]
      rw [if_neg (by omega)] at h1
      rw [show ((0 : Nat) : Int) = 0 from rfl, Int.mul_zero]; omega
    · have h2 := low_keys (q.getD s 0) d s (q.getD k 0) k hc hd hn
      by_cases h3 : s < k
      · rw [if_pos h3] at h1; rw [if_pos (by omega)]; omega
      · rw [if_neg h3] at h1; rw [if_neg (by omega)]; omega
def symP (s : Int) (x : K3) : Bool := decide (x.2.2 = s)
theorem posN_take (l : List Int) (s : Int) : ∀ k, k ≤ l.length → (posN l s k).length = (l.take k).countP (fun x => decide (x = s)) := by
  intro k
  induction k with
  | zero => intro _; simp [posN_zero]
  | succ k ih =>
    intro h
    have e : l.getD k (-1) = l[k] := by rw [List.getD_eq_getElem?_getD, List.getElem?_eq_getElem (by omega), Option.getD_some]
    rw [List.take_succ_eq_append_getElem (by omega), List.countP_append]
    by_cases h1 : l.getD k (-1) = s
    · rw [posN_hit h1, List.length_append, ih (by omega)]; rw [e] at h1; simp [h1]
    · rw [posN_miss h1, ih (by omega)]; rw [e] at h1; simp [h1]
theorem posN_at (l : List Int) (s : Int) : ∀ (k d : Nat), d < (posN l s k).length → ∃ P : Nat, (posN l s k).getD d 0 = P ∧ P < k ∧ l.getD P (-1) = s ∧ (posN l s P).length = d := by
  intro k
  induction k with
  | zero => intro d h; simp [posN_zero] at h
  | succ k ih =>
    intro d h
    by_cases h1 : l.getD k (-1) = s
    · rw [posN_hit h1] at h ⊢
      by_cases h2 : d < (posN l s k).length
      · obtain ⟨P, e1, e2, e3, e4⟩ := ih d h2
        refine ⟨P, ?_, by omega, e3, e4⟩
        rw [← e1, List.getD_eq_getElem?_getD, List.getElem?_append_left h2, ← List.getD_eq_getElem?_getD]
      · rw [List.length_append, List.length_singleton] at h
        have hd : d = (posN l s k).length := by omega
        refine ⟨k, ?_, by omega, h1, hd.symm⟩
        rw [List.getD_eq_getElem?_getD, hd, List.getElem?_append_right (Nat.le_refl _)]; simp
    · rw [posN_miss h1] at h ⊢
      obtain ⟨P, e1, e2, e3, e4⟩ := ih d h
      exact ⟨P, e1, by omega, e3, e4⟩
/-- how many keys lie before a symbol's d-th -/
theorem rank_le {q : List Int} (hq : Good q) {s : Nat} (hs : s < q.length) (hc : 0 < q.getD s 0) {P : Nat} (hP : P < (orderL q).length) (hsym : (symsL q).getD P (-1) = (s : Int)) :
    q.getD s 0 * (P : Int) + (posN (symsL q) s P).length * q.getD s 0 + q.getD s 0 ≤ q.getD s 0 * (posN (symsL q) s P).length + (posN (symsL q) s P).length * q.sum + q.getD s 0 * (posC q q.length : Nat) := by
  obtain ⟨c, hcc⟩ : ∃ c, c = q.getD s 0 := ⟨_, rfl⟩
  obtain ⟨l, hl⟩ : ∃ l, l = orderL q := ⟨_, rfl⟩
  have hperm := orderL_perm hq
  have hsort := orderL_sorted hq
  rw [← hl] at hP hperm hsort
  have hgood : ∀ x ∈ l, GK x := fun x hx => allKeys_good hq x (hperm.mem_iff.1 hx)
  have hmem := mem_allKeys.1 (hperm.mem_iff.1 (List.getElem_mem hP))
  have hsy : (symsL q).getD P (-1) = l[P].2.2 := by
    unfold symsL; rw [← hl, List.getD_eq_getElem?_getD, List.getElem?_map, List.getElem?_eq_getElem hP]; rfl
  rw [hsy] at hsym
  obtain ⟨s', e, hs', he, hx⟩ := hmem
  have hss : s' = s := by rw [hx] at hsym; exact Int.ofNat.inj hsym
  subst hss
  rw [← hcc] at he hx hc ⊢
  have hkey := hgood _ (List.getElem_mem hP)
  -- those before are no more
  have hbef : ∀ x ∈ l.take P, leK x l[P] := by
    intro x hx'
    rw [List.mem_take_iff_getElem] at hx'
    obtain ⟨i, hi, rfl⟩ := hx'
    exact List.pairwise_iff_getElem.1 hsort i P (by omega) hP (by omega)
  have haft : ∀ x ∈ l.drop P, leK l[P] x := by
    intro x hx'
    rw [List.mem_drop_iff_getElem] at hx'
    obtain ⟨i, hi, rfl⟩ := hx'
    by_cases h0 : i = 0
    · subst h0; exact leK_refl hkey
    · exact List.pairwise_iff_getElem.1 hsort P (P + i) hP (by omega) (by omega)
  obtain ⟨d, hd⟩ : ∃ d, d = (posN (symsL q) s' P).length := ⟨_, rfl⟩
  have hdc : d = (l.take P).countP (symP s') := by
    rw [hd, posN_take _ _ _ (by unfold symsL; rw [← hl, List.length_map]; omega)]
    unfold symsL
    rw [← hl, ← List.map_take, List.countP_map]; rfl
  rw [← hd]
  -- d' of the symbol's keys are less
  have hed : e ≤ d := by
    have h1 : e ≤ (allKeys q).countP (fun x => decide (x.2.2 = (s' : Int) ∧ x.1 < c + e)) := by
      have h2 : e ≤ (keysOf c s').countP (fun x => decide (x.2.2 = (s' : Int) ∧ x.1 < c + e)) := by
        unfold keysOf
        rw [List.countP_map]
        exact countP_ge (fun j hj => by simp [Function.comp]; omega) _ (by omega)
      have h3 : ∀ k, s' < k → k ≤ q.length → e ≤ (allKeys (q.take k)).countP (fun x => decide (x.2.2 = (s' : Int) ∧ x.1 < c + e)) := by
        intro k
        induction k with
        | zero => intro h; omega
        | succ k ih =>
          intro h4 h5
          rw [allKeys_take (by omega), List.countP_append]
          by_cases h6 : s' = k
          · subst h6; rw [← hcc]; omega
          · have := ih (by omega) (by omega); omega
      have := h3 q.length hs' (Nat.le_refl _)
      rw [List.take_length] at this; exact this
    rw [← hperm.countP_eq, ← List.take_append_drop P l, List.countP_append] at h1
    have h2 : (l.drop P).countP (fun x => decide (x.2.2 = (s' : Int) ∧ x.1 < c + e)) = 0 := by
      rw [List.countP_eq_zero]
      intro x hx'
      have h3 := haft x hx'
      have hxl : x ∈ l := List.mem_of_mem_drop hx'
      have h4 := (lessK_false (hgood x hxl) hkey).1 h3
      obtain ⟨t, f, _, hf, hxe⟩ := mem_allKeys.1 (hperm.mem_iff.1 hxl)
      simp only [decide_eq_true_eq]
      rintro ⟨h5, h6⟩
      rw [hxe] at h5 h6 h4
      rw [hx] at h4
      have ht : t = s' := Int.ofNat.inj h5
      subst ht
      rw [← hcc] at h4 h6
      simp only at h4 h6
      have h7 : (c + e) * c ≤ (c + f) * c := by omega
      have := Int.le_of_mul_le_mul_right h7 hc
      omega
    rw [h2] at h1
    have h3 : (l.take P).countP (fun x => decide (x.2.2 = (s' : Int) ∧ x.1 < c + e)) ≤ (l.take P).countP (symP s') := List.countP_mono_left (fun x _ h => by simp only [symP, decide_eq_true_eq] at h ⊢; exact h.1)
    omega
  -- the others
  have hoth : P - d ≤ (allKeys q).countP (lowP c e s') := by
    rw [← hperm.countP_eq, ← List.take_append_drop P l, List.countP_append]
    have h1 := List.length_eq_countP_add_countP (symP s') (l := l.take P)
    rw [List.length_take, ← hdc] at h1
    have h2 : (l.take P).countP (fun a => decide ¬(symP s') a = true) ≤ (l.take P).countP (lowP c e s') := List.countP_mono_left (fun x hx' h => by
      simp only [symP, decide_eq_true_eq] at h
      have h3 := (lessK_false hkey (hgood x (List.mem_of_mem_take hx'))).1 (hbef x hx')
      rw [hx] at h3
      simp only at h3
      simp only [lowP, decide_eq_true_eq]
      exact ⟨h, by omega⟩)
    omega
  have hall := low_all hq.nonneg hs' (by rw [← hcc]; exact hc) (d := (e : Int)) (by omega) q.length (Nat.le_refl _)
  rw [List.take_length, if_pos hs', ← hcc] at hall
  have hsm : c ≤ q.sum := by rw [hcc]; exact le_sum hq.nonneg (getD_mem hs')
  have m1 := Int.mul_le_mul_of_nonneg_right (show (e : Int) ≤ d by omega) (show 0 ≤ q.sum - c by omega)
  rw [Int.mul_sub, Int.mul_sub] at m1
  have m2 := Int.mul_le_mul_of_nonneg_left (show (P : Int) ≤ d + ((allKeys q).countP (lowP c e s') : Nat) by omega) (show 0 ≤ c by omega)
  rw [Int.mul_add] at m2
  omega
/-- a place is no further on than the count has grown, but for one place a symbol -/
theorem place_bound {q : List Int} (hl : logC q ≠ 0) {s : Nat} (hs : s < 256) {i : Nat} (h1 : cntC q s ≤ i) (h2 : i < 2 * cntC q s) :
    (cntC q s : Int) * (2 ^ logC q + (placesC q s).getD (i - cntC q s) 0) ≤ i * (2 ^ logC q + (posC q q.length : Nat) - 1) := by
  have hq := good_of_log hl
  have hc := cnt_eq hq s
  have hlen : (placesC q s).length = cntC q s := rfl
  obtain ⟨P, e1, e2, e3, e4⟩ := posN_at (symsL q) s (symsL q).length (i - cntC q s) (by have : (posN (symsL q) s (symsL q).length).length = cntC q s := rfl; omega)
  have e1' : (placesC q s).getD (i - cntC q s) 0 = P := e1
  have hge := hq.get s
  have hol : (symsL q).length = (orderL q).length := by unfold symsL; rw [List.length_map]
  have hsl : s < q.length := by rw [hq.len]; exact hs
  have hr := rank_le hq hsl (by omega) (P := P) (by omega) e3
  have hsum : q.sum = 2 ^ logC q := by
    have h3 := logT_pow hl
    have hr : rightC q = true := rightC_iff.2 ⟨hq.len, hq.nonneg, by have := hq.sum; omega⟩
    have h4 : totalC q = q.sum := by unfold totalC; rw [if_pos hr]
    rw [← h4]; exact h3
  have hM0 : 1 ≤ posC q q.length := by
    unfold posC
    rw [List.take_length]
    exact List.countP_pos_iff.2 ⟨q.getD s 0, getD_mem hsl, by simp only [decide_eq_true_eq]; omega⟩
  rw [e4, hsum] at hr
  rw [e1']
  obtain ⟨c, hcd⟩ : ∃ c, c = q.getD s 0 := ⟨_, rfl⟩
  rw [← hcd] at hr hc
  have hcc : (cntC q s : Int) = c := by omega
  obtain ⟨d, hd⟩ : ∃ d, i = cntC q s + d := ⟨i - cntC q s, by omega⟩
  obtain ⟨S, hS⟩ : ∃ S : Int, S = 2 ^ logC q := ⟨_, rfl⟩
  obtain ⟨M, hM⟩ : ∃ M : Int, M = (posC q q.length : Nat) := ⟨_, rfl⟩
  rw [← hS, ← hM] at hr ⊢
  rw [show i - cntC q s = d by omega] at hr
  rw [hd, Int.natCast_add, hcc]
  have m1 := Int.mul_le_mul_of_nonneg_left (show 1 ≤ M by omega) (show (0 : Int) ≤ d by omega)
  have m2 := Int.mul_comm c d
  rw [Int.mul_add, Int.add_mul, Int.mul_sub, Int.mul_sub, Int.mul_add, Int.mul_add]
  omega
theorem step_cheap {q : List Int} {x : Int} {s : Nat} (hl : logC q ≠ 0) (hx : 0 ≤ x ∧ x < 2 ^ logC q) (hs : s < 256) (hc : 0 < cntC q s) :
    (cntC q s : Int) * 2 ^ stepOut q x s * (2 ^ logC q + stepNext q x s) ≤ (2 ^ logC q + x) * (2 ^ logC q + (posC q q.length : Nat) - 1) := by
  obtain ⟨H, hW⟩ := step_nums hl hx hc
  have hb := place_bound hl hs H.ge H.lt
  have hn : stepNext q x s = (placesC q s).getD (wholeC q x / 2 ^ stepOut q x s - cntC q s) 0 := rfl
  rw [← hn] at hb
  obtain ⟨i, hi⟩ : ∃ i, i = wholeC q x / 2 ^ stepOut q x s := ⟨_, rfl⟩
  rw [← hi] at hb H
  obtain ⟨T, hT⟩ : ∃ T : Nat, T = 2 ^ stepOut q x s := ⟨_, rfl⟩
  have hTI : (2 : Int) ^ stepOut q x s = (T : Int) := by rw [hT]; simp
  have hWe := H.eq
  rw [← hT] at hWe
  rw [hTI, ← hW]
  obtain ⟨K, hK⟩ : ∃ K : Int, K = 2 ^ logC q + (posC q q.length : Nat) - 1 := ⟨_, rfl⟩
  rw [← hK] at hb ⊢
  have hK0 : 0 ≤ K := by
    have : (2 : Int) ^ logC q = ((2 ^ logC q : Nat) : Int) := by simp
    have := Nat.two_pow_pos (logC q)
    omega
  have h1 := Int.mul_le_mul_of_nonneg_right hb (show (0 : Int) ≤ T by omega)
  have h2 : (i : Int) * T ≤ wholeC q x := by
    have : (wholeC q x : Int) = ((i * T + stepLow q x s : Nat) : Int) := by rw [← hWe]
    rw [this, Int.natCast_add, Int.natCast_mul]; omega
  have h3 := Int.mul_le_mul_of_nonneg_right h2 hK0
  have e1 : (cntC q s : Int) * T * (2 ^ logC q + stepNext q x s) = (cntC q s : Int) * (2 ^ logC q + stepNext q x s) * T := by ac_rfl
  have e2 : (i : Int) * K * T = i * T * K := by ac_rfl
  rw [e1]; rw [e2] at h1
  exact Int.le_trans h1 h3
/-- the product of the counts; of what bounds it -/
def xT (one : Bool) (qs : List (List Int)) : Int → List Int → Int
  | _, [] => 1
  | last, c :: z => (cntC (qOf one qs last) c : Int) * xT one qs c z
def yT (S : Int) (one : Bool) (qs : List (List Int)) : Int → List Int → Int
  | _, [] => 1
  | last, c :: z => (S + (posC (qOf one qs last) (qOf one qs last).length : Nat) - 1) * yT S one qs c z
theorem xT_nonneg (one : Bool) (qs : List (List Int)) : ∀ (z : List Int) (last : Int), 0 ≤ xT one qs last z
  | [], _ => by simp [xT]
  | c :: z, last => by simp only [xT]; exact Int.mul_nonneg (by omega) (xT_nonneg one qs z c)
theorem yT_nonneg (S : Int) (hS : 1 ≤ S) (one : Bool) (qs : List (List Int)) : ∀ (z : List Int) (last : Int), 0 ≤ yT S one qs last z
  | [], _ => by simp [yT]
  | c :: z, last => by simp only [yT]; exact Int.mul_nonneg (by omega) (yT_nonneg S hS one qs z c)
theorem cheapT {lg : Int} {one : Bool} {qs : List (List Int)} : ∀ (z : List Int) (last : Int) (i : Nat), fitT lg one qs last z →
    xT one qs last z * 2 ^ (encT one qs last i z).2.length * ((2 ^ lg.toNat + (encT one qs last i z).1.1) * (2 ^ lg.toNat + (encT one qs last i z).1.2)) ≤ 2 ^ lg.toNat * 2 ^ lg.toNat * yT (2 ^ lg.toNat) one qs last z := by
  intro z
  induction z with
  | nil => intro last i _; simp [xT, yT, encT]
  | cons c z ih =>
    intro last i hf
    have hfz := hf.2
    obtain ⟨h1, h2, h3, h4, h5⟩ := hf.1
    have hI := ih c (i + 1) hfz
    have hR := encT_range z c (i + 1) hfz
    have hY := yT_nonneg (2 ^ lg.toNat) (by have : (2 : Int) ^ lg.toNat = ((2 ^ lg.toNat : Nat) : Int) := by simp
                                            have := Nat.two_pow_pos lg.toNat
                                            omega) one qs z c
    have hX := xT_nonneg one qs z c
    have e : lg.toNat = logC (qOf one qs last) := by omega
    obtain ⟨s, hs⟩ : ∃ s : Nat, c = s := ⟨c.toNat, by omega⟩
    subst hs
    simp only [encT, xT, yT, List.length_append]
    obtain ⟨r, hr⟩ : ∃ r, r = encT one qs (s : Int) (i + 1) z := ⟨_, rfl⟩
    rw [← hr] at hI hR ⊢
    obtain ⟨x, hxx⟩ : ∃ x, x = pick2 (i % 2) r.1.1 r.1.2 := ⟨_, rfl⟩
    rw [← hxx]
    have hx : 0 ≤ x ∧ x < 2 ^ logC (qOf one qs last) := by
      rw [hxx, ← e]; unfold pick2; split
      · exact hR.1
      · exact hR.2
    have hst := step_cheap h1 hx (s := s) (by omega) h5
    rw [← e] at hst
    obtain ⟨S, hS⟩ : ∃ S : Int, S = 2 ^ lg.toNat := ⟨_, rfl⟩
    have hS1 : 1 ≤ S := by
      have : (2 : Int) ^ lg.toNat = ((2 ^ lg.toNat : Nat) : Int) := by simp
      have := Nat.two_pow_pos lg.toNat
      omega
    rw [← hS] at hI hR hst hY ⊢
    rw [lowBits_len, Int.pow_add]
    obtain ⟨C, hC⟩ : ∃ C : Int, C = cntC (qOf one qs last) s := ⟨_, rfl⟩
    obtain ⟨N, hN⟩ : ∃ N : Int, N = 2 ^ stepOut (qOf one qs last) x s := ⟨_, rfl⟩
    obtain ⟨y, hy⟩ : ∃ y, y = stepNext (qOf one qs last) x s := ⟨_, rfl⟩
    obtain ⟨K, hK⟩ : ∃ K, K = S + (posC (qOf one qs last) (qOf one qs last).length : Nat) - 1 := ⟨_, rfl⟩
    obtain ⟨L, hL⟩ : ∃ L : Int, L = 2 ^ r.2.length := ⟨_, rfl⟩
    have hL0 : 0 ≤ L := by rw [hL]; exact Int.pow_nonneg (by omega)
    rw [← hC, ← hN, ← hy, ← hK] at hst ⊢
    rw [← hL] at hI ⊢
    have hK0 : 0 ≤ K := by omega
    have hI2 := Int.mul_le_mul_of_nonneg_right hI hK0
    have big : ∀ o : Int, 0 ≤ o → (S + r.1.1) * (S + r.1.2) = (S + x) * (S + o) → C * xT one qs s z * (L * N) * ((S + y) * (S + o)) ≤ S * S * (K * yT S one qs s z) := by
      intro o ho hso
      rw [hso] at hI2
      have hst2 := Int.mul_le_mul_of_nonneg_left hst (Int.mul_nonneg (Int.mul_nonneg hX hL0) (show 0 ≤ S + o by omega))
      have e1 : xT one qs s z * L * (S + o) * (C * N * (S + y)) = C * xT one qs s z * (L * N) * ((S + y) * (S + o)) := by ac_rfl
      have e2 : xT one qs s z * L * (S + o) * ((S + x) * K) = xT one qs s z * L * ((S + x) * (S + o)) * K := by ac_rfl
      have e3 : S * S * yT S one qs s z * K = S * S * (K * yT S one qs s z) := by ac_rfl
      rw [e1, e2] at hst2
      rw [e3] at hI2
      exact Int.le_trans hst2 hI2
    unfold set2
    by_cases ht : i % 2 = 0
    · rw [if_pos ht]
      have hx2 : x = r.1.1 := by rw [hxx]; unfold pick2; rw [if_pos ht]
      exact big r.1.2 hR.2.1 (by rw [hx2])
    · rw [if_neg ht]
      have hx2 : x = r.1.2 := by rw [hxx]; unfold pick2; rw [if_neg ht]
      have := big r.1.1 hR.1.1 (by rw [hx2]; exact Int.mul_comm _ _)
      rw [Int.mul_comm (S + r.1.1) (S + y)]; exact this
theorem cheap_law {lg : Int} {one : Bool} {qs : List (List Int)} {b : List Int} (h : canM lg one qs b = true) (hb : Bytes b) (h0 : 0 < b.length) :
    (encBits lg one qs b).length = (encT one qs 0 0 b).2.length + 2 * lg.toNat ∧ xT one qs 0 b * 2 ^ (encT one qs 0 0 b).2.length ≤ yT (2 ^ lg.toNat) one qs 0 b := by
  refine ⟨by rw [encBits_encT, List.length_append, List.length_append, lowBits_len, lowBits_len]; omega, ?_⟩
  have hf := (can_log h).1
  have hft := fits_fitT hf hb b.length (Nat.le_refl _)
  rw [Nat.sub_self, List.drop_zero, show ctxI b ((0 : Nat) : Int) = 0 from ctx_zero b h0] at hft
  have hc := cheapT b 0 0 hft
  have hR := encT_range b 0 0 hft
  have hX := xT_nonneg one qs b 0
  obtain ⟨S, hS⟩ : ∃ S : Int, S = 2 ^ lg.toNat := ⟨_, rfl⟩
  have hS1 : 1 ≤ S := by
    have : (2 : Int) ^ lg.toNat = ((2 ^ lg.toNat : Nat) : Int) := by simp
    have := Nat.two_pow_pos lg.toNat
    omega
  rw [← hS] at hc hR ⊢
  obtain ⟨X, hXe⟩ : ∃ X : Int, X = xT one qs 0 b * 2 ^ (encT one qs 0 0 b).2.length := ⟨_, rfl⟩
  have hX0 : 0 ≤ X := by rw [hXe]; exact Int.mul_nonneg hX (Int.pow_nonneg (by omega))
  rw [← hXe] at hc ⊢
  have h1 : S * S ≤ (S + (encT one qs 0 0 b).1.1) * (S + (encT one qs 0 0 b).1.2) := Int.mul_le_mul (by omega) (by omega) (by omega) (by omega)
  have h2 := Int.mul_le_mul_of_nonneg_left h1 hX0
  have h3 := Int.le_trans h2 hc
  rw [Int.mul_comm X] at h3
  exact Int.le_of_mul_le_mul_left h3 (Int.mul_pos (by omega) (by omega))
end Go.Proofs.YtdkemdcflbadhaaGreat
namespace Go.Proofs.YtdkemdcflbadhaaGreat
open Go.RowKit Go.IntWalk Go.Proofs.YtdkemdcflbadhaaGreat.PRef Go.Proofs.YtdkemdcflbadhaaGreatW.PrintWords Go.Proofs.YtdkemdcflbadhaaGreatW.PrintLast Go.Proofs.YtdkemdcflbadhaaGreatW.PrintMore
theorem refMany12_loop (c : List Int) (hl : c.length ≤ 1000000) : ∀ (d i : Nat), i + d = c.length → Ev (fun k => puncheonref12_Many.l0 k c (posC c i : Int) (i : Int)) ((posC c c.length : Nat) : Int) := by
  intro d
  induction d with
  | zero =>
    intro i hi
    refine Ev.step (fun k => (show puncheonref12_Many.l0 (k + 1) c _ (i : Int) = _ by simp only [puncheonref12_Many.l0]; rw [if_neg (by omega)])) ?_
    rw [show i = c.length by omega]; exact Ev.now _
  | succ d ih =>
    intro i hi
    have hlt : i < c.length := by omega
    have hs := posC_succ c i hlt
    have hle := posC_le c i
    have c1 : (i : Int) < (c.length : Int) := by omega
    have c2 : (0 : Int) ≤ i := by omega
    have c3 : i ≤ 1000000000 := by omega
    have c4 : posC c i ≤ 1000000000 := by omega
    by_cases e : c.getD i 0 > 0
    · refine Ev.step (fun k => (show puncheonref12_Many.l0 (k + 1) c _ (i : Int) = _ by simp only [puncheonref12_Many.l0]; rw [if_pos c1, if_pos c2, rd_nat, if_pos e, wS i c3, wS (posC c i) c4])) ?_
      rw [if_pos (by omega)] at hs
      rw [← hs]; exact ih (i + 1) (by omega)
    · refine Ev.step (fun k => (show puncheonref12_Many.l0 (k + 1) c _ (i : Int) = _ by simp only [puncheonref12_Many.l0]; rw [if_pos c1, if_pos c2, rd_nat, if_neg e, wS i c3])) ?_
      rw [if_neg (by omega)] at hs
      have := ih (i + 1) (by omega)
      rw [hs] at this; exact this
theorem refMany12_eq (c : List Int) (hl : c.length ≤ 1000000) : Ev (fun k => puncheonref12_Many.f k c) ((posC c c.length : Nat) : Int) := by
  have := refMany12_loop c hl c.length 0 (by omega)
  have e : posC c 0 = 0 := by simp [posC]
  rw [e] at this
  exact this
section
variable (A : Option Addr) (cp : Nat) (w : World)
theorem rMany12_any (c : List Int) (hr : (Kd.int .i64).C w A c.length c) (hc : c.length ≤ cp) (hl : c.length ≤ 1000000) : Calls Tryz.prog 87 #[.slice A c.length cp] w (Ret (.int .i64 (posC c c.length : Nat)) w) := by
  obtain ⟨k, hk⟩ := (refMany12_eq c hl).rounds
  exact (puncheonref12_Many.calls k A cp c _ w hr hc hk).mono fun e w' h => ⟨h.1, h.2.below⟩
theorem rTimes_any (n f : Nat) (hf : 0 < f) (hf2 : f ≤ 100000) (hl : (digs n).length ≤ 1000000) (hr : (Kd.int .i64).C w A (digs n).length (digs n)) (hc : (digs n).length ≤ cp) : Calls Tryz.prog 84 #[.slice A (digs n).length cp, .int .i64 f] w (MadeI (digs (n * f)) w) := by
  obtain ⟨k, hk⟩ := (refTimes_eq n f hf hf2 hl).rounds
  exact (puncheonref17_times.calls k A cp (digs n) f _ w hr hc hk)
theorem rAbove_any (n m : Nat) (B : Option Addr) (cb : Nat) (hl : (digs n).length ≤ 1000000) (hr : (Kd.int .i64).C w A (digs n).length (digs n)) (hc : (digs n).length ≤ cp) (hb : (Kd.int .i64).C w B (digs m).length (digs m)) (hcb : (digs m).length ≤ cb) : Calls Tryz.prog 88 #[.slice A (digs n).length cp, .slice B (digs m).length cb] w (Ret (.bool (decide (m < n))) w) := by
  obtain ⟨k, hk⟩ := (refAbove_eq n m hl).rounds
  exact (puncheonref17_above.calls k A cp (digs n) B cb (digs m) _ w hr hc hb hcb hk).mono fun e w' h => ⟨h.1, h.2.below⟩
end
end Go.Proofs.YtdkemdcflbadhaaGreat
namespace Go.Proofs.YtdkemdcflbadhaaGreat
open Go.RowKit Go.IntWalk Go.Proofs.YtdkemdcflbadhaaGreatW.PrintWords
set_option maxRecDepth 100000 in
set_option maxHeartbeats 2000000 in
theorem rRightT_any (lg : Int) (one : Bool) (A : Option Addr) (c : Nat) (qs : List (List Int)) (w : World) (hr : kq.C w A qs.length qs) (h : rightM lg one qs = true) (h1 : one = true → 0 < (qs.getD 0 []).length) :
    Calls Tryz.prog 138 #[.agg #[.int .i64 lg, .bool one, .slice A qs.length c]] w (Ret (.bool true) w) := by
  obtain ⟨W1, hW1⟩ : ∃ W1, W1 = w.alloc (.cells #[.int .i64 lg, .bool one, .slice A qs.length c] 31) := ⟨_, rfl⟩
  have HB := Lib.hid ((Below.refl w.heap.size w).alloc (Nat.le_refl _) (.cells #[.int .i64 lg, .bool one, .slice A qs.length c] 31))
  have hk1 : W1.heap[w.heap.size]? = some (.cells #[.int .i64 lg, .bool one, .slice A qs.length c] 31 (0, 0)) := by rw [hW1]; exact blk_new _ _
  have HR : Hid (kq.C W1 A qs.length qs) := Lib.hid (by rw [hW1]; exact Kd.C_alloc hr _)
  rw [← hW1] at HB
  obtain ⟨l1, l2, l3, l4⟩ := right_len h
  have HL := Lib.hid (And.intro h1 (And.intro l3 l4))
  have HK := Lib.hid hk1
  have hn : Hid (qs.length ≤ 256) := Lib.hid (by rw [l3]; split <;> omega)
  have d1 : decide (lg < 1) = false := decide_eq_false (by omega)
  have d2 : decide (12 < lg) = false := decide_eq_false (by omega)
  have hd0 : (one = true ∧ qs.length = 1) ∨ (one = false ∧ qs.length = 256) := by cases one <;> simp_all
  obtain ⟨⟨m0, m1, m2⟩, _⟩ := cell3 hk1
  clear hr h h1 l1 l2 l3 l4 hk1
  obtain ⟨n, hnn⟩ : ∃ n, n = qs.length := ⟨_, rfl⟩
  rw [← hnn] at hd0 hn m2 HR HK ⊢
  rw [show (Obj.cells #[.int .i64 lg, .bool one, .slice A qs.length c] 31) = Obj.cells #[.int .i64 lg, .bool one, .slice A n c] 31 by rw [hnn]] at hW1
  have HN := Lib.hid hnn
  clear hnn
  have hcut : ∀ (o : Bool) (q1 q2 : Bool), True := fun _ _ _ => trivial
  have HF : one = true → ∀ i, i < n → (qs.getD i []).length ≠ 0 := fun e i hi => by
    rcases hd0 with ⟨_, e2⟩ | ⟨e1, _⟩
    · have := HL.out.1 e
      rw [show i = 0 by omega]; omega
    · rw [e] at e1; cases e1
  have HF' := Lib.hid HF
  clear HF
  have d3 : one = true → ((n : Int) != 1) = false := fun e => by rcases hd0 with ⟨_, e2⟩ | ⟨e1, _⟩ <;> simp_all
  have d4 : one = false → ((n : Int) != 256) = false := fun e => by rcases hd0 with ⟨e1, _⟩ | ⟨_, e2⟩ <;> simp_all
  have main : ∀ o : Bool, one = o → Calls Tryz.prog 138 #[.agg #[.int .i64 lg, .bool one, .slice A n c]] w (Ret (.bool true) w) := by
    intro o ho
    subst ho
    cases one
    all_goals
      first | have d5 := d3 rfl | have d5 := d4 rfl
      clear d3 d4 hd0 hcut
      go_enter Tryz.func138, Tryz.ntmps138
      go_wp2_with fail
      rw [← hW1]
      clear hW1 m0 m1 m2
      go_loopw [3] (fun kv wr => ∃ (i : Nat), kv = .int .i64 i ∧ i ≤ n ∧ Hid (Below W1.heap.size W1 wr)) (fun kv _ => n - (intOf kv).toNat)
      case atStart => exact ⟨0, rfl, by omega, Lib.hid (Below.refl _ _)⟩
      case round =>
        obtain ⟨i, rfl, hi, H⟩ := hrel
        obtain ⟨⟨m0, m1, m2⟩, _⟩ := cell3 (blk_below HK.out H.out)
        have hn256 := hn.out
        by_cases hlt : i < n
        · obtain ⟨ad, B, cb, rfl, hcell, hcb, hq⟩ := kq_at (Kd.C_below HR.out H.out) i hlt
          have hqs : i < qs.length := by rw [← HN.out]; exact hlt
          have HQL : Hid ((qs.getD i []).length ≠ 0 → (logC (qs.getD i []) : Int) = lg) := Lib.hid (fun e => (HL.out.2.2 _ (by rw [List.getD_eq_getElem?_getD, List.getElem?_eq_getElem hqs]; exact List.getElem_mem hqs) e).2)
          have HFi := fun e => HF'.out e i hlt
          obtain ⟨q, hqq⟩ : ∃ q, q = qs.getD i [] := ⟨_, rfl⟩
          rw [← hqq] at hcell hcb hq HQL HFi
          clear hqq hqs
          have HQ := Lib.hid (And.intro hcb hq)
          have hiI : (i : Int) < (n : Int) := by omega
          by_cases h0 : q.length = 0
          · first
              | exact absurd h0 (HFi (by first | exact True.intro | rfl))
              | (have d6 : ((q.length : Int) == 0) = true := by rw [h0]; rfl
                 clear h0 hlt hcb hq HFi
                 go_wp2_with fail
                 go_roundw
                 case rel => exact ⟨i + 1, by go_num, by omega, H⟩
                 case measure => simp [intOf]; omega)
          · have d6 : ((q.length : Int) == 0) = false := by simp; intro e; subst e; simp at h0
            have d7 : ((logC q : Int) != lg) = false := by simp; exact HQL.out h0
            clear h0 hcb hq HFi
            go_wp2_with fail
            go_region_held3 (fun w' => w'.cell? (ad.add i) = some (.slice B q.length cb) ∧ w'.cell? ⟨w.heap.size, 0, none⟩ = some (.int .i64 lg) ∧ w'.cell? ⟨w.heap.size, 2, none⟩ = some (.slice (some ad) n c)) ((repeat' apply And.intro) <;> first | assumption)
              (first | (go_at_call 118; refine (rLog_any B cb q _ (Kd.C_below HQ.out.2 (by first | exact (Below.refl _ _).drew | exact Below.refl _ _)) HQ.out.1).mono ?_; rintro e w2 ⟨rfl, hb2⟩; have k0 := pw_cell_below (w := wr) ⟨hb2.os, hb2.tape, hb2.output, hb2.size, hb2.block⟩ hcell; have k1 := pw_cell_below (w := wr) ⟨hb2.os, hb2.tape, hb2.output, hb2.size, hb2.block⟩ m0; have k2 := pw_cell_below (w := wr) ⟨hb2.os, hb2.tape, hb2.output, hb2.size, hb2.block⟩ m2; have HV2 := Lib.hid (show Below wr.heap.size wr w2 from ⟨hb2.os, hb2.tape, hb2.output, hb2.size, hb2.block⟩); clear hb2))
            all_goals
              go_wp2_with fail
              go_roundw
              case rel => exact ⟨i + 1, by go_num, by omega, Lib.hid (below_tr H.out HV2.out)⟩
              case measure => simp [intOf]; omega
        · obtain rfl : i = n := by omega
          go_wp2_with fail
          go_ret
          exact ⟨rfl, below_tr HB.out H.out⟩
  exact main one rfl
end Go.Proofs.YtdkemdcflbadhaaGreat
namespace Go.Proofs.YtdkemdcflbadhaaGreat
open Go.RowKit Go.IntWalk Go.Proofs.YtdkemdcflbadhaaGreatW.PrintWords
/-- a list of the model, as it lies -/
def AtPost (q : List Int) (w : World) (e : Ending) (w' : World) : Prop := ∃ (B : Option Addr) (cb : Nat), e = .returned (.slice B q.length cb) ∧ q.length ≤ cb ∧ (Kd.int .i64).C w' B q.length q ∧ Below w.heap.size w w'
set_option maxRecDepth 100000 in
set_option maxHeartbeats 1000000 in
theorem rMAt_any (lg : Int) (one : Bool) (A : Option Addr) (c : Nat) (qs : List (List Int)) (x : Nat) (w : World) (hr : kq.C w A qs.length qs) (h : rightM lg one qs = true) (h1 : one = true → 0 < (qs.getD 0 []).length) (hx : x < 256) :
    Calls Tryz.prog 85 #[.agg #[.int .i64 lg, .bool one, .slice A qs.length c], .int .i64 x] w (AtPost (qs.getD (listI one x) []) w) := by
  obtain ⟨W1, hW1⟩ : ∃ W1, W1 = w.alloc (.cells #[.int .i64 lg, .bool one, .slice A qs.length c] 31) := ⟨_, rfl⟩
  have HB := Lib.hid ((Below.refl w.heap.size w).alloc (Nat.le_refl _) (.cells #[.int .i64 lg, .bool one, .slice A qs.length c] 31))
  have hk1 : W1.heap[w.heap.size]? = some (.cells #[.int .i64 lg, .bool one, .slice A qs.length c] 31 (0, 0)) := by rw [hW1]; exact blk_new _ _
  have HR : Hid (kq.C W1 A qs.length qs) := Lib.hid (by rw [hW1]; exact Kd.C_alloc hr _)
  rw [← hW1] at HB
  have hlen := (right_len h).2.2.1
  have hi : listI one x < qs.length := by rw [hlen]; unfold listI; cases one <;> simp <;> omega
  have HX := Lib.hid (rRightT_any lg one A c qs W1 HR.out h h1)
  have HK := Lib.hid hk1
  have d1 : decide ((x : Int) < 0) = false := decide_eq_false (by omega)
  have d2 : decide (255 < (x : Int)) = false := decide_eq_false (by omega)
  obtain ⟨⟨m0, m1, m2⟩, _⟩ := cell3 hk1
  have HI := Lib.hid hi
  obtain ⟨q, hqq⟩ : ∃ q, q = qs.getD (listI one x) [] := ⟨_, rfl⟩
  rw [← hqq]
  have HQQ := Lib.hid hqq
  clear hr h h1 hk1 hlen hi hqq
  go_enter Tryz.func85, Tryz.ntmps85
  go_wp2_with fail
  rw [← hW1]
  go_wp2_with fail
  refine HX.out.mono ?_
  rintro e w2 ⟨rfl, hb2⟩
  obtain ⟨⟨n0, n1, n2⟩, _⟩ := cell3 (blk_below HK.out hb2)
  obtain ⟨ad, B, cb, rfl, hcell, hcb, hq⟩ := kq_at (Kd.C_below HR.out hb2) _ HI.out
  have HB2 := Lib.hid (below_tr HB.out hb2)
  rw [← HQQ.out] at hcell hcb hq
  have HQ := Lib.hid (And.intro hcb hq)
  clear hb2 hcb hq hW1 m0 m1 m2
  cases one
  · have e1 : listI false x = x := rfl
    rw [e1] at hcell HI
    have hiI : (x : Int) < (qs.length : Int) := by have := HI.out; omega
    clear e1
    go_wp2_with fail
    go_ret
    exact ⟨B, cb, rfl, HQ.out.1, HQ.out.2, HB2.out⟩
  · have e1 : listI true x = 0 := rfl
    rw [e1] at hcell HI
    have hiI : (0 : Int) < (qs.length : Int) := by have := HI.out; omega
    have hcell0 : w2.cell? ad = some (.slice B q.length cb) := hcell
    clear e1
    go_wp2_with fail
    go_ret
    exact ⟨B, cb, rfl, HQ.out.1, HQ.out.2, HB2.out⟩
end Go.Proofs.YtdkemdcflbadhaaGreat
namespace Go.Proofs.YtdkemdcflbadhaaGreat
def xP (one : Bool) (qs : List (List Int)) (b : List Int) : Nat → Nat
  | 0 => 1
  | i + 1 => xP one qs b i * cntC (qAt one qs b i) (b.getD i 0)
def yP (S : Nat) (one : Bool) (qs : List (List Int)) (b : List Int) : Nat → Nat
  | 0 => 1
  | i + 1 => yP S one qs b i * (S + posC (qAt one qs b i) (qAt one qs b i).length - 1)
theorem xT_ctx (one : Bool) (qs : List (List Int)) (b : List Int) (i : Nat) : xT one qs (b.getD i 0) (b.drop (i + 1)) = xT one qs (ctxI b ((i + 1 : Nat) : Int)) (b.drop (i + 1)) := by
  by_cases h : i + 1 < b.length
  · rw [ctx_next h]
  · rw [List.drop_of_length_le (by omega)]; rfl
theorem yT_ctx (S : Int) (one : Bool) (qs : List (List Int)) (b : List Int) (i : Nat) : yT S one qs (b.getD i 0) (b.drop (i + 1)) = yT S one qs (ctxI b ((i + 1 : Nat) : Int)) (b.drop (i + 1)) := by
  by_cases h : i + 1 < b.length
  · rw [ctx_next h]
  · rw [List.drop_of_length_le (by omega)]; rfl
theorem xP_all (one : Bool) (qs : List (List Int)) (b : List Int) : ∀ i, i ≤ b.length → (xP one qs b i : Int) * xT one qs (ctxI b ((i : Nat) : Int)) (b.drop i) = xT one qs (ctxI b ((0 : Nat) : Int)) b := by
  intro i
  induction i with
  | zero => intro _; simp [xP]
  | succ i ih =>
    intro h
    have h1 := ih (by omega)
    rw [drop_cons b i (by omega)] at h1
    simp only [xT] at h1
    rw [xT_ctx] at h1
    simp only [xP]
    rw [← h1, Int.natCast_mul, qAt_qOf, Int.mul_assoc]
theorem yP_all (S : Nat) (hS : 1 ≤ S) (one : Bool) (qs : List (List Int)) (b : List Int) : ∀ i, i ≤ b.length → (yP S one qs b i : Int) * yT S one qs (ctxI b ((i : Nat) : Int)) (b.drop i) = yT S one qs (ctxI b ((0 : Nat) : Int)) b := by
  intro i
  induction i with
  | zero => intro _; simp [yP]
  | succ i ih =>
    intro h
    have h1 := ih (by omega)
    rw [drop_cons b i (by omega)] at h1
    simp only [yT] at h1
    rw [yT_ctx] at h1
    simp only [yP]
    have e : ((S + posC (qAt one qs b i) (qAt one qs b i).length - 1 : Nat) : Int) = (S : Int) + (posC (qAt one qs b i) (qAt one qs b i).length : Nat) - 1 := by omega
    rw [← h1, Int.natCast_mul, e, qAt_qOf, Int.mul_assoc]
theorem cheap_end {lg : Int} {one : Bool} {qs : List (List Int)} {b : List Int} (h : canM lg one qs b = true) (hb : Bytes b) (h0 : 0 < b.length) :
    2 ^ (encT one qs 0 0 b).2.length * xP one qs b b.length ≤ yP (2 ^ lg.toNat) one qs b b.length := by
  have h1 := (cheap_law h hb h0).2
  have h2 := xP_all one qs b b.length (Nat.le_refl _)
  have h3 := yP_all (2 ^ lg.toNat) (Nat.two_pow_pos _) one qs b b.length (Nat.le_refl _)
  rw [List.drop_length, show ctxI b ((0 : Nat) : Int) = 0 from ctx_zero b h0] at h2 h3
  simp only [xT, yT, Int.mul_one] at h2 h3
  have e : (((2 ^ lg.toNat : Nat) : Int)) = 2 ^ lg.toNat := by simp
  rw [e] at h3
  rw [← h2, ← h3] at h1
  have h4 : ((2 ^ (encT one qs 0 0 b).2.length * xP one qs b b.length : Nat) : Int) = (xP one qs b b.length : Int) * 2 ^ (encT one qs 0 0 b).2.length := by
    rw [Int.natCast_mul, Int.mul_comm]; simp
  omega
/-- a number below 65536^k has at most k words -/
theorem digs_short : ∀ (k n : Nat), n < 65536 ^ k → (digs n).length ≤ k := by
  intro k
  induction k with
  | zero =>
    intro n h
    have : n = 0 := by simpa using h
    subst this; rw [digs_zero]; simp
  | succ k ih =>
    intro n h
    by_cases h0 : n = 0
    · subst h0; rw [digs_zero]; simp
    · rw [digs_pos (by omega), List.length_cons]
      have : n / 65536 < 65536 ^ k := by
        rw [Nat.div_lt_iff_lt_mul (by omega)]
        rw [Nat.pow_succ] at h; exact h
      have := ih _ this
      omega
theorem xP_short {one : Bool} {qs : List (List Int)} {b : List Int} : ∀ i, (∀ j, j < i → cntC (qAt one qs b j) (b.getD j 0) ≤ 65536) → xP one qs b i ≤ 65536 ^ i := by
  intro i
  induction i with
  | zero => intro _; simp [xP]
  | succ i ih =>
    intro h
    simp only [xP]
    rw [Nat.pow_succ]
    exact Nat.mul_le_mul (ih (fun j hj => h j (by omega))) (h i (by omega))
theorem yP_short {S : Nat} {one : Bool} {qs : List (List Int)} {b : List Int} : ∀ i, (∀ j, j < i → S + posC (qAt one qs b j) (qAt one qs b j).length - 1 ≤ 65536) → yP S one qs b i ≤ 65536 ^ i := by
  intro i
  induction i with
  | zero => intro _; simp [yP]
  | succ i ih =>
    intro h
    simp only [yP]
    rw [Nat.pow_succ]
    exact Nat.mul_le_mul (ih (fun j hj => h j (by omega))) (h i (by omega))
end Go.Proofs.YtdkemdcflbadhaaGreat
namespace Go.Proofs.YtdkemdcflbadhaaGreat
open Go.RowKit Go.IntWalk Go.Proofs.YtdkemdcflbadhaaGreatW.PrintWords
/-- so far: a number in words, in memory of the call's own -/
def NumR (B0 : Nat) (v : Value) (n : Nat) (wr : World) : Prop := (Kd.int .i64).R 3 wr B0 (fun _ => True) v (digs n)
theorem pow_words {n i k : Nat} (h : n ≤ 65536 ^ i) (hk : i + 1 ≤ k) : (digs n).length ≤ k := by
  have : 65536 ^ i < 65536 ^ k := Nat.pow_lt_pow_right (by omega) (by omega)
  exact digs_short k n (by omega)
theorem pow_16 (k : Nat) : (65536 : Nat) ^ k = 2 ^ (16 * k) := by rw [show (65536 : Nat) = 2 ^ 16 by rfl, ← Nat.pow_mul]
theorem two_words {i k : Nat} (h : i < 16 * k) : (digs (2 ^ i)).length ≤ k := by
  refine digs_short k _ ?_
  rw [pow_16]; exact Nat.pow_lt_pow_right (by omega) h
theorem prod_words {bits i x k : Nat} (hx : x ≤ 65536 ^ i) (h : bits + 16 * i < 16 * k) : (digs (2 ^ bits * x)).length ≤ k := by
  refine digs_short k _ ?_
  rw [pow_16] at hx ⊢
  have h1 : 2 ^ bits * x ≤ 2 ^ bits * 2 ^ (16 * i) := Nat.mul_le_mul (Nat.le_refl _) hx
  rw [← Nat.pow_add] at h1
  have h2 : (2 : Nat) ^ (bits + 16 * i) < 2 ^ (16 * k) := Nat.pow_lt_pow_right (by omega) h
  omega
theorem num_reads {B0 n : Nat} {v : Value} {wr : World} (h : NumR B0 v n wr) : ∃ (A : Option Addr) (c : Nat), v = .slice A (digs n).length c ∧ (digs n).length ≤ c ∧ (Kd.int .i64).C wr A (digs n).length (digs n) := by
  obtain ⟨A, c, rfl⟩ := Kd.R_slice h
  exact ⟨A, c, rfl, (Kd.R_reads' h).2⟩
theorem posC_ge (c : List Int) (k : Nat) (hk : 0 < c.getD k 0) : ∀ d, k + 1 + d ≤ c.length → 1 ≤ posC c (k + 1 + d) := by
  intro d
  induction d with
  | zero =>
    intro h
    have := posC_succ c k (by omega)
    rw [if_pos hk] at this; rw [Nat.add_zero]; omega
  | succ d ih =>
    intro h
    have h1 := ih (by omega)
    have := posC_succ c (k + 1 + d) (by omega)
    rw [show k + 1 + (d + 1) = k + 1 + d + 1 by omega]; omega
structure QFacts (lg : Nat) (one : Bool) (qs : List (List Int)) (b : List Int) (i : Nat) : Prop where
  ctx : 0 ≤ ctxI b i ∧ ctxI b i < 256
  len : (qAt one qs b i).length ≤ 1000000
  pos1 : 1 ≤ posC (qAt one qs b i) (qAt one qs b i).length
  pos : posC (qAt one qs b i) (qAt one qs b i).length ≤ 256
  cnt : 0 < cntC (qAt one qs b i) (b.getD i 0) ∧ cntC (qAt one qs b i) (b.getD i 0) ≤ 4096
  get : ∃ k : Nat, b.getD i 0 = k ∧ k < (qAt one qs b i).length ∧ (qAt one qs b i).getD k 0 = cntC (qAt one qs b i) (b.getD i 0)
theorem q_facts {lg : Nat} {one : Bool} {qs : List (List Int)} {b : List Int} (h : fitsM lg one qs b = true) (hb : Bytes b) (i : Nat) (hi : i < b.length) : QFacts lg one qs b i := by
  obtain ⟨h1, h2, h3⟩ := fit_count h hb i hi
  have hx := hb.get i
  obtain ⟨x, hxe⟩ : ∃ x : Nat, b.getD i 0 = x := ⟨(b.getD i 0).toNat, by omega⟩
  have hg := good_of_log h1
  have h5 := cnt_eq hg x
  have hlen : (qAt one qs b i).length = 256 := hg.len
  have hp := posC_le (qAt one qs b i) (qAt one qs b i).length
  have hc := cnt_le h1 (b.getD i 0)
  have hl := (pow_le12 (r := logC (qAt one qs b i)) (logT_le _))
  refine ⟨ctx_range hb i hi, by omega, ?_, by omega, ⟨h3, ?_⟩, x, hxe, by omega, ?_⟩
  · have h6 := (hg.get x).1
    have := posC_ge (qAt one qs b i) x (by rw [hxe] at h3; omega) ((qAt one qs b i).length - (x + 1)) (by omega)
    rw [show x + 1 + ((qAt one qs b i).length - (x + 1)) = (qAt one qs b i).length by omega] at this; exact this
  · have e2 : (2 : Int) ^ logC (qAt one qs b i) = ((2 ^ logC (qAt one qs b i) : Nat) : Int) := by simp
    rw [e2] at hl
    omega
  · have := (hg.get x).1
    rw [hxe]; omega
/-- behind the first loop -/
structure C1 (B0 : Nat) (W3 : World) (xv : Value) (i : Nat) (wr : World) : Prop where
  x : NumR B0 xv (2 ^ i) wr
  below : Below W3.heap.size W3 wr
theorem c1_step {B0 : Nat} {W3 w1 w2 : World} {xv v : Value} {i : Nat} (h : C1 B0 W3 xv i w1) (hB : B0 ≤ w1.heap.size) (hv : (Kd.int .i64).R 3 w2 w1.heap.size (fun _ => True) v (digs (2 ^ i * 2))) (hb : Below w1.heap.size w1 w2) : C1 B0 W3 v (i + 1) w2 :=
  ⟨by unfold NumR; rw [Nat.pow_succ]; exact Kd.R_lower hv hB, below_tr h.below hb⟩
structure C2 (B0 S : Nat) (one : Bool) (qs : List (List Int)) (b : List Int) (bits : Nat) (W3 : World) (xv yv : Value) (i : Nat) (wr : World) : Prop where
  x : NumR B0 xv (2 ^ bits * xP one qs b i) wr
  y : NumR B0 yv (yP S one qs b i) wr
  below : Below W3.heap.size W3 wr
theorem c2_step {B0 S : Nat} {one : Bool} {qs : List (List Int)} {b : List Int} {bits : Nat} {W3 w1 w3 : World} {xv yv v u : Value} {i : Nat} (h : C2 B0 S one qs b bits W3 xv yv i w1)
    (hv : NumR B0 v (2 ^ bits * xP one qs b i * cntC (qAt one qs b i) (b.getD i 0)) w3) (hu : NumR B0 u (yP S one qs b i * (S + posC (qAt one qs b i) (qAt one qs b i).length - 1)) w3) (hb : Below w1.heap.size w1 w3) : C2 B0 S one qs b bits W3 v u (i + 1) w3 :=
  ⟨by unfold xP; rw [← Nat.mul_assoc]; exact hv, hu, below_tr h.below hb⟩
theorem rTimes_n (A : Option Addr) (cp : Nat) (w : World) (n f m : Nat) (hm : m = (digs n).length) (hf : 0 < f) (hf2 : f ≤ 100000) (hl : m ≤ 1000000) (hr : (Kd.int .i64).C w A m (digs n)) (hc : m ≤ cp) : Calls Tryz.prog 84 #[.slice A m cp, .int .i64 f] w (MadeI (digs (n * f)) w) := by
  subst hm; exact rTimes_any A cp w n f hf hf2 hl hr hc
set_option maxRecDepth 100000 in
set_option maxHeartbeats 2000000 in
theorem rCheap_any (g : Nat) (one : Bool) (A B : Option Addr) (c cb bits : Nat) (qs : List (List Int)) (b : List Int) (w : World) (hr : kq.C w A qs.length qs) (hb : (Kd.int .u8).C w B b.length b) (hcb : b.length ≤ cb) (hby : Bytes b) (hcan : canM g one qs b = true) (hl : b.length ≤ 60) (h0 : 0 < b.length) (hbits : bits = (encT one qs 0 0 b).2.length) (hb1 : bits ≤ 1000) (h1 : one = true → 0 < (qs.getD 0 []).length) :
    Calls Tryz.prog 32 #[.agg #[.int .i64 g, .bool one, .slice A qs.length c], .slice B b.length cb, .int .i64 bits] w (Ret (.bool true) w) := by
  obtain ⟨W1, hW1⟩ : ∃ W1, W1 = w.alloc (.cells #[.int .i64 g, .bool one, .slice A qs.length c] 31) := ⟨_, rfl⟩
  have HB := Lib.hid ((Below.refl w.heap.size w).alloc (Nat.le_refl _) (.cells #[.int .i64 g, .bool one, .slice A qs.length c] 31))
  have hk1 : W1.heap[w.heap.size]? = some (.cells #[.int .i64 g, .bool one, .slice A qs.length c] 31 (0, 0)) := by rw [hW1]; exact blk_new _ _
  have HR : Hid (kq.C W1 A qs.length qs) := Lib.hid (by rw [hW1]; exact Kd.C_alloc hr _)
  have HBB : Hid ((Kd.int .u8).C W1 B b.length b) := Lib.hid (by rw [hW1]; exact Kd.C_alloc hb _)
  rw [← hW1] at HB
  have HE := Lib.hid (cheap_end hcan hby h0)
  rw [← hbits, show ((g : Int)).toNat = g by simp] at HE
  have hfit := (can_log hcan).1
  have HX := Lib.hid (And.intro hcb (And.intro hby (And.intro hfit (And.intro hl (And.intro h0 h1)))))
  have HK := Lib.hid hk1
  have hg : g ≤ 12 := by have := (right_len (fits_right hfit)).2.1; omega
  obtain ⟨⟨m0, m1, m2⟩, _⟩ := cell3 hk1
  have HLT := Lib.hid (blk_lt hk1)
  clear hr hb hcb hby hcan hl h0 hbits h1 hk1 hfit
  have hwr : Hid (wrap64 ((2 : Int) ^ g) = ((2 ^ g : Nat) : Int)) := by
    have := pow_le12 hg
    have e : (2 : Int) ^ g = ((2 ^ g : Nat) : Int) := by simp
    exact Lib.hid (by rw [← e]; exact w64 (by omega))
  obtain ⟨W3, hW3⟩ : ∃ W3, W3 = (W1.alloc (.cells #[.int .i64 1] 3)).alloc (.cells #[.int .i64 1] 3) := ⟨_, rfl⟩
  have HB3 : Hid (Below W1.heap.size W1 W3) := Lib.hid (by rw [hW3]; exact below_al (below_al (Below.refl _ _) _) _)
  have hsz : W1.heap.size = w.heap.size + 1 := by rw [hW1]; simp
  have HX0 : Hid (NumR w.heap.size (.slice (some ⟨w.heap.size + 1, 0, none⟩) 1 1) 1 W3) := Lib.hid (by
    unfold NumR
    rw [digs_one, hW3, ← hsz]
    exact Kd.R_alloc (row_lit .i64 3 W1 w.heap.size (fun _ => True) trivial (by have := HB.out.size; omega) [1] (by simp)) _)
  have HY0 : Hid (NumR w.heap.size (.slice (some ⟨w.heap.size + 1 + 1, 0, none⟩) 1 1) 1 W3) := Lib.hid (by
    unfold NumR
    rw [digs_one, hW3, ← hsz]
    have := row_lit .i64 3 (W1.alloc (.cells #[.int .i64 1] 3)) w.heap.size (fun _ => True) trivial (by have := HB.out.size; simp; omega) [1] (by simp)
    simp only [World.size_alloc] at this
    exact this)
  have HSZ := Lib.hid hsz
  clear hsz
  go_enter Tryz.func32, Tryz.ntmps32
  go_wp2_with fail
  rw [← hW1, ← hW3]
  rw [hwr.out]
  clear hW1 hW3 hwr m0 m1 m2
  obtain ⟨gs, hgs⟩ : ∃ gs : Nat, gs = 2 ^ g := ⟨_, rfl⟩
  rw [← hgs] at HE ⊢
  have HGS : Hid (1 ≤ gs ∧ gs ≤ 4096) := by
    have h1 := pow_le12 hg
    have e : (2 : Int) ^ g = ((2 ^ g : Nat) : Int) := by simp
    rw [e] at h1
    rw [hgs]; exact ⟨Nat.one_le_two_pow, by omega⟩
  clear hgs
  have HSW : Hid (w.heap.size ≤ W3.heap.size) := Lib.hid (Nat.le_trans HB.out.size HB3.out.size)
  go_loopw [8, 10] (fun xv kv wr => ∃ (i : Nat), kv = .int .i64 i ∧ i ≤ bits ∧ Hid (C1 w.heap.size W3 xv i wr)) (fun _ kv _ => bits - (intOf kv).toNat)
  case atStart => exact ⟨0, rfl, by omega, Lib.hid ⟨HX0.out, Below.refl _ _⟩⟩
  case round =>
    obtain ⟨i, rfl, hi, H⟩ := hrel
    obtain ⟨Ax, cx, rfl, hcx, hx⟩ := num_reads H.out.x
    have HV := Lib.hid (And.intro hcx hx)
    clear hcx hx
    have hB : Hid (w.heap.size ≤ wr.heap.size) := Lib.hid (Nat.le_trans HSW.out H.out.below.size)
    have hdl : (digs (2 ^ i)).length ≤ 200 := two_words (by omega)
    obtain ⟨n, hn⟩ : ∃ n, n = (digs (2 ^ i)).length := ⟨_, rfl⟩
    rw [← hn] at H hdl ⊢
    have HN := Lib.hid hn
    clear hn
    by_cases hlt : i < bits
    · have hiI : (i : Int) < (bits : Int) := by omega
      go_wp2_with fail
      have hE := rTimes_any Ax cx wr (2 ^ i) 2 (by omega) (by omega) (by rw [← HN.out]; omega) HV.out.2 HV.out.1
      rw [← HN.out] at hE
      refine hE.mono ?_
      clear hE
      rintro e w2 ⟨v, rfl, hv, hb2⟩
      have hC : Hid (C1 w.heap.size W3 v (i + 1) w2) := Lib.hid (c1_step (xv := .slice Ax n cx) H.out hB.out hv hb2)
      clear hv hb2
      go_wp2_with fail
      go_roundw
      case rel => exact ⟨i + 1, by go_num, by omega, hC⟩
      case measure => simp [intOf]; omega
    · obtain rfl : bits = i := by omega
      go_wp2_with fail
      have HX1 := Lib.hid H.out.x
      have HBW := Lib.hid H.out.below
      have hYw : Hid (C2 w.heap.size gs one qs b bits W3 (.slice Ax n cx) (.slice (some ⟨w.heap.size + 1 + 1, 0, none⟩) 1 1) 0 wr) := Lib.hid ⟨by simp only [xP, Nat.mul_one]; exact H.out.x, by simp only [yP]; exact Kd.R_below HY0.out H.out.below, H.out.below⟩
      clear H hlt hi HN hdl HX1 HBW hB HV HX0 HY0
      have hl60 := HX.out.2.2.2.1
      go_loopw [8, 9, 11] (fun xv yv kv wr => ∃ (i : Nat), kv = .int .i64 i ∧ i ≤ b.length ∧ Hid (C2 w.heap.size gs one qs b bits W3 xv yv i wr)) (fun _ _ kv _ => b.length - (intOf kv).toNat)
      case atStart => exact ⟨0, rfl, by omega, hYw⟩
      case round =>
        clear hYw
        obtain ⟨i, rfl, hi, H⟩ := hrel
        by_cases hlt : i < b.length
        · have hF := q_facts HX.out.2.2.1 HX.out.2.1 i hlt
          obtain ⟨bi, hbi, hbl, hbc⟩ := hF.get
          have hxw := prod_words (bits := bits) (k := 200) (i := i) (xP_short (one := one) (qs := qs) (b := b) i (fun j hj => by have := (q_facts HX.out.2.2.1 HX.out.2.1 j (by omega)).cnt.2; omega)) (by omega)
          have hyw := pow_words (k := 61) (i := i) (yP_short (S := gs) (one := one) (qs := qs) (b := b) i (fun j hj => by have := (q_facts HX.out.2.2.1 HX.out.2.1 j (by omega)).pos; have := HGS.out; omega)) (by omega)
          have HW := Lib.hid (And.intro hxw hyw)
          have HC := Lib.hid (fun v u w3 => c2_step (v := v) (u := u) (w3 := w3) H.out)
          obtain ⟨ct, hct⟩ : ∃ ct, ct = cntC (qAt one qs b i) (b.getD i 0) := ⟨_, rfl⟩
          obtain ⟨po, hpo⟩ : ∃ po, po = posC (qAt one qs b i) (qAt one qs b i).length := ⟨_, rfl⟩
          obtain ⟨X, hX⟩ : ∃ X, X = 2 ^ bits * xP one qs b i := ⟨_, rfl⟩
          obtain ⟨Y, hY⟩ : ∃ Y, Y = yP gs one qs b i := ⟨_, rfl⟩
          obtain ⟨x, hx⟩ : ∃ x : Nat, ctxI b i = x := ⟨(ctxI b i).toNat, by have := hF.ctx; omega⟩
          have hx256 : x < 256 := by have := hF.ctx; omega
          have HNX := H.out.x
          have HNY := H.out.y
          rw [← hX] at HNX hxw HW HC
          rw [← hY] at HNY hyw HW HC
          rw [← hct, ← hpo] at HC
          rw [← hct] at hbc
          obtain ⟨q, hq⟩ : ∃ q, q = qAt one qs b i := ⟨_, rfl⟩
          have hq2 : qs.getD (listI one x) [] = q := by rw [hq]; unfold qAt; rw [hx]
          have hF2 := hF.pos
          have hF1 := hF.pos1
          have hF3 := hF.cnt
          have hF4 := hF.len
          rw [← hpo] at hF2 hF1
          rw [← hct] at hF3
          rw [← hq] at hbl hbc hpo hF4
          have HA := rMAt_any (g : Int) one A c qs x
          rw [hq2] at HA
          have HAt := Lib.hid HA
          have HBW := Lib.hid (below_tr HB3.out H.out.below)
          have HCX := Lib.hid (show ∀ W : World, Below wr.heap.size wr W → Calls Tryz.prog 86 #[.slice B b.length cb, .int .i64 i] W (Ret (.int .i64 x) W) from fun W hW => by
            have := rAt_any B cb b W (Kd.C_below HBB.out (below_tr HBW.out hW)) HX.out.1 HX.out.2.1 (by omega) i
            rw [hx] at this; exact this)
          have HAX := Lib.hid (show ∀ W : World, Below wr.heap.size wr W → Calls Tryz.prog 85 #[.agg #[.int .i64 g, .bool one, .slice A qs.length c], .int .i64 x] W (AtPost q W) from fun W hW =>
            HAt.out W (Kd.C_below HR.out (below_tr HBW.out hW)) (fits_right HX.out.2.2.1) HX.out.2.2.2.2.2 hx256)
          have HNXY := Lib.hid (And.intro HNX HNY)
          have HBI := Lib.hid (And.intro hbi hbc)
          have HPO := Lib.hid hpo
          obtain ⟨⟨m0, m1, m2⟩, _⟩ := cell3 (blk_below HK.out HBW.out)
          have hBs : Hid (w.heap.size ≤ wr.heap.size) := Lib.hid (Nat.le_trans HB.out.size HBW.out.size)
          have hbs1 := HGS.out.1
          have hbs2 := HGS.out.2
          have hf1 := hF3.1
          have hf2 := hF3.2
          have hiI : (i : Int) < (b.length : Int) := by omega
          clear HA HAt hq2 hF hct hX hY hx hq HNX HNY hbi hbc hpo H hxw hyw hi hF3
          obtain ⟨Ax, cx, rfl, hcx, hxc⟩ := num_reads HNXY.out.1
          obtain ⟨Ay, cy, rfl, hcy, hyc⟩ := num_reads HNXY.out.2
          have HXC := Lib.hid (And.intro hcx hxc)
          have HYC := Lib.hid (And.intro hcy hyc)
          obtain ⟨nx, hnx⟩ : ∃ nx, nx = (digs X).length := ⟨_, rfl⟩
          obtain ⟨ny, hny⟩ : ∃ ny, ny = (digs Y).length := ⟨_, rfl⟩
          rw [← hnx, ← hny] at HW
          rw [← hnx] at HXC ⊢
          rw [← hny] at HYC ⊢
          have HNN := Lib.hid (And.intro hnx hny)
          clear hcx hxc hcy hyc hnx hny
          go_wp2_with fail
          go_region_held3 (fun w' => w'.cell? ⟨w.heap.size, 0, none⟩ = some (.int .i64 g) ∧ w'.cell? ⟨w.heap.size, 1, none⟩ = some (.bool one) ∧ w'.cell? ⟨w.heap.size, 2, none⟩ = some (.slice A qs.length c)) ((repeat' apply And.intro) <;> first | assumption)
            (first
              | (go_at_call 86; refine (HCX.out _ (Below.refl _ _).drew).mono ?_; rintro e w2 ⟨rfl, hb2⟩; have HV2 := Lib.hid (show Below wr.heap.size wr w2 from ⟨hb2.os, hb2.tape, hb2.output, hb2.size, hb2.block⟩); obtain ⟨k0, k1, k2⟩ := mcells HV2.out (Nat.lt_of_lt_of_le HLT.out HBW.out.size) m0 m1 m2; clear hb2)
              | (go_at_call 85; refine (HAX.out _ HV2.out).mono ?_; rintro e w7 ⟨Bq, cq, rfl, hcq, hqC, hb7⟩; have HV7 := Lib.hid (And.intro hcq (And.intro hqC (below_tr HV2.out hb7))); obtain ⟨l0, l1, l2⟩ := mcells HV7.out.2.2 (Nat.lt_of_lt_of_le HLT.out HBW.out.size) m0 m1 m2; clear hcq hqC hb7))
          have HBC := Lib.hid (Kd.C_below HBB.out (below_tr HBW.out HV7.out.2.2))
          obtain ⟨adb, rfl, hcb0⟩ := ints_get HBC.out i (by omega)
          obtain ⟨adq, rfl, hcq0⟩ := ints_get HV7.out.2.1 bi hbl
          rw [HBI.out.1] at hcb0
          rw [HBI.out.2] at hcq0
          have hcb1 : w7.cell? (adb.add i) = some (.int .u8 (bi : Int)) := hcb0
          have hcq1 : w7.cell? (adq.add bi) = some (.int .i64 (ct : Int)) := hcq0
          have hbiI : (bi : Int) < (q.length : Int) := by omega
          have HN1 := Lib.hid (show nx ≤ 200 ∧ ny ≤ 200 from ⟨HW.out.1, by have := HW.out.2; omega⟩)
          have HTX := Lib.hid (rTimes_n Ax cx w7 X ct nx HNN.out.1 hf1 (by omega) (by have := HN1.out; omega) (Kd.C_below HXC.out.2 HV7.out.2.2) HXC.out.1)
          have HCQ := Lib.hid (And.intro hbl hcq0)
          clear hcb0 hcq0 hbl k0 k1 k2 l0 l1 l2 m0 m1 m2
          go_wp2_with fail
          refine HTX.out.mono ?_
          rintro e w8 ⟨vx, rfl, hvx, hb8⟩
          have HV8 := Lib.hid (And.intro hvx hb8)
          have hB8 := Lib.hid (below_tr HV7.out.2.2 hb8)
          have HMa := Lib.hid (rMany12_any (some adq) cq w8 q (Kd.C_below HV7.out.2.1 hb8) HV7.out.1 hF4)
          rw [← HPO.out] at HMa
          clear hvx hb8
          go_wp2_with fail
          refine HMa.out.mono ?_
          rintro e w9 ⟨rfl, hb9⟩
          have HB9 := Lib.hid (below_tr hB8.out hb9)
          have HV9 := Lib.hid (Kd.R_below HV8.out.1 hb9)
          have HTY := Lib.hid (rTimes_n Ay cy w9 Y (gs + po - 1) ny HNN.out.2 (by omega) (by omega) (by have := HN1.out; omega) (Kd.C_below HYC.out.2 HB9.out) HYC.out.1)
          clear hb9
          go_wp2_with fail
          rw [show ((gs : Int) + (po : Int) - 1) = ((gs + po - 1 : Nat) : Int) by omega]
          refine HTY.out.mono ?_
          rintro e w10 ⟨vy, rfl, hvy, hb10⟩
          have HCC : Hid (C2 w.heap.size gs one qs b bits W3 vx vy (i + 1) w10) := Lib.hid (HC.out vx vy w10 (Kd.R_below (Kd.R_lower HV9.out (Nat.le_trans hBs.out HV7.out.2.2.size)) hb10) (Kd.R_lower hvy (Nat.le_trans hBs.out HB9.out.size)) (below_tr HB9.out hb10))
          clear hvy hb10
          go_wp2_with fail
          go_roundw
          case rel => exact ⟨i + 1, by go_num, by omega, HCC⟩
          case measure => simp [intOf]; omega
        · obtain rfl : i = b.length := by omega
          have hxw := prod_words (bits := bits) (k := 200) (i := b.length) (xP_short (one := one) (qs := qs) (b := b) b.length (fun j hj => by have := (q_facts HX.out.2.2.1 HX.out.2.1 j (by omega)).cnt.2; omega)) (by omega)
          obtain ⟨X, hX⟩ : ∃ X, X = 2 ^ bits * xP one qs b b.length := ⟨_, rfl⟩
          obtain ⟨Y, hY⟩ : ∃ Y, Y = yP gs one qs b b.length := ⟨_, rfl⟩
          have HNX := H.out.x
          have HNY := H.out.y
          have HBW := Lib.hid H.out.below
          rw [← hX, ← hY] at HE
          rw [← hX] at HNX hxw
          rw [← hY] at HNY
          clear H hX hY
          obtain ⟨Ax, cx, rfl, hcx, hxc⟩ := num_reads HNX
          obtain ⟨Ay, cy, rfl, hcy, hyc⟩ := num_reads HNY
          have hE := rAbove_any Ax cx wr X Y Ay cy (by omega) hxc hcx hyc hcy
          rw [decide_eq_false (by have := HE.out; omega)] at hE
          have HA := Lib.hid hE
          clear hE hxc hcx hyc hcy HNX HNY hxw
          go_wp2_with fail
          refine HA.out.mono ?_
          rintro e w2 ⟨rfl, hb2⟩
          have HB2 := Lib.hid hb2
          clear hb2
          go_wp2_with fail
          go_ret
          exact ⟨rfl, below_tr (below_tr (below_tr HB.out HB3.out) HBW.out) HB2.out⟩
end Go.Proofs.YtdkemdcflbadhaaGreat
namespace Go.Proofs.YtdkemdcflbadhaaGreat
open Go.RowKit Go.IntWalk Go.Proofs.YtdkemdcflbadhaaGreatW.PrintWords
theorem encN_len12 {lg : Int} {one : Bool} {qs : List (List Int)} {b : List Int} (h : fitsM lg one qs b = true) (hb : Bytes b) : ∀ k, k ≤ b.length → (encN one qs b k).2.length ≤ 12 * k
  | 0, _ => by simp [encN]
  | k + 1, hk => by
    have ih := encN_len12 h hb k (by omega)
    have hf := fit_count h hb (b.length - 1 - k) (by omega)
    have hr := encN_range h hb k (by omega)
    simp only [encN, List.length_append, lowBits_len]
    have e : lg.toNat = logC (qAt one qs b (b.length - 1 - k)) := by omega
    have hx : ∀ x : Int, 0 ≤ x → x < 2 ^ lg.toNat → stepOut (qAt one qs b (b.length - 1 - k)) x (b.getD (b.length - 1 - k) 0) ≤ 12 := fun x h0 h1 => by
      have h2 := (step_nums (s := b.getD (b.length - 1 - k) 0) hf.1 ⟨h0, by rw [← e]; exact h1⟩ hf.2.2).1.nr
      have h4 : logC (qAt one qs b (b.length - 1 - k)) ≤ 12 := logT_le _
      omega
    have := hx (if (b.length - 1 - k) % 2 = 0 then (encN one qs b k).1.1 else (encN one qs b k).1.2) (by split; exact hr.1; exact hr.2.2.1) (by split; exact hr.2.1; exact hr.2.2.2)
    omega
theorem encBits_len12 {lg : Int} {one : Bool} {qs : List (List Int)} {b : List Int} (h : fitsM lg one qs b = true) (hb : Bytes b) : (encBits lg one qs b).length ≤ 12 * b.length + 24 := by
  have h1 := encN_len12 h hb b.length (Nat.le_refl _)
  have h2 := right_len (fits_right h)
  simp only [encBits, List.length_append, lowBits_len]; omega
end Go.Proofs.YtdkemdcflbadhaaGreat
namespace Go.Proofs.YtdkemdcflbadhaaGreat
open Go.RowKit Go.IntWalk Go.Proofs.YtdkemdcflbadhaaGreatW.PrintWords
/-- the greatest of the first k bits that is set, or 0 -/
def hiN (y : Nat) : Nat → Nat
  | 0 => 0
  | k + 1 => if y / 2 ^ k > 0 then k else hiN y k
theorem hiN_top : ∀ y, y < 256 → 0 < y → hiN y 8 + 1 = Lib.bitLen y := by decide +kernel
theorem hiN_le (y : Nat) : ∀ k, hiN y k ≤ k
  | 0 => Nat.le_refl _
  | k + 1 => by unfold hiN; split; omega; have := hiN_le y k; omega
/-- the last byte of a payload tells how many bits it has -/
theorem hi_bits (bs : List Bool) : ∃ y : Nat, (packB (bs ++ [true])).getD ((packB (bs ++ [true])).length - 1) 0 = y ∧ 0 < y ∧ y < 256 ∧ 8 * ((packB (bs ++ [true])).length - 1) + hiN y 8 = bs.length ∧ 0 < (packB (bs ++ [true])).length ∧ (packB (bs ++ [true])).length = bs.length / 8 + 1 := by
  obtain ⟨h1, h2, h3, _⟩ := pack_closed bs
  obtain ⟨p, hp⟩ : ∃ p, p = packB (bs ++ [true]) := ⟨_, rfl⟩
  rw [← hp] at h1 h2 h3 ⊢
  have hb : 0 ≤ lastB p ∧ lastB p < 256 := by
    unfold lastB
    have := hd_mem (c := p) (i := p.length - 1) (by omega)
    rw [hp] at this ⊢
    exact packB_bytes _ _ this
  refine ⟨(lastB p).toNat, ?_, by omega, by omega, ?_, by omega, h1⟩
  · show lastB p = _; omega
  · have h4 := hiN_top (lastB p).toNat (by omega) (by omega)
    unfold bitsIn at h3
    omega
end Go.Proofs.YtdkemdcflbadhaaGreat
namespace Go.Proofs.YtdkemdcflbadhaaGreat
open Go.RowKit Go.IntWalk Go.Proofs.YtdkemdcflbadhaaGreatW.PrintWords
structure LenF1 (b : List Int) (x p : List Int) (y tl H : Nat) : Prop where
  px : x.length = 33 + (H + 7) / 8 + p.length
  last : p.getD (p.length - 1) 0 = y
  y0 : 0 < y
  y8 : y < 256
  n : 8 * (p.length - 1) + hiN y 8 = tl + 2 * firstR b
  n7 : tl + 2 * firstR b ≤ 744
  p0 : 0 < p.length
  p1 : p.length ≤ 100
  tl' : tl = (encT false (firstL b) 0 0 b).2.length
  Hl : H ≤ 256 * 3072
  r5 : 5 ≤ firstR b ∧ firstR b ≤ 9
set_option maxRecDepth 100000 in
theorem lenF1 {b : List Int} (hb : Bytes b) (hl : b.length ≤ 60) (h0 : 0 < b.length) : ∃ y tl, LenF1 b (body1L b) (packB (encBits (firstR b : Nat) false (firstL b) b ++ [true])) y tl (hdrsB (firstR b) (firstL b) (presN b 256)).length := by
  have hz := firstR_ok b
  have HCan : canM (firstR b : Nat) false (firstL b) b = true := of_can (one := false) hb (by omega) h0
  have hfit := (can_log HCan).1
  have h12 := encBits_len12 hfit hb
  have hc : (encBits (firstR b : Nat) false (firstL b) b).length = (encT false (firstL b) 0 0 b).2.length + 2 * firstR b := by have := (cheap_law HCan hb h0).1; simpa using this
  have hh := hdrsB_len (r := firstR b) (qs := firstL b) (by omega) (presN b 256) (first_nrm hb (by omega))
  have hpl := presN_len b 256
  obtain ⟨y, h1, h2, h3, h4, h5, h6⟩ := hi_bits (encBits (firstR b : Nat) false (firstL b) b)
  refine ⟨y, (encT false (firstL b) 0 0 b).2.length, ⟨?_, h1, h2, h3, by rw [h4, hc], by rw [← hc]; omega, h5, by rw [h6]; omega, rfl, by omega, by omega⟩⟩
  unfold body1L
  rw [List.length_append, List.length_append, List.length_append, dirL_len, packB_len]
  show 1 + 32 + _ + _ = _
  omega
set_option maxRecDepth 100000 in
set_option maxHeartbeats 4000000 in
theorem body1Length_any (A : Option Addr) (ca : Nat) (b : List Int) (w : World) (hr : (Kd.int .u8).C w A b.length b) (hc : b.length ≤ ca) (hby : Bytes b) :
    Calls Tryz.prog 6 #[.slice A b.length ca] w (Ret (.bool true) w) := by
  have HR := Lib.hid hr
  have HX := Lib.hid (And.intro hc hby)
  clear hr hc hby
  by_cases h1 : b.length ≤ 60 ∧ 0 < b.length
  · obtain ⟨h1a, h1b⟩ := h1
    have d1 : decide (60 < (b.length : Int)) = false := decide_eq_false (by omega)
    have d2 : ((b.length : Int) == 0) = false := by simp; intro e; subst e; simp at h1b
    have HL := Lib.hid (And.intro h1a h1b)
    clear h1a h1b
    go_enter Tryz.func6, Tryz.ntmps6
    go_wp2_with fail
    refine (awake20_any w).mono ?_
    rintro e w1 ⟨rfl, hb1⟩
    have HB1 := Lib.hid hb1
    clear hb1
    go_wp2_with fail
    refine (encode1_told A ca b w1 (Kd.C_below HR.out HB1.out) HX.out.2 (by have := HL.out.1; omega) HL.out.2).mono ?_
    intro e w2 h2
    obtain ⟨A2, c2, rfl, hs2, hb2⟩ := h2.out (body1L_bytes b)
    have HLen := Lib.hid (body1L_len HX.out.2 (by have := HL.out.1; omega) HL.out.2)
    have HSpl := Lib.hid (split1_enc HX.out.2 (by have := HL.out.1; omega) HL.out.2)
    have HCan : Hid (canM (firstR b : Nat) false (firstL b) b = true) := of_can (one := false) HX.out.2 (by have := HL.out.1; omega) HL.out.2
    have HNr := Lib.hid (first_nrm HX.out.2 (by have := HL.out.1; omega))
    obtain ⟨y, tl, hF⟩ := lenF1 HX.out.2 HL.out.1 HL.out.2
    obtain ⟨x, hx⟩ : ∃ x, x = body1L b := ⟨_, rfl⟩
    obtain ⟨pl, hpl⟩ : ∃ pl, pl = packB (encBits (firstR b : Nat) false (firstL b) b ++ [true]) := ⟨_, rfl⟩
    obtain ⟨qz, hqz⟩ : ∃ qz, qz = firstL b := ⟨_, rfl⟩
    obtain ⟨L, hL⟩ : ∃ L, L = presN b 256 := ⟨_, rfl⟩
    obtain ⟨H, hH⟩ : ∃ H, H = (hdrsB (firstR b) (firstL b) (presN b 256)).length := ⟨_, rfl⟩
    have HTL := Lib.hid hF.tl'
    rw [← hx, ← hpl, ← hH] at hF
    have HPB : Hid (Bytes pl) := by show Bytes pl; rw [hpl]; exact packB_bytes _
    have HQ6 : Hid (qz.length = 256) := by show _ = _; rw [hqz]; exact firstL_len b
    have HLL : Hid (L.length ≤ 256) := by show _ ≤ _; rw [hL]; exact presN_len b 256
    have HAs : Hid (Asc L) := by show Asc L; rw [hL]; exact pres_asc HL.out.2
    have HLP := Lib.hid hL
    rw [← hx] at hs2 HLen HSpl ⊢
    rw [← hpl] at HSpl
    have hz := hF.r5
    have hn := hF.n
    have hn7 := hF.n7
    have hHl := hF.Hl
    obtain ⟨rz, hrz⟩ : ∃ rz, rz = firstR b := ⟨_, rfl⟩
    have HHH := Lib.hid hH
    rw [← hqz] at HHH HSpl HTL HCan HNr
    rw [← hrz] at HHH HSpl HCan hz hn hn7 HNr
    rw [← hL] at HHH HNr
    obtain ⟨hi, hhi⟩ : ∃ hi, hi = hiN y 8 := ⟨_, rfl⟩
    rw [← hhi] at hn
    have hhi8 : hi ≤ 8 := by rw [hhi]; exact hiN_le y 8
    have hpx := hF.px
    have hp0 := hF.p0
    have hp1 := hF.p1
    have hlast := hF.last
    have hy0 := hF.y0
    have hy8 := hF.y8
    have HHI := Lib.hid hhi
    have HNN := Lib.hid (And.intro hn (And.intro hn7 (And.intro hpx (And.intro hlast (And.intro hz hHl)))))
    have p1 : 2 * (rz : Int) ≤ 8 * ((pl.length : Int) - 1) + (hi : Int) := by omega
    have p2 : 8 * ((pl.length : Int) - 1) + (hi : Int) ≤ 2000 := by omega
    have p4 : (x.length : Int) = 33 + ((H : Int) + 7) / 8 + (pl.length : Int) := by omega
    have hxl : x.length ≤ 1000000 := by omega
    have hH2 : H ≤ 1000000 := by omega
    have hrz2 : rz ≤ 9 := hz.2
    have HP4 := Lib.hid p4
    have HP0 := Lib.hid hp0
    have d3 : ((pl.length : Int) == 0) = false := by simp; intro e; subst e; simp at hp0
    have HB2 := Lib.hid (below_tr HB1.out hb2)
    have HS2 := Lib.hid hs2
    clear h2 hs2 hb2 hx hpl hqz hrz hF hH hz hn hn7 hHl hhi hpx hlast p4 hL
    go_wp2_with fail
    refine (split1_yes A2 c2 x w2 HS2.out.row HS2.out.by' (by have := HLen.out; omega) HS2.out.cap HSpl.out).mono ?_
    rintro e w4 ⟨Am, cm, Ap, cp, rfl, hm, hv, hb4⟩
    have hM := MAt.new (lg := (rz : Int)) (one := false) (qs := qz) hm
    have HCM := Lib.hid (Kd.R_reads' hm).2.1
    rw [HQ6.out]
    obtain ⟨w5, hw5⟩ : ∃ w5, w5 = w4.alloc (.cells #[.int .i64 rz, .bool false, .slice Am 256 cm] 31) := ⟨_, rfl⟩
    have hM2 : MAt w4.heap.size rz false Am cm qz w5 := by rw [hw5]; rw [HQ6.out] at hM; exact hM
    have hb45 : Below w4.heap.size w4 w5 := by rw [hw5]; exact (Below.refl _ _).alloc (Nat.le_refl _) _
    have HM := Lib.hid hM2
    have HB5 := Lib.hid (below_tr (below_tr HB2.out hb4) hb45)
    have HP5 := Lib.hid ((BSl.of hv HPB.out).below hb45)
    obtain ⟨mb, hmb⟩ : ∃ mb, mb = w4.heap.size := ⟨_, rfl⟩
    rw [← hmb] at HM
    obtain ⟨⟨m0, m1, m2⟩, _⟩ := cell3 HM.out.blk
    rw [HQ6.out] at m2
    clear hm hv hb4 hM hM2 hb45
    go_wp2_with fail
    rw [← hw5, ← hmb]
    clear hw5 hmb
    go_wp2_with fail
    refine (ctxPresent_any A ca b w5 (Kd.C_below HR.out HB5.out) (by have := HL.out.1; omega) HX.out.2).mono ?_
    rintro e w6 ⟨v, rfl, hv, hb6⟩
    obtain ⟨Al, cl, rfl⟩ := Kd.R_slice hv
    rw [← HLP.out] at hv ⊢
    have HLC := Lib.hid (Kd.R_reads' hv).2.2
    have HB6 := Lib.hid (below_tr HB5.out hb6)
    have HM6 := Lib.hid (HM.out.later hb6)
    have HP6 := Lib.hid (HP5.out.below hb6)
    have hLL : L.length ≤ 256 := HLL.out
    clear hv hb6 m0 m1 m2
    go_wp2_with fail
    go_loopw [9, 11] (fun bv iv wr => ∃ i : Nat, i ≤ L.length ∧ bv = .int .i64 ((hdrsB rz qz (L.take i)).length : Nat) ∧ iv = .int .i64 i ∧ Hid (Below w6.heap.size w6 wr)) (fun _ iv _ => L.length - (intOf iv).toNat)
    case atStart => exact ⟨0, by omega, rfl, rfl, Lib.hid (Below.refl _ _)⟩
    case round =>
      obtain ⟨i, hiL, rfl, rfl, HW⟩ := hrel
      have HMr := HM6.out.later HW.out
      obtain ⟨⟨m0, m1, m2⟩, -⟩ := cell3 HMr.blk
      rw [HQ6.out] at m2
      by_cases hlt : i < L.length
      · obtain ⟨cx, hc, hc256⟩ := HAs.out.get hlt
        obtain ⟨adl, hA2, hcx⟩ := ints_get (Kd.C_below HLC.out HW.out) i hlt
        subst hA2
        rw [hc] at hcx
        have hm := hd_mem hlt
        rw [hc] at hm
        have hn := HNr.out _ hm
        rw [Int.toNat_natCast] at hn
        obtain ⟨aq, B, cq, hA3, hcq, -, hCq⟩ := kq_at HMr.row cx (by rw [HQ6.out]; exact hc256)
        subst hA3
        rw [hn.len] at hcq hCq
        have HCost : Hid (∀ W : World, SLater wr W → Calls Tryz.prog 31 #[.slice B 256 cq] W fun e w' => e = .returned (.int .i64 (hdrB (qz.getD cx []) 257 0 (2 ^ rz)).length) ∧ Below W.heap.size W w') := Lib.hid fun W hW => hcost_any cq rz B (qz.getD cx []) W (Kd.C_below hCq hW) hn
        have ht : L.take (i + 1) = L.take i ++ [(cx : Int)] := by rw [List.take_succ_eq_append_getElem hlt, ← hc, List.getD_eq_getElem?_getD, List.getElem?_eq_getElem hlt, Option.getD_some]
        have hs : (hdrsB rz qz (L.take (i + 1))).length = (hdrsB rz qz (L.take i)).length + (hdrB (qz.getD cx []) 257 0 (2 ^ rz)).length := by rw [ht, hdrsB_app, Int.toNat_natCast, List.length_append]
        have hlb := hdrsB_len (r := rz) (qs := qz) (by omega) (L.take (i + 1)) (fun x hx => HNr.out x (List.mem_of_mem_take hx))
        have hlb2 : (hdrsB rz qz (L.take (i + 1))).length ≤ 800000 := by rw [List.length_take] at hlb; omega
        rw [hs] at hlb2
        have HS := Lib.hid hs
        obtain ⟨nb, hnb⟩ : ∃ n, n = (hdrsB rz qz (L.take i)).length := ⟨_, rfl⟩
        obtain ⟨nh, hnh⟩ : ∃ n, n = (hdrB (qz.getD cx []) 257 0 (2 ^ rz)).length := ⟨_, rfl⟩
        rw [← hnb, ← hnh] at hlb2 HS
        rw [← hnh] at HCost
        rw [← hnb]
        have hI : (i : Int) < (L.length : Int) := by omega
        have hcI : (cx : Int) < 256 := by omega
        have s0 : SLater wr wr := Below.refl _ _
        clear hc hm hn hCq ht hs hlb hnb hnh HMr
        go_wp2_with fail
        go_region_law (go_simp; go_at_call 31; refine (HCost.out _ (by first | assumption | exact SLater.drew ‹_›)).mono ?_; rintro e w' ⟨rfl, hb⟩; have s1 := (by first | exact SLater.keep ‹_› hb | exact SLater.keep (SLater.drew ‹_›) hb : SLater wr w'); clear hb)
        all_goals
          go_wp2_with fail
          go_roundw
          case rel => exact ⟨i + 1, by omega, by rw [HS.out]; go_num, by go_num, Lib.hid (below_tr HW.out (by first | assumption | exact SLater.drew ‹_›))⟩
          case measure => simp [intOf]; omega
      · obtain rfl : i = L.length := by omega
        rw [List.take_length, ← HHH.out]
        have HB7 := Lib.hid (below_tr HB6.out HW.out)
        have HM7 := Lib.hid HMr
        have HP7 := Lib.hid (HP6.out.below HW.out)
        obtain ⟨adp, rfl, hcx⟩ := ints_get HP7.out.row (pl.length - 1) (by have := HP0.out; omega)
        rw [HNN.out.2.2.2.1] at hcx
        have hix : (((pl.length - 1 : Nat) : Int)) = (pl.length : Int) - 1 := by have := HP0.out; omega
        obtain ⟨pm, hpm⟩ : ∃ pm, pm = pl.length - 1 := ⟨_, rfl⟩
        rw [← hpm] at hcx hix
        have hix2 : (pl.length : Int) - 1 = (pm : Int) := hix.symm
        have hix3 : 0 ≤ (pl.length : Int) - 1 := by have := HP0.out; omega
        have hix4 : ((pl.length : Int) - 1).toNat = pm := by rw [hix2]; simp
        have HIX := Lib.hid hix2
        clear hix hpm HMr HW
        go_wp2_with fail
        go_loop [12, 13] (fun hv kv => ∃ k : Nat, k ≤ 8 ∧ hv = .int .i64 (hiN y k : Nat) ∧ kv = .int .i64 k) (fun _ kv => 8 - (intOf kv).toNat)
        case atStart => exact ⟨0, by omega, rfl, rfl⟩
        case round =>
          obtain ⟨k, hk, rfl, rfl⟩ := hrel
          by_cases hlt : k < 8
          · obtain ⟨z, hz⟩ : ∃ z, z = y / 2 ^ k := ⟨_, rfl⟩
            have hzI : (y : Int) / 2 ^ k = (z : Int) := by rw [hz]; simp
            have hzl : z < 256 := by rw [hz]; exact Nat.lt_of_le_of_lt (Nat.div_le_self _ _) hy8
            have HZ := Lib.hid hz
            clear hz
            by_cases hz0 : z = 0
            · have hE : Hid (hiN y (k + 1) = hiN y k) := by show _ = _; rw [hiN, ← HZ.out, if_neg (by omega)]
              subst hz0
              go_wp2_with fail
              go_round
              case rel => exact ⟨k + 1, by omega, by rw [hE.out], by go_num⟩
              case measure => simp [intOf]; omega
            · have hE : Hid (hiN y (k + 1) = k) := by show _ = _; rw [hiN, ← HZ.out, if_pos (by omega)]
              have hd : 0 < z := by omega
              clear hz0
              go_wp2_with fail
              go_round
              case rel => exact ⟨k + 1, by omega, by rw [hE.out], by go_num⟩
              case measure => simp [intOf]; omega
          · obtain rfl : k = 8 := by omega
            rw [← HHI.out]
            have hQ6 : qz.length = 256 := HQ6.out
            have HCh := rCheap_any rz false Am A cm ca tl qz b wr HM7.out.row (Kd.C_below HR.out HB7.out) HX.out.1 HX.out.2 HCan.out HL.out.1 HL.out.2 HTL.out (by have := HNN.out; omega) (fun h => by cases h)
            rw [hQ6] at HCh
            have HCh2 := Lib.hid HCh
            clear HCh
            go_wp2_with fail
            rw [show (8 * (pm : Int) + (hi : Int) - 2 * (rz : Int)) = (tl : Int) by have := HNN.out; have := HP0.out; have := HIX.out; omega]
            refine HCh2.out.mono ?_
            rintro e w7 ⟨rfl, hb7⟩
            have HB8 := Lib.hid (below_tr HB7.out hb7)
            clear hb7
            go_wp2_with fail
            go_ret
            exact ⟨rfl, HB8.out⟩
  · have tail : ∀ d1 d2 : Bool, decide (60 < (b.length : Int)) = d1 → ((b.length : Int) == 0) = d2 → (d1 || d2) = true →
        Calls Tryz.prog 6 #[.slice A b.length ca] w (Ret (.bool true) w) := by
      intro d1 d2 e1 e2 h
      clear h1
      cases d1 <;> cases d2 <;> first
        | (exfalso; revert h; decide)
        | (clear h
           go_enter Tryz.func6, Tryz.ntmps6
           go_wp2_with fail
           refine (awake20_any w).mono ?_
           rintro e w1 ⟨rfl, hb1⟩
           have HB1 := Lib.hid hb1
           clear hb1
           go_wp2_with fail
           go_ret
           exact ⟨rfl, HB1.out⟩)
    refine tail _ _ rfl rfl ?_
    by_cases a1 : 60 < b.length
    · rw [decide_eq_true (by omega)]; rfl
    · rw [show ((b.length : Int) == 0) = true by rw [show b.length = 0 by omega]; rfl]; simp
theorem body1Length_law (A : Option Addr) (ca : Nat) (b : List Int) (w : World) (hr : (Kd.int .u8).C w A b.length b) (hc : b.length ≤ ca) (hby : Bytes b) (_ : b.length * 1 ≤ 140737488351232) :
    Calls Tryz.prog 6 #[.slice A b.length ca] w (Ret (.bool true) w) := body1Length_any A ca b w hr hc hby
end Go.Proofs.YtdkemdcflbadhaaGreat
