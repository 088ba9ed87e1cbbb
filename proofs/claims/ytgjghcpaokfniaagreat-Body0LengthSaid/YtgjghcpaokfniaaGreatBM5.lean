/- Layer 18: Body0Length, by a walk. -/
import Derived.Test.YtgjghcpaokfniaaGreatBM2
import Derived.Test.YtgjghcpaokfniaaGreatBM1
import Derived.Test.YtgjghcpaokfniaaGreatBR1
import Derived.Test.YtgjghcpaokfniaaGreatBS1
import Derived.Test.YtgjghcpaokfniaaGreatBM4
import Derived.Test.YtgjghcpaokfniaaGreatBM0
namespace Go.Proofs.YtgjghcpaokfniaaGreat
open Go.RowKit Go.IntWalk Go.Proofs.YtgjghcpaokfniaaGreatW.PrintWords
/-- the greatest of the first k bits that is set, or 0 -/
def hiN (y : Nat) : Nat → Nat
  | 0 => 0
  | k + 1 => if y / 2 ^ k > 0 then k else hiN y k
theorem hiN_top : ∀ y, y < 256 → 0 < y → hiN y 8 + 1 = Lib.bitLen y := by decide +kernel
theorem hiN_le (y : Nat) : ∀ k, hiN y k ≤ k
  | 0 => Nat.le_refl _
  | k + 1 => by unfold hiN; split; omega; have := hiN_le y k; omega
/-- the last byte of a payload tells how many bits it has -/
theorem hi_bits (bs : List Bool) : ∃ y : Nat, (packB (bs ++ [true])).getD ((packB (bs ++ [true])).length - 1) 0 = y ∧ 0 < y ∧ y < 256 ∧ 8 * ((packB (bs ++ [true])).length - 1) + hiN y 8 = bs.length ∧ 0 < (packB (bs ++ [true])).length ∧ (packB (bs ++ [true])).length = bs.length / 8 + 1 := by
  obtain ⟨h1, h2, h3, _⟩ := pack_closed bs
  obtain ⟨p, hp⟩ : ∃ p, p = packB (bs ++ [true]) := ⟨_, rfl⟩
  rw [← hp] at h1 h2 h3 ⊢
  have hb : 0 ≤ lastB p ∧ lastB p < 256 := by
    unfold lastB
    have := hd_mem (c := p) (i := p.length - 1) (by omega)
    rw [hp] at this ⊢
    exact packB_bytes _ _ this
  refine ⟨(lastB p).toNat, ?_, by omega, by omega, ?_, by omega, h1⟩
  · show lastB p = _; omega
  · have h4 := hiN_top (lastB p).toNat (by omega) (by omega)
    unfold bitsIn at h3
    omega
structure LenF (b : List Int) (x p : List Int) (y tl H : Nat) : Prop where
  px : x.length = (8 + H + 7) / 8 + p.length
  last : p.getD (p.length - 1) 0 = y
  y0 : 0 < y
  y8 : y < 256
  n : 8 * (p.length - 1) + hiN y 8 = tl + 2 * zeroR b
  n7 : tl + 2 * zeroR b ≤ 744
  p0 : 0 < p.length
  p1 : p.length ≤ 100
  tl' : tl = (encT true [zeroQ b] 0 0 b).2.length
  Hl : H ≤ 256 * (zeroR b + 3)
  r5 : 5 ≤ zeroR b ∧ zeroR b ≤ 11
theorem lenF {b : List Int} (hb : Bytes b) (hl : b.length ≤ 60) (h0 : 0 < b.length) : ∃ y tl, LenF b (body0L b) (packB (encBits (zeroR b : Nat) true [zeroQ b] b ++ [true])) y tl (hdrB (zeroQ b) 257 0 (2 ^ zeroR b)).length := by
  have hn := zero_nrm hb (by omega) h0
  have hz := zeroR_ok b
  have HCan : canM (zeroR b : Nat) true [zeroQ b] b = true := of_can (one := true) hb (by omega) h0
  have hfit := (can_log HCan).1
  have h12 := encBits_len12 hfit hb
  have hc : (encBits (zeroR b : Nat) true [zeroQ b] b).length = (encT true [zeroQ b] 0 0 b).2.length + 2 * zeroR b := by have := (cheap_law HCan hb h0).1; simpa using this
  have e2 : (2 : Int) ^ zeroR b = ((2 ^ zeroR b : Nat) : Int) := by simp
  have hh := hdrB_len hn.r12 hn.len hn.nn 257 0 (2 ^ zeroR b) (by omega) (by rw [List.drop_zero, hn.sum, e2]) (by rw [Nat.pow_succ]; have := Nat.two_pow_pos (zeroR b); omega)
  have hh2 : (hdrB (zeroQ b) 257 0 (2 ^ zeroR b)).length ≤ 256 * (zeroR b + 3) := hh
  obtain ⟨y, h1, h2, h3, h4, h5, h6⟩ := hi_bits (encBits (zeroR b : Nat) true [zeroQ b] b)
  refine ⟨y, (encT true [zeroQ b] 0 0 b).2.length, ⟨?_, h1, h2, h3, by rw [h4, hc], by rw [← hc]; omega, h5, by rw [h6]; omega, rfl, hh2, by omega⟩⟩
  unfold body0L
  rw [List.length_append, packB_len]
  unfold headB
  rw [List.length_append, lowBits_len]
set_option maxRecDepth 100000 in
set_option maxHeartbeats 4000000 in
theorem body0Length_any (A : Option Addr) (ca : Nat) (b : List Int) (w : World) (hr : (Kd.int .u8).C w A b.length b) (hc : b.length ≤ ca) (hby : Bytes b) :
    Calls Tryz.prog 8 #[.slice A b.length ca] w (Ret (.bool true) w) := by
  have HR := Lib.hid hr
  have HX := Lib.hid (And.intro hc hby)
  clear hr hc hby
  by_cases h1 : b.length ≤ 60 ∧ 0 < b.length
  · obtain ⟨h1a, h1b⟩ := h1
    have d1 : decide (60 < (b.length : Int)) = false := decide_eq_false (by omega)
    have d2 : ((b.length : Int) == 0) = false := by simp; intro e; subst e; simp at h1b
    have HL := Lib.hid (And.intro h1a h1b)
    clear h1a h1b
    go_enter Tryz.func8, Tryz.ntmps8
    go_wp2_with fail
    refine (awake18_any w).mono ?_
    rintro e w1 ⟨rfl, hb1⟩
    have HB1 := Lib.hid hb1
    clear hb1
    go_wp2_with fail
    refine (encode0_told A ca b w1 (Kd.C_below HR.out HB1.out) HX.out.2 (by have := HL.out.1; omega) HL.out.2).mono ?_
    intro e w2 h2
    obtain ⟨A2, c2, rfl, hs2, hb2⟩ := h2.out (body0L_bytes b)
    have HLen := Lib.hid (body0L_len HX.out.2 (by have := HL.out.1; omega) HL.out.2)
    have HSpl := Lib.hid (split_body0 HX.out.2 (by have := HL.out.1; omega) HL.out.2)
    have HCan : Hid (canM (zeroR b : Nat) true [zeroQ b] b = true) := of_can (one := true) HX.out.2 (by have := HL.out.1; omega) HL.out.2
    obtain ⟨y, tl, hF⟩ := lenF HX.out.2 HL.out.1 HL.out.2
    obtain ⟨x, hx⟩ : ∃ x, x = body0L b := ⟨_, rfl⟩
    obtain ⟨pl, hpl⟩ : ∃ pl, pl = packB (encBits (zeroR b : Nat) true [zeroQ b] b ++ [true]) := ⟨_, rfl⟩
    obtain ⟨qz, hqz⟩ : ∃ qz, qz = zeroQ b := ⟨_, rfl⟩
    obtain ⟨H, hH⟩ : ∃ H, H = (hdrB (zeroQ b) 257 0 (2 ^ zeroR b)).length := ⟨_, rfl⟩
    have HTL := Lib.hid hF.tl'
    rw [← hx, ← hpl, ← hH] at hF
    have HPB : Hid (Bytes pl) := by show Bytes pl; rw [hpl]; exact packB_bytes _
    rw [← hx] at hs2 HLen HSpl ⊢
    rw [← hpl] at HSpl
    have hz := hF.r5
    have hn := hF.n
    have hn7 := hF.n7
    have hHl := hF.Hl
    obtain ⟨rz, hrz⟩ : ∃ rz, rz = zeroR b := ⟨_, rfl⟩
    have HN := Lib.hid (zero_nrm HX.out.2 (by have := HL.out.1; omega) HL.out.2)
    have HHH := Lib.hid hH
    rw [← hqz] at HHH HN HSpl HTL HCan
    rw [← hrz] at HHH HN HSpl HCan hz hn hn7 hHl
    obtain ⟨hi, hhi⟩ : ∃ hi, hi = hiN y 8 := ⟨_, rfl⟩
    rw [← hhi] at hn
    have hhi8 : hi ≤ 8 := by rw [hhi]; exact hiN_le y 8
    have hpx := hF.px
    have hp0 := hF.p0
    have hp1 := hF.p1
    have hlast := hF.last
    have hy0 := hF.y0
    have hy8 := hF.y8
    have HHI := Lib.hid hhi
    have HNN := Lib.hid (And.intro hn (And.intro hn7 (And.intro hpx (And.intro hlast hz))))
    have p1 : 2 * (rz : Int) ≤ 8 * ((pl.length : Int) - 1) + (hi : Int) := by omega
    have p2 : 8 * ((pl.length : Int) - 1) + (hi : Int) ≤ 2000 := by omega
    have p3 : 8 * ((x.length : Int) - (pl.length : Int)) ≤ 256 * ((rz : Int) + 3) + 16 := by omega
    have p4 : (x.length : Int) = (8 + (H : Int) + 7) / 8 + (pl.length : Int) := by omega
    have hxl : x.length ≤ 10000 := by omega
    have hH2 : H ≤ 4000 := by omega
    have hrz2 : rz ≤ 11 := hz.2
    have HP4 := Lib.hid p4
    have HP0 := Lib.hid hp0
    have d3 : ((pl.length : Int) == 0) = false := by simp; intro e; subst e; simp at hp0
    have HB2 := Lib.hid (below_tr HB1.out hb2)
    have HS2 := Lib.hid hs2
    clear h2 hs2 hb2 hx hpl hqz hrz hF hH hz hn hn7 hHl hhi hpx hlast p4
    go_wp2_with fail
    refine (split_yes A2 c2 x w2 HS2.out.row HS2.out.by' (by have := HLen.out; omega) HS2.out.cap HS2.out.nil HSpl.out).mono ?_
    rintro e w4 ⟨Am, cm, Ap, cp, rfl, hm, hv, hb4⟩
    have hM := MAt.new (lg := (rz : Int)) (one := true) (qs := [qz]) hm
    obtain ⟨w5, hw5⟩ : ∃ w5, w5 = w4.alloc (.cells #[.int .i64 rz, .bool true, .slice Am 1 cm] 31) := ⟨_, rfl⟩
    have hM2 : MAt w4.heap.size rz true Am cm [qz] w5 := by rw [hw5]; exact hM
    have hb45 : Below w4.heap.size w4 w5 := by rw [hw5]; exact (Below.refl _ _).alloc (Nat.le_refl _) _
    have HM := Lib.hid hM2
    have HCM := Lib.hid (Kd.R_reads' hm).2.1
    have HB5 := Lib.hid (below_tr (below_tr HB2.out hb4) hb45)
    have HP5 := Lib.hid ((BSl.of hv HPB.out).below hb45)
    obtain ⟨⟨m0, m1, m2⟩, _⟩ := cell3 hM2.blk
    obtain ⟨ad, B, cb, rfl, hc0, hcb, hC⟩ := kq_at hM2.row 0 (by simp)
    rw [Addr.add_zero'] at hc0
    have hc1 : w5.cell? ad = some (.slice B 256 cb) := by rw [hc0]; show some (Value.slice B qz.length cb) = _; rw [HN.out.len]
    have HCQ : Hid ((Kd.int .i64).C w5 B 256 qz) := by have h := hC; show (Kd.int .i64).C w5 B 256 qz; rw [show ([qz] : List (List Int)).getD 0 [] = qz from rfl, HN.out.len] at h; exact h
    subst hw5
    clear hm hv hb4 hM hM2 hb45 hc0 hcb hC
    go_wp2_with fail
    obtain ⟨w5, hw5⟩ : ∃ w5, w5 = w4.alloc (.cells #[.int .i64 rz, .bool true, .slice (some ad) 1 cm] 31) := ⟨_, rfl⟩
    obtain ⟨mb, hmb⟩ : ∃ mb, mb = w4.heap.size := ⟨_, rfl⟩
    rw [← hw5] at HM HB5 HP5 HCQ ⊢
    rw [← hmb] at HM ⊢
    clear hw5 hmb m0 m1 m2 hc1
    refine (hcost_any cb rz B qz w5 HCQ.out HN.out).mono ?_
    rw [← HHH.out]
    rintro e w6 ⟨rfl, hb6⟩
    have HB6 := Lib.hid (below_tr HB5.out hb6)
    have HM6 := Lib.hid (HM.out.later hb6)
    have HP6 := Lib.hid (HP5.out.below hb6)
    obtain ⟨⟨m0, m1, m2⟩, _⟩ := cell3 HM6.out.blk
    obtain ⟨adp, rfl, hcx⟩ := ints_get HP6.out.row (pl.length - 1) (by have := HP0.out; omega)
    rw [HNN.out.2.2.2.1] at hcx
    have hix : (((pl.length - 1 : Nat) : Int)) = (pl.length : Int) - 1 := by have := HP0.out; omega
    obtain ⟨pm, hpm⟩ : ∃ pm, pm = pl.length - 1 := ⟨_, rfl⟩
    rw [← hpm] at hcx hix
    have hix2 : (pl.length : Int) - 1 = (pm : Int) := hix.symm
    have hix3 : 0 ≤ (pl.length : Int) - 1 := by have := HP0.out; omega
    have hix4 : ((pl.length : Int) - 1).toNat = pm := by rw [hix2]; simp
    have HIX := Lib.hid hix2
    clear hb6 hix hpm
    go_wp2_with fail
    go_loop [10, 11] (fun hv kv => ∃ k : Nat, k ≤ 8 ∧ hv = .int .i64 (hiN y k : Nat) ∧ kv = .int .i64 k) (fun _ kv => 8 - (intOf kv).toNat)
    case atStart => exact ⟨0, by omega, rfl, rfl⟩
    case round =>
      obtain ⟨k, hk, rfl, rfl⟩ := hrel
      by_cases hlt : k < 8
      · obtain ⟨z, hz⟩ : ∃ z, z = y / 2 ^ k := ⟨_, rfl⟩
        have hzI : (y : Int) / 2 ^ k = (z : Int) := by rw [hz]; simp
        have hzl : z < 256 := by rw [hz]; exact Nat.lt_of_le_of_lt (Nat.div_le_self _ _) hy8
        have HZ := Lib.hid hz
        clear hz
        by_cases hz0 : z = 0
        · have hE : Hid (hiN y (k + 1) = hiN y k) := by show _ = _; rw [hiN, ← HZ.out, if_neg (by omega)]
          subst hz0
          go_wp2_with fail
          go_round
          case rel => exact ⟨k + 1, by omega, by rw [hE.out], by go_num⟩
          case measure => simp [intOf]; omega
        · have hE : Hid (hiN y (k + 1) = k) := by show _ = _; rw [hiN, ← HZ.out, if_pos (by omega)]
          have hd : 0 < z := by omega
          clear hz0
          go_wp2_with fail
          go_round
          case rel => exact ⟨k + 1, by omega, by rw [hE.out], by go_num⟩
          case measure => simp [intOf]; omega
      · obtain rfl : k = 8 := by omega
        rw [← HHI.out]
        go_wp2_with fail
        rw [show (8 * (pm : Int) + (hi : Int) - 2 * (rz : Int)) = (tl : Int) by have := HNN.out; have := HP0.out; have := HIX.out; omega]
        refine (rCheap_any rz true (some ad) A cm ca tl [qz] b w6 HM6.out.row (Kd.C_below HR.out HB6.out) HX.out.1 HX.out.2 HCan.out HL.out.1 HL.out.2 HTL.out (by have := HNN.out; omega) (fun _ => by show 0 < qz.length; rw [HN.out.len]; decide)).mono ?_
        rintro e w7 ⟨rfl, hb7⟩
        have HB7 := Lib.hid (below_tr HB6.out hb7)
        clear hb7
        go_wp2_with fail
        go_ret
        exact ⟨rfl, HB7.out⟩
  · have tail : ∀ d1 d2 : Bool, decide (60 < (b.length : Int)) = d1 → ((b.length : Int) == 0) = d2 → (d1 || d2) = true →
        Calls Tryz.prog 8 #[.slice A b.length ca] w (Ret (.bool true) w) := by
      intro d1 d2 e1 e2 h
      clear h1
      cases d1 <;> cases d2 <;> first
        | (exfalso; revert h; decide)
        | (clear h
           go_enter Tryz.func8, Tryz.ntmps8
           go_wp2_with fail
           refine (awake18_any w).mono ?_
           rintro e w1 ⟨rfl, hb1⟩
           have HB1 := Lib.hid hb1
           clear hb1
           go_wp2_with fail
           go_ret
           exact ⟨rfl, HB1.out⟩)
    refine tail _ _ rfl rfl ?_
    by_cases a1 : 60 < b.length
    · rw [decide_eq_true (by omega)]; rfl
    · rw [show ((b.length : Int) == 0) = true by rw [show b.length = 0 by omega]; rfl]; simp
theorem body0Length_law (A : Option Addr) (ca : Nat) (b : List Int) (w : World) (hr : (Kd.int .u8).C w A b.length b) (hc : b.length ≤ ca) (hby : Bytes b) (_ : b.length * 1 ≤ 140737488351232) :
    Calls Tryz.prog 8 #[.slice A b.length ca] w (Ret (.bool true) w) := body0Length_any A ca b w hr hc hby
end Go.Proofs.YtgjghcpaokfniaaGreat
