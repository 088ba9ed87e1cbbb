/- The walks of layer 16's reader: start, next, read. -/
import Derived.Outline
import Derived.Test.YtfnobinenolhhaaM1
import Derived.Test.YtfnobinenolhhaaWInv
import Derived.Test.YtfnobinenolhhaaWInvWords
import Derived.Test.YtfnobinenolhhaaWShare
import Derived.Test.YtfnobinenolhhaaWWords
import Derived.Test.YtfnobinenolhhaaWMore
import Derived.Test.YtfnobinenolhhaaWQPut
import Derived.Test.YtfnobinenolhhaaWTab
import Derived.Test.YtfnobinenolhhaaWZeros
import Derived.Test.YtfnobinenolhhaaWKept
import Derived.Test.YtfnobinenolhhaaWN
import Derived.Test.YtfnobinenolhhaaWLast
import Derived.Test.YtfnobinenolhhaaM0
import Derived.Test.YtfnobinenolhhaaWApart
import Derived.Test.YtfnobinenolhhaaWFootNe
import Derived.Test.YtfnobinenolhhaaWFoot
import Derived.Test.YtfnobinenolhhaaWArr
import Derived.Test.YtfnobinenolhhaaWNEv
import Derived.ChangeKeysEq
import Derived.Deep.Matrix
import Derived.Lib.SmallJoins
import Derived.ProofKit
import Derived.RowKit
namespace Go.Proofs.Ytfnobinenolhhaa
open Go.RowKit Go.IntWalk Go.Proofs.YtfnobinenolhhaaW.PrintWords
/-- a reader of lanes: bits, two states -/
def LrAt (rp p : Nat) (x0 x1 : Int) (w : World) : Prop := w.heap[rp]? = some (.cells #[.pointer (some ⟨p, 0, none⟩), .int .i64 x0, .int .i64 x1] 64 (0, 0))
theorem rd_far {w : World} {base rp p left : Nat} {ps : List Int} {x0 x1 : Int} (h : RdAt w base p ps left) (hx : LrAt rp p x0 x1 w) (hne : rp ≠ p) (j : Nat) (u : Value) : RdAt (w.setCell ⟨rp, j, none⟩ u) base p ps left := by
  obtain ⟨g, c, hgp, hb, hr⟩ := h.ex
  exact ⟨g, c, hgp, blk_far hb (p := ⟨rp, j, none⟩) (by show p ≠ rp; exact fun e => hne e.symm) u, Kd.R_set hr hx (by intro q hq; simp [Kd.int, Kd.scalar] at hq; omega) j u⟩
theorem rd_drew {w : World} {base p left : Nat} {ps : List Int} (h : RdAt w base p ps left) : RdAt w.drew base p ps left := by
  obtain ⟨g, c, h0, h1, h2⟩ := h.ex
  exact ⟨g, c, h0, h1, Kd.R_drew h2⟩
theorem lr_set0 {w : World} {rp p : Nat} {x0 x1 : Int} (hx : LrAt rp p x0 x1 w) (y : Int) : LrAt rp p y x1 (w.setCell ⟨rp, 1, none⟩ (.int .i64 y)) := by unfold LrAt; rw [blk_set hx 1]; rfl
theorem lr_set1 {w : World} {rp p : Nat} {x0 x1 : Int} (hx : LrAt rp p x0 x1 w) (y : Int) : LrAt rp p x0 y (w.setCell ⟨rp, 2, none⟩ (.int .i64 y)) := by unfold LrAt; rw [blk_set hx 2]; rfl
theorem lr_only {w w' : World} {rp p : Nat} {x0 x1 : Int} (hx : LrAt rp p x0 x1 w) (h : Only (fun k => k = p) w w') (hne : rp ≠ p) : LrAt rp p x0 x1 w' := (h.block rp (blk_lt hx) hne).trans hx
def StartPost (base rp p : Nat) (ps : List Int) (left lg : Nat) (w : World) (e : Ending) (w' : World) : Prop :=
  if lg + lg ≤ left then e = .returned (.bool true) ∧ LrAt rp p (takeV ps left lg) (takeV ps (left - lg) lg) w' ∧ RdAt w' base p ps (left - lg - lg) ∧ Only (fun k => k = p ∨ k = rp) w w'
  else e = .returned (.bool false) ∧ Only (fun k => k = p ∨ k = rp) w w'
theorem takeV_24 {ps : List Int} {left lg : Nat} (h : lg ≤ 24) : takeV ps left lg < 16777216 := by
  have h1 := takeV_lt ps left lg
  have h2 : 2 ^ lg ≤ 2 ^ 24 := Nat.pow_le_pow_right (by omega) h
  omega
theorem take_yes (base p : Nat) (ps : List Int) (left n : Nat) (w : World) (h : RdAt w base p ps left) (hps : ∀ x ∈ ps, 0 ≤ x ∧ x < 256) (hl : left ≤ 8 * ps.length) (hl2 : ps.length ≤ 1000000) (hn : n ≤ 24) (hle : n ≤ left) :
    Calls Try.prog 62 #[.pointer (some ⟨p, 0, none⟩), .int .i64 n] w fun e w' => e = .returned (.tuple #[.int .u32 (takeV ps left n), .bool true]) ∧ RdAt w' base p ps (left - n) ∧ Only (fun k => k = p) w w' :=
  (take_any base p ps left n w h hps hl hl2 hn).mono fun e w' hp => by unfold TakePost at hp; rwa [if_pos hle] at hp
theorem take_no (base p : Nat) (ps : List Int) (left n : Nat) (w : World) (h : RdAt w base p ps left) (hps : ∀ x ∈ ps, 0 ≤ x ∧ x < 256) (hl : left ≤ 8 * ps.length) (hl2 : ps.length ≤ 1000000) (hn : n ≤ 24) (hle : ¬ n ≤ left) :
    Calls Try.prog 62 #[.pointer (some ⟨p, 0, none⟩), .int .i64 n] w fun e w' => e = .returned (.tuple #[.int .u32 0, .bool false]) ∧ w = w' :=
  (take_any base p ps left n w h hps hl hl2 hn).mono fun e w' hp => by unfold TakePost at hp; rwa [if_neg hle] at hp
theorem start_mid {base rp p left lg : Nat} {ps : List Int} {x0 x1 : Int} {w w1 : World} (V : Int) (hr : RdAt w1 base p ps (left - lg)) (ho : Only (fun k => k = p) w w1) (hx : LrAt rp p x0 x1 w1) (hne : rp ≠ p) :
    LrAt rp p V x1 (w1.setCell ⟨rp, 1, none⟩ (.int .i64 V)) ∧ RdAt (w1.setCell ⟨rp, 1, none⟩ (.int .i64 V)) base p ps (left - lg) ∧ Only (fun k => k = p ∨ k = rp) w (w1.setCell ⟨rp, 1, none⟩ (.int .i64 V)) :=
  ⟨lr_set0 hx V, rd_far hr hx hne 1 _, (ho.mono (fun _ _ hk => .inl hk)).setCell (p := ⟨rp, 1, none⟩) (.inr rfl) _⟩
theorem start_end {base rp p left lg : Nat} {ps : List Int} {x0 x1 : Int} {w w2 w3 : World} (V : Int) (hr : RdAt w3 base p ps (left - lg - lg)) (ho : Only (fun k => k = p) w2 w3) (hx : LrAt rp p x0 x1 w2) (hne : rp ≠ p) (h2 : Only (fun k => k = p ∨ k = rp) w w2) :
    LrAt rp p x0 V (w3.setCell ⟨rp, 2, none⟩ (.int .i64 V)) ∧ RdAt (w3.setCell ⟨rp, 2, none⟩ (.int .i64 V)) base p ps (left - lg - lg) ∧ Only (fun k => k = p ∨ k = rp) w (w3.setCell ⟨rp, 2, none⟩ (.int .i64 V)) := by
  have hx3 := lr_only hx ho hne
  exact ⟨lr_set1 hx3 V, rd_far hr hx3 hne 2 _, (h2.trans (ho.mono (fun k _ hk => .inl hk))).setCell (p := ⟨rp, 2, none⟩) (.inr rfl) _⟩
set_option maxRecDepth 100000 in
set_option maxHeartbeats 1000000 in
theorem start_any (base rp p : Nat) (ps : List Int) (left lg : Nat) (x0 x1 : Int) (w : World) (hx : LrAt rp p x0 x1 w) (h : RdAt w base p ps left) (hps : ∀ x ∈ ps, 0 ≤ x ∧ x < 256) (hl : left ≤ 8 * ps.length) (hl2 : ps.length ≤ 1000000) (hn : lg ≤ 24) (hne : rp ≠ p) :
    Calls Try.prog 35 #[.pointer (some ⟨rp, 0, none⟩), .int .i64 lg] w (StartPost base rp p ps left lg w) := by
  have HH := Lib.hid h
  have HP := Lib.hid (And.intro hps (And.intro hl (And.intro hl2 (And.intro hn (And.intro hne hx)))))
  have hc0 : w.cell? ⟨rp, 0, none⟩ = some (.pointer (some ⟨p, 0, none⟩)) := (blk_cell hx 0).trans rfl
  have hu62 := Try.underlying62
  clear h hps hl hl2 hn hx hne
  by_cases h1 : lg ≤ left
  · have HL1 := Lib.hid h1
    clear h1
    go_enter Try.func35, Try.ntmps35
    go_wp2_with fail
    refine wp_loop_rounds 3 ?_
    rw [rounds_succ]
    go_wp2_with fail
    refine (take_yes base p ps left lg w HH.out HP.out.1 HP.out.2.1 HP.out.2.2.1 HP.out.2.2.2.1 HL1.out).mono ?_
    rintro e w1 ⟨rfl, hr1, ho1⟩
    have hx1 := lr_only HP.out.2.2.2.2.2 ho1 HP.out.2.2.2.2.1
    have hf1 : w1.frozen? ⟨rp, 1, none⟩ = false := blk_frozen hx1 1
    have hc1 : w1.cell? ⟨rp, 1, none⟩ = some (.int .i64 x0) := (blk_cell hx1 1).trans rfl
    have hv := takeV_24 (ps := ps) (left := left) HP.out.2.2.2.1
    obtain ⟨V, hV⟩ : ∃ V, V = takeV ps left lg := ⟨_, rfl⟩
    rw [← hV] at hv ⊢
    have HV := Lib.hid hV
    have H2 := Lib.hid (start_mid (V : Int) hr1 ho1 hx1 HP.out.2.2.2.2.1)
    clear hV hr1 ho1 hx1
    go_wp2_with fail
    obtain ⟨w2, hw2⟩ : ∃ w2, w2 = w1.setCell ⟨rp, 1, none⟩ (.int .i64 (V : Int)) := ⟨_, rfl⟩
    rw [← hw2] at H2 ⊢
    have hc02 : w2.cell? ⟨rp, 0, none⟩ = some (.pointer (some ⟨p, 0, none⟩)) := (blk_cell H2.out.1 0).trans rfl
    clear hc1 hf1 hc0 hw2
    rw [rounds_succ]
    by_cases h2 : lg ≤ left - lg
    · have HL2 := Lib.hid h2
      clear h2
      go_wp2_with fail
      refine (take_yes base p ps (left - lg) lg w2 H2.out.2.1 HP.out.1 (by have := HP.out.2.1; omega) HP.out.2.2.1 HP.out.2.2.2.1 HL2.out).mono ?_
      rintro e w3 ⟨rfl, hr3, ho3⟩
      have hx3 := lr_only H2.out.1 ho3 HP.out.2.2.2.2.1
      have hf3 : w3.frozen? ⟨rp, 2, none⟩ = false := blk_frozen hx3 2
      have hc3 : w3.cell? ⟨rp, 2, none⟩ = some (.int .i64 x1) := (blk_cell hx3 2).trans rfl
      have hv3 := takeV_24 (ps := ps) (left := left - lg) HP.out.2.2.2.1
      obtain ⟨V3, hV3⟩ : ∃ V3, V3 = takeV ps (left - lg) lg := ⟨_, rfl⟩
      rw [← hV3] at hv3 ⊢
      have HV3 := Lib.hid hV3
      have H3 := Lib.hid (start_end (V3 : Int) hr3 ho3 H2.out.1 HP.out.2.2.2.2.1 H2.out.2.2)
      clear hV3 hr3 ho3 hx3
      go_wp2_with fail
      rw [rounds_succ]
      go_wp2_with fail
      go_ret
      unfold StartPost
      rw [if_pos (by have := HL1.out; have := HL2.out; omega), ← HV.out, ← HV3.out]
      exact ⟨rfl, H3.out.1, H3.out.2.1, H3.out.2.2⟩
    · have HL2 := Lib.hid h2
      clear h2
      go_wp2_with fail
      refine (take_no base p ps (left - lg) lg w2 H2.out.2.1 HP.out.1 (by have := HP.out.2.1; omega) HP.out.2.2.1 HP.out.2.2.2.1 HL2.out).mono ?_
      rintro e w3 ⟨rfl, rfl⟩
      go_wp2_with fail
      go_ret
      unfold StartPost
      rw [if_neg (by have := HL1.out; have := HL2.out; omega)]
      exact ⟨rfl, H2.out.2.2⟩
  · have HL1 := Lib.hid h1
    clear h1
    go_enter Try.func35, Try.ntmps35
    go_wp2_with fail
    refine wp_loop_rounds 3 ?_
    rw [rounds_succ]
    go_wp2_with fail
    refine (take_no base p ps left lg w HH.out HP.out.1 HP.out.2.1 HP.out.2.2.1 HP.out.2.2.2.1 HL1.out).mono ?_
    rintro e w1 ⟨rfl, rfl⟩
    go_wp2_with fail
    go_ret
    unfold StartPost
    rw [if_neg (by have := HL1.out; omega)]
    exact ⟨rfl, Only.refl _ _⟩
/-- which of two -/
def pick2 (t : Nat) (x0 x1 : Int) : Int := if t = 0 then x0 else x1
def set2 (t : Nat) (x0 x1 y : Int) : Int × Int := if t = 0 then (y, x1) else (x0, y)
theorem lr_cell {w : World} {rp p t : Nat} {x0 x1 : Int} (hx : LrAt rp p x0 x1 w) (ht : t < 2) : w.cell? ⟨rp, 1 + t, none⟩ = some (.int .i64 (pick2 t x0 x1)) ∧ w.frozen? ⟨rp, 1 + t, none⟩ = false := by
  refine ⟨?_, blk_frozen hx _⟩
  rw [blk_cell hx (1 + t)]
  rcases (by omega : t = 0 ∨ t = 1) with rfl | rfl <;> rfl
theorem lr_set {w : World} {rp p t : Nat} {x0 x1 : Int} (hx : LrAt rp p x0 x1 w) (ht : t < 2) (y : Int) : LrAt rp p (set2 t x0 x1 y).1 (set2 t x0 x1 y).2 (w.setCell ⟨rp, 1 + t, none⟩ (.int .i64 y)) := by
  rcases (by omega : t = 0 ∨ t = 1) with rfl | rfl
  · exact lr_set0 hx y
  · exact lr_set1 hx y
structure NextPost (base rp p : Nat) (ps : List Int) (left : Nat) (x0 x1 : Int) (w w' : World) : Prop where
  lr : LrAt rp p x0 x1 w'
  rd : RdAt w' base p ps left
  only : Only (fun k => k = p ∨ k = rp) w w'
def NextYes (base rp p : Nat) (ps : List Int) (left t : Nat) (x0 x1 : Int) (s y : Int) (w : World) (e : Ending) (w' : World) : Prop :=
  e = .returned (.tuple #[.int .u8 s, .int .i64 0]) ∧ NextPost base rp p ps left (set2 t x0 x1 y).1 (set2 t x0 x1 y).2 w w'
theorem cells_keep {w w' : World} {base p rp : Nat} {A : Option Addr} {c : Nat} {l : List K3} (h : kc.R 77 w base (fun b => b ≠ p ∧ b ≠ rp) (.slice A l.length c) l) (ho : Only (fun k => k = p) w w') : kc.R 77 w' base (fun b => b ≠ p ∧ b ≠ rp) (.slice A l.length c) l :=
  Kd.R_step h (fun k hk hlt => ho.block k hlt hk.1)
theorem next_cells {w w' : World} {base p rp t x : Nat} {A : Option Addr} {c : Nat} {l : List K3} {x0 x1 : Int} (h : kc.R 77 w base (fun b => b ≠ p ∧ b ≠ rp) (.slice A l.length c) l) (hx : LrAt rp p x0 x1 w) (ho : Only (fun k => k = p) w w') (hne : rp ≠ p) (hp : pick2 t x0 x1 = x) (hxl : x < l.length) (ht : t < 2) :
    ∃ ad, A = some ad ∧ w'.cell? ⟨rp, 0, none⟩ = some (.pointer (some ⟨p, 0, none⟩)) ∧ w'.cell? ⟨rp, 1 + t, none⟩ = some (.int .i64 x) ∧ w'.frozen? ⟨rp, 1 + t, none⟩ = false ∧ w'.cell? ⟨(ad.add (x * 3)).block, (ad.add (x * 3)).off + 1, none⟩ = some (.int .i64 (l.getD x z3).2.1) := by
  have h' := cells_keep h ho
  have hx' := lr_only hx ho hne
  obtain ⟨ad, e, hc⟩ := kc_at (Kd.R_reads' h').2.2 x hxl
  have hl := lr_cell hx' ht
  rw [hp] at hl
  exact ⟨ad, e, (blk_cell hx' 0).trans rfl, hl.1, hl.2, hc.2.1⟩
theorem next_cells2 {w w' : World} {base p rp t x : Nat} {ad : Addr} {c : Nat} {l : List K3} {x0 x1 : Int} (h : kc.R 77 w base (fun b => b ≠ p ∧ b ≠ rp) (.slice (some ad) l.length c) l) (hx : LrAt rp p x0 x1 w) (ho : Only (fun k => k = p) w.drew w') (hne : rp ≠ p) (hp : pick2 t x0 x1 = x) (hxl : x < l.length) (ht : t < 2) :
    w'.cell? ⟨rp, 0, none⟩ = some (.pointer (some ⟨p, 0, none⟩)) ∧ w'.cell? ⟨rp, 1 + t, none⟩ = some (.int .i64 x) ∧ w'.frozen? ⟨rp, 1 + t, none⟩ = false ∧ w'.cell? ⟨(ad.add (x * 3)).block, (ad.add (x * 3)).off + 1, none⟩ = some (.int .i64 (l.getD x z3).2.1) ∧
      kc.R 77 w' base (fun b => b ≠ p ∧ b ≠ rp) (.slice (some ad) l.length c) l ∧ LrAt rp p x0 x1 w' := by
  have ho' : Only (fun k => k = p) w w' := ((Only.refl _ w).drew).trans ho
  obtain ⟨ad', e, h1, h2, h3, h4⟩ := next_cells h hx ho' hne hp hxl ht
  cases e
  exact ⟨h1, h2, h3, h4, cells_keep h ho', lr_only hx ho' hne⟩
theorem next_end {base rp p left t : Nat} {ps : List Int} {x0 x1 : Int} {w w1 w2 : World} (y : Int) (hr : RdAt w1 base p ps left) (ho : Only (fun k => k = p) w.drew w1) (hx : LrAt rp p x0 x1 w1) (hb : Below w1.heap.size w1 w2) (hne : rp ≠ p) (ht : t < 2) :
    NextPost base rp p ps left (set2 t x0 x1 y).1 (set2 t x0 x1 y).2 w (w2.setCell ⟨rp, 1 + t, none⟩ (.int .i64 y)) := by
  have hx2 : LrAt rp p x0 x1 w2 := (hb.block rp (blk_lt hx)).trans hx
  have hr2 : RdAt w2 base p ps left := by
    obtain ⟨g, c, h0, h1, h2⟩ := hr.ex
    exact ⟨g, c, h0, blk_below h1 hb, Kd.R_below h2 hb⟩
  have ho' : Only (fun k => k = p) w w2 := (((Only.refl _ w).drew).trans ho).trans (Only.of_below hb)
  exact ⟨lr_set hx2 ht y, rd_far hr2 hx2 hne _ _, (ho'.mono (fun k _ hk => .inl hk)).setCell (p := ⟨rp, 1 + t, none⟩) (.inr rfl) _⟩
set_option maxRecDepth 100000 in
set_option maxHeartbeats 1000000 in
theorem next_yes (base rp p : Nat) (ps : List Int) (left t x b : Nat) (x0 x1 s bs : Int) (l : List K3) (A : Option Addr) (c lb : Nat) (w : World) (hx : LrAt rp p x0 x1 w) (h : RdAt w base p ps left) (hL : kc.R 77 w lb (fun b => b ≠ p ∧ b ≠ rp) (.slice A l.length c) l)
    (hps : ∀ x ∈ ps, 0 ≤ x ∧ x < 256) (hl : left ≤ 8 * ps.length) (hl2 : ps.length ≤ 1000000) (hne : rp ≠ p) (ht : t < 2) (hp : pick2 t x0 x1 = x) (hxl : x < l.length) (hll : l.length ≤ 100000) (he : l.getD x z3 = (s, (b : Int), bs)) (hb : b ≤ 24) (hB : 0 ≤ bs ∧ bs ≤ 100000) (hle : b ≤ left) :
    Calls Try.prog 63 #[.pointer (some ⟨rp, 0, none⟩), .slice A l.length c, .int .i64 t] w (NextYes base rp p ps (left - b) t x0 x1 s (bs + takeV ps left b) w) := by
  obtain ⟨ad, rfl, hc0, hc1, hf1, hc2⟩ := next_cells hL hx (Only.refl _ _) hne hp hxl ht
  rw [he] at hc2
  have HH := Lib.hid h
  have HP := Lib.hid (And.intro hps (And.intro hl (And.intro hl2 (And.intro hne hx))))
  have HL := Lib.hid (And.intro hL (And.intro hp he))
  have HLE := Lib.hid hle
  have hu62 := Try.underlying62
  have hl0 : ((l.length : Int) == 0) = false := by simp; intro e; subst e; simp at hxl
  have hxI : (x : Int) < (l.length : Int) := by omega
  have htI : (t : Int) < 2 := by omega
  obtain ⟨V, hV⟩ : ∃ V, V = takeV ps left b := ⟨_, rfl⟩
  have HV : Hid (V = takeV ps left b ∧ V < 2 ^ b) := ⟨hV, by rw [hV]; exact takeV_lt ps left b⟩
  have hv24 : V < 16777216 := by rw [hV]; exact takeV_24 hb
  rw [← hV]
  clear h hps hl hl2 hx hne hL hp he hle hV
  go_enter Try.func63, Try.ntmps63
  go_wp2_with fail
  go_region_held3 (fun w' => w'.cell? ⟨rp, 0, none⟩ = some (.pointer (some ⟨p, 0, none⟩)) ∧ w'.cell? ⟨rp, 1 + t, none⟩ = some (.int .i64 x) ∧ w'.cell? ⟨(ad.add (x * 3)).block, (ad.add (x * 3)).off + 1, none⟩ = some (.int .i64 b)) ((repeat' apply And.intro) <;> first | assumption)
    (first | (go_at_call 62; refine (take_yes base p ps left b _ (by first | exact HH.out | exact rd_drew HH.out) HP.out.1 HP.out.2.1 HP.out.2.2.1 hb HLE.out).mono ?_; rw [← HV.out.1]; rintro e w1 ⟨rfl, hr1, ho1⟩; obtain ⟨d0, d1, df, d2, dL, dx⟩ := next_cells2 HL.out.1 HP.out.2.2.2.2 ho1 HP.out.2.2.2.1 HL.out.2.1 hxl ht; rw [HL.out.2.2] at d2; have H1 := Lib.hid (And.intro hr1 (And.intro ho1 (And.intro dL dx))); clear hr1 ho1 dL dx))
  go_wp2_with fail
  refine (dstep_any (some ad) c l x b V s bs w1 (Kd.R_reads' H1.out.2.2.1).2.2 hxl hll HL.out.2.2 hb HV.out.2 hB).mono ?_
  rintro e w2 ⟨rfl, hb2⟩
  have e1 : w2.cell? ⟨rp, 1 + t, none⟩ = some (.int .i64 x) := pw_cell_below hb2 d1
  have e2 : w2.frozen? ⟨rp, 1 + t, none⟩ = false := (hb2.frozen (p := ⟨rp, 1 + t, none⟩) (blk_lt H1.out.2.2.2)).trans df
  have HE := Lib.hid (next_end (bs + V) H1.out.1 H1.out.2.1 H1.out.2.2.2 hb2 HP.out.2.2.2.1 ht)
  clear hb2
  go_wp2_with fail
  go_ret2
  exact ⟨rfl, HE.out⟩
set_option maxRecDepth 100000 in
set_option maxHeartbeats 1000000 in
theorem next_short (base rp p : Nat) (ps : List Int) (left t x b : Nat) (x0 x1 s bs : Int) (l : List K3) (A : Option Addr) (c lb : Nat) (w : World) (hx : LrAt rp p x0 x1 w) (h : RdAt w base p ps left) (hL : kc.R 77 w lb (fun b => b ≠ p ∧ b ≠ rp) (.slice A l.length c) l)
    (hps : ∀ x ∈ ps, 0 ≤ x ∧ x < 256) (hl : left ≤ 8 * ps.length) (hl2 : ps.length ≤ 1000000) (hne : rp ≠ p) (ht : t < 2) (hp : pick2 t x0 x1 = x) (hxl : x < l.length) (he : l.getD x z3 = (s, (b : Int), bs)) (hb : b ≤ 24) (hle : ¬ b ≤ left) :
    Calls Try.prog 63 #[.pointer (some ⟨rp, 0, none⟩), .slice A l.length c, .int .i64 t] w fun e w' => e = .returned (.tuple #[.int .u8 0, .int .i64 3]) ∧ Below w.heap.size w w' := by
  obtain ⟨ad, rfl, hc0, hc1, hf1, hc2⟩ := next_cells hL hx (Only.refl _ _) hne hp hxl ht
  rw [he] at hc2
  have HH := Lib.hid h
  have HP := Lib.hid (And.intro hps (And.intro hl (And.intro hl2 (And.intro hne hx))))
  have HLE := Lib.hid hle
  have hu62 := Try.underlying62
  have hl0 : ((l.length : Int) == 0) = false := by simp; intro e; subst e; simp at hxl
  have hxI : (x : Int) < (l.length : Int) := by omega
  have htI : (t : Int) < 2 := by omega
  clear h hps hl hl2 hx hne hL hp he hle
  go_enter Try.func63, Try.ntmps63
  go_wp2_with fail
  go_region_held3 (fun w' => w'.cell? ⟨rp, 0, none⟩ = some (.pointer (some ⟨p, 0, none⟩)) ∧ w'.cell? ⟨rp, 1 + t, none⟩ = some (.int .i64 x) ∧ w'.cell? ⟨(ad.add (x * 3)).block, (ad.add (x * 3)).off + 1, none⟩ = some (.int .i64 b)) ((repeat' apply And.intro) <;> first | assumption)
    (first | (go_at_call 62; refine (take_no base p ps left b _ (by first | exact HH.out | exact rd_drew HH.out) HP.out.1 HP.out.2.1 HP.out.2.2.1 hb HLE.out).mono ?_; rintro e w1 ⟨rfl, rfl⟩))
  go_wp2_with fail
  go_ret2
  exact ⟨rfl, (Below.refl _ _).drew⟩
set_option maxRecDepth 100000 in
theorem next_none (rp : Addr) (t : Int) (w : World) (c : Nat) (A : Option Addr) :
    Calls Try.prog 63 #[.pointer (some rp), .slice A 0 c, .int .i64 t] w fun e w' => e = .returned (.tuple #[.int .u8 0, .int .i64 13]) ∧ w = w' := by
  go_enter Try.func63, Try.ntmps63
  go_wp2_with fail
  go_ret2
  exact ⟨rfl, rfl⟩
end Go.Proofs.Ytfnobinenolhhaa
namespace Go.Proofs.Ytfnobinenolhhaa
open Go.RowKit
theorem infoIntE : ∃ i, Try.prog.info? 3 = some i ∧ i.size = 1 := by
  have h : (Try.prog.info? 3).map (·.size) = some 1 := by kernel_rfl
  obtain ⟨i, hi, h2⟩ := Option.map_eq_some_iff.1 h
  exact ⟨i, hi, h2⟩
theorem cellsInt : Try.prog.cellsOf 3 = 1 := by
  obtain ⟨i, hi, h2⟩ := infoIntE
  unfold Program.cellsOf; rw [hi]; exact h2
theorem eq_two (y0 y1 z0 z1 : Int) (w : World) : (Op.equalIn 10000 62 (.agg #[.int .i64 y0, .int .i64 y1]) (.agg #[.int .i64 z0, .int .i64 z1])).run Try.prog w = .ok ((y0 == z0) && (y1 == z1)) w := by
  obtain ⟨i, hi, h2⟩ := infoIntE
  rw [show (10000 : Nat) = 9999 + 1 from rfl, run_equalIn_array (P := Try.prog) (w := w) 9999 (t := 62) (e := 3) (n := 2) (i := i) _ _ Try.underlying62 hi, cellsInt]
  have e : List.range 2 = [0, 1] := rfl
  have hk : Try.prog.plainKey 3 = true := by kernel_rfl
  have hp : ∀ (xs : Array Value) (j : Nat) (v : Value), xs[j]? = some v → (part 3 xs j).run Try.prog w = .ok v w := fun xs j v h => run_part_plain (P := Try.prog) (w := w) hk h
  have hq : ∀ (x y : Int), (Op.equalIn 9999 3 (.int .i64 x) (.int .i64 y)).run Try.prog w = .ok (x == y) w := fun x y => run_equalIn_int w 9998 3 .i64 .i64 x y Try.underlying3
  rw [e]
  have a0 := hp #[.int .i64 y0, .int .i64 y1] (0 * 1) (.int .i64 y0) rfl
  have b0 := hp #[.int .i64 z0, .int .i64 z1] (0 * 1) (.int .i64 z0) rfl
  have a1 := hp #[.int .i64 y0, .int .i64 y1] (1 * 1) (.int .i64 y1) rfl
  have b1 := hp #[.int .i64 z0, .int .i64 z1] (1 * 1) (.int .i64 z1) rfl
  simp only [Op.eqItems, Sem.run_bind, a0, b0, hq, Result.andThen_ok]
  cases h : (y0 == z0)
  · rfl
  · simp only [Bool.not_true, Bool.false_eq_true, if_false, Sem.run_bind, a1, b1, hq, Result.andThen_ok, Bool.true_and]
    cases h2 : (y1 == z1) <;> rfl
end Go.Proofs.Ytfnobinenolhhaa
namespace Go.Proofs.Ytfnobinenolhhaa
open Go.RowKit Go.IntWalk Go.Proofs.YtfnobinenolhhaaW.PrintWords
/-- what reading tells, from a place on: an error's number, and the bytes -/
def decGo (one : Bool) (qs : List (List Int)) (ps : List Int) : Nat → Nat → Int → Int → Int → Nat → List Int → Int × List Int
  | 0, _, _, x0, x1, left, out => if x0 = 0 ∧ x1 = 0 ∧ left = 0 then (0, out) else (14, [])
  | n + 1, i, last, x0, x1, left, out =>
    let l := cellsOf (qs.getD (listI one last) [])
    if l.length = 0 then (13, []) else
      let c := l.getD (pick2 (i % 2) x0 x1).toNat z3
      if left < c.2.1.toNat then (3, []) else
        let y := c.2.2 + takeV ps left c.2.1.toNat
        decGo one qs ps n (i + 1) c.1 (set2 (i % 2) x0 x1 y).1 (set2 (i % 2) x0 x1 y).2 (left - c.2.1.toNat) (out ++ [c.1])
theorem cellsC_len {q : List Int} (h : logC q ≠ 0) : (cellsC q).length = 2 ^ logC q := by
  unfold cellsC cellsTo; rw [List.length_map, List.length_range, syms_length h]
theorem cellsC_get {q : List Int} (h : logC q ≠ 0) (x : Nat) (hx : x < 2 ^ logC q) : (cellsC q).getD x z3 = cellAt q x := by
  have hl := cellsC_len h
  rw [List.getD_eq_getElem?_getD, List.getElem?_eq_getElem (by omega), Option.getD_some]
  unfold cellsC cellsTo; simp
/-- a cell's numbers -/
theorem cellAt_ok {q : List Int} (h : logC q ≠ 0) (x : Nat) (hx : x < 2 ^ logC q) : 0 ≤ (cellAt q x).1 ∧ (cellAt q x).1 < 256 ∧ (∃ b : Nat, (cellAt q x).2.1 = b ∧ b ≤ 12 ∧ (cellAt q x).2.2 + 2 ^ b ≤ 2 ^ logC q) ∧ 0 ≤ (cellAt q x).2.2 ∧ (cellAt q x).2.2 ≤ 100000 := by
  have hq := good_of_log h
  have hj : x < (symsL q).length := by rw [syms_length h]; exact hx
  have hs := sym_at hq x hj
  obtain ⟨g0, g1, g2, g3, g4⟩ := grown_floor h x hj
  have hr : logC q ≤ 12 := logT_le _
  have hp : 2 ^ logC q ≤ 2 ^ 12 := Nat.pow_le_pow_right (by omega) hr
  have e2 : (2 : Int) ^ logC q = ((2 ^ logC q : Nat) : Int) := by simp
  have e1 : (2 : Int) ^ (logC q - floorI (grownC q x)) = ((2 ^ (logC q - floorI (grownC q x)) : Nat) : Int) := by simp
  have e3 : (grownC q x : Int) * 2 ^ (logC q - floorI (grownC q x)) = ((grownC q x * 2 ^ (logC q - floorI (grownC q x)) : Nat) : Int) := by simp
  have hgb : (grownC q x + 1) * 2 ^ (logC q - floorI (grownC q x)) ≤ 2 * 2 ^ logC q := by
    obtain ⟨_, f2⟩ := floor_pow (grownC q x) g0 (by omega)
    calc _ ≤ 2 ^ (floorI (grownC q x) + 1) * 2 ^ (logC q - floorI (grownC q x)) := Nat.mul_le_mul_right _ f2
      _ = 2 ^ (logC q + 1) := by rw [← Nat.pow_add]; congr 1; omega
      _ = _ := by rw [Nat.pow_succ]; omega
  rw [Nat.add_mul, Nat.one_mul] at hgb
  unfold cellAt
  refine ⟨hs.1, hs.2.1, ⟨_, rfl, by omega, ?_⟩, ?_, ?_⟩
  · show (grownC q x : Int) * 2 ^ (logC q - floorI (grownC q x)) - 2 ^ logC q + 2 ^ (logC q - floorI (grownC q x)) ≤ 2 ^ logC q
    rw [e1, e2, ← Int.natCast_mul]; omega
  · show 0 ≤ (grownC q x : Int) * 2 ^ (logC q - floorI (grownC q x)) - 2 ^ logC q
    rw [e1, e2, ← Int.natCast_mul]; omega
  · show (grownC q x : Int) * 2 ^ (logC q - floorI (grownC q x)) - 2 ^ logC q ≤ 100000
    rw [e1, e2, ← Int.natCast_mul]; omega
theorem logC_nil {q : List Int} (h : q.length = 0) : logC q = 0 := by
  by_cases e : logC q = 0
  · exact e
  · have := (good_of_log e).len; omega
/-- a list of a right model has cells for all states, or none -/
theorem right_cells {lg : Int} {one : Bool} {qs : List (List Int)} (h : rightM lg one qs = true) (k : Nat) : (cellsOf (qs.getD k [])).length = 0 ∨ (logC (qs.getD k []) ≠ 0 ∧ (logC (qs.getD k []) : Int) = lg ∧ cellsOf (qs.getD k []) = cellsC (qs.getD k []) ∧ (cellsOf (qs.getD k [])).length = 2 ^ lg.toNat) := by
  by_cases e : (qs.getD k []).length = 0
  · left; unfold cellsOf; rw [if_pos (logC_nil e)]; rfl
  · have h2 := right_get h k e
    right
    have e2 : cellsOf (qs.getD k []) = cellsC (qs.getD k []) := by unfold cellsOf; rw [if_neg h2.1]
    refine ⟨h2.1, h2.2, e2, ?_⟩
    rw [e2, cellsC_len h2.1]
    congr 1; omega
def ReadPost (res : Int × List Int) (w0 : World) (e : Ending) (w' : World) : Prop := (∃ v, e = .returned (.tuple #[v, .int .i64 res.1]) ∧ (Kd.int .u8).R 5 w' w0.heap.size (fun _ => True) v res.2) ∧ Below w0.heap.size w0 w'
structure RdRel (lg : Int) (one : Bool) (A : Option Addr) (c : Nat) (qs : List (List Int)) (tb me md rp p : Nat) (ps : List Int) (w0 : World) (N k : Nat) (f : Int → Option Value) (v : Value) (out : List Int) (x0 x1 : Int) (left : Nat) (wr : World) : Prop where
  lr : LrAt rp p x0 x1 wr
  rd : RdAt wr w0.heap.size p ps left
  dec : DecInv lg one A c qs tb me md k f (fun b => b = p ∨ b = rp ∨ v.ownBlock = some b) w0 wr
  out : (Kd.int .u8).R 5 wr N (fun _ => True) v out
  size : N ≤ wr.heap.size
theorem DecInv.out {lg : Int} {one : Bool} {A : Option Addr} {c : Nat} {qs : List (List Int)} {tb me md n : Nat} {f : Int → Option Value} {Out Out' : Nat → Prop} {w0 w w' : World} (h : DecInv lg one A c qs tb me md n f Out w0 w) (ho : Only Out w w') (hs : ∀ g, Out' g → (Out g ∨ w.heap.size ≤ g) ∧ g < w'.heap.size) : DecInv lg one A c qs tb me md n f Out' w0 w' := by
  have hsz := ho.size
  have hw := h.below.size
  refine ⟨?_, ?_, by have := h.mlt; omega, ?_, h.mge, ?_, ?_, ?_⟩
  · rw [ho.block tb (blk_lt h.blk) h.ne.1]; exact h.blk
  · rw [ho.block md h.mlt h.ne.2.1]; exact h.mp
  · exact h.below.trans (ho.below hw (fun k hk => (h.oge k hk).1))
  · intro g hg
    refine ⟨?_, (hs g hg).2⟩
    rcases (hs g hg).1 with x | x
    · exact (h.oge g x).1
    · omega
  · intro i hi v hv
    refine Kd.R_mono (Kd.R_step (Kd.R_bound (h.ent i hi v hv)) (fun k hk hlt => ho.block k hlt hk.1.1)) (fun k hk => ⟨fun hg => ?_, hk.1.2⟩)
    rcases (hs k hg).1 with x | x
    · exact hk.1.1 x
    · have := hk.2.2.1; omega
  · refine ⟨fun hg => ?_, fun hg => ?_, h.ne.2.2⟩
    · rcases (hs tb hg).1 with x | x
      · exact h.ne.1 x
      · have := blk_lt h.blk; omega
    · rcases (hs md hg).1 with x | x
      · exact h.ne.2.1 x
      · have := h.mlt; omega
/-- where things lie -/
structure RdPl (tb md rp p N : Nat) (w0 : World) : Prop where
  p0 : w0.heap.size ≤ p
  pr : p < rp
  rN : rp < N
  pm : rp < md
  mN : md < N
/-- behind decode -/
structure RdMid (lg : Int) (one : Bool) (A : Option Addr) (c : Nat) (qs : List (List Int)) (tb me md rp p : Nat) (ps : List Int) (w0 : World) (N k : Nat) (f : Int → Option Value) (v vc : Value) (j : Nat) (out : List Int) (x0 x1 : Int) (left : Nat) (wr : World) : Prop where
  r : RdRel lg one A c qs tb me md rp p ps w0 N (k + 1) f v out x0 x1 left wr
  row : kc.R 77 wr w0.heap.size (fun b => b ≠ p ∧ b ≠ rp) vc (cellsOf (qs.getD j []))
theorem rd_mid {lg : Int} {one : Bool} {A : Option Addr} {c : Nat} {qs : List (List Int)} {tb me md rp p : Nat} {ps : List Int} {w0 : World} {N k j : Nat} {f : Int → Option Value} {v : Value} {out : List Int} {x0 x1 : Int} {left : Nat} {wr w1 : World} {e : Ending} (hpl : RdPl tb md rp p N w0) (h : RdRel lg one A c qs tb me md rp p ps w0 N k f v out x0 x1 left wr)
    (hp : DecPost lg one A c qs tb me md k (fun b => b = p ∨ b = rp ∨ v.ownBlock = some b) j w0 wr e w1) : ∃ f' vc, e = .returned vc ∧ RdMid lg one A c qs tb me md rp p ps w0 N k f' v vc j out x0 x1 left w1 := by
  obtain ⟨f', vc, he, hd, hrow, ho⟩ := hp
  have := hpl.pr
  have := hpl.pm
  refine ⟨f', vc, he, ⟨(ho.block rp (blk_lt h.lr) (by omega)).trans h.lr, ?_, hd, ?_, Nat.le_trans h.size ho.size⟩, Kd.R_mono hrow (fun b hb => ⟨fun e => hb.1 (.inl e), fun e => hb.1 (.inr (.inl e))⟩)⟩
  · obtain ⟨g, cc, h0, h1, h2⟩ := h.rd.ex
    refine ⟨g, cc, h0, (ho.block p (blk_lt h1) (by omega)).trans h1, Kd.R_mono (Kd.R_step (Kd.R_tight2 rfl h2) (fun b hb hlt => ho.block b hlt ?_)) (fun b hb => hb.2)⟩
    have : b = g := Option.some.inj hb.1
    omega
  · refine Kd.R_mono (Kd.R_step (Kd.R_bound h.out) (fun b hb hlt => ho.block b hlt ?_)) (fun _ _ => trivial)
    have := hb.2.1; have := hpl.mN; omega
theorem rd_next {lg : Int} {one : Bool} {A : Option Addr} {c : Nat} {qs : List (List Int)} {tb me md rp p : Nat} {ps : List Int} {w0 : World} {N k j : Nat} {f : Int → Option Value} {v vc : Value} {out : List Int} {x0 x1 y0 y1 : Int} {left left' : Nat} {w1 w2 : World} (hpl : RdPl tb md rp p N w0) (h : RdMid lg one A c qs tb me md rp p ps w0 N k f v vc j out x0 x1 left w1)
    (hn : NextPost w0.heap.size rp p ps left' y0 y1 w1 w2) : RdRel lg one A c qs tb me md rp p ps w0 N (k + 1) f v out y0 y1 left' w2 := by
  have := hpl.pr
  have := hpl.rN
  refine ⟨hn.lr, hn.rd, h.r.dec.out (hn.only.mono (fun b _ hb => hb.imp id .inl)) (fun g hg => ⟨.inl hg, by have := (h.r.dec.oge g hg).2; have := hn.only.size; omega⟩), ?_, Nat.le_trans h.r.size hn.only.size⟩
  refine Kd.R_mono (Kd.R_step (Kd.R_bound h.r.out) (fun b hb hlt => hn.only.block b hlt (fun e => ?_))) (fun _ _ => trivial)
  have := hb.2.1; omega
theorem rd_app {lg : Int} {one : Bool} {A : Option Addr} {c : Nat} {qs : List (List Int)} {tb me md rp p : Nat} {ps : List Int} {w0 : World} {N k : Nat} {f : Int → Option Value} {v v1 : Value} {out out1 : List Int} {x0 x1 : Int} {left : Nat} {w2 w3 : World} (hpl : RdPl tb md rp p N w0) (h : RdRel lg one A c qs tb me md rp p ps w0 N k f v out x0 x1 left w2)
    (hr : (Kd.int .u8).R 5 w3 N (fun _ => True) v1 out1) (hg : w2.grownBy w3 v.ownBlock) (hat : v1.ownBlock = v.ownBlock ∨ ∃ b, v1.ownBlock = some b ∧ w2.heap.size ≤ b) : RdRel lg one A c qs tb me md rp p ps w0 N k f v1 out1 x0 x1 left w3 := by
  have h1 := hpl.pr
  have h2 := hpl.rN
  have hge : ∀ b, v.ownBlock = some b → N ≤ b := fun b hb => ((Kd.R_bound h.out).1 b hb).2.1
  have hne : ∀ b, b < N → some b ≠ v.ownBlock := fun b hb e => by have := hge b e.symm; omega
  have hsz := hg.size
  refine ⟨(hg.block rp (blk_lt h.lr) (hne _ (by omega))).trans h.lr, ?_, h.dec.out (Only.of_grown hg (fun b hb => .inr (.inr hb))) (fun g hgo => ?_), hr, Nat.le_trans h.size hsz⟩
  · obtain ⟨g, cc, a0, a1, a2⟩ := h.rd.ex
    refine ⟨g, cc, a0, (hg.block p (blk_lt a1) (hne _ (by omega))).trans a1, Kd.R_mono (Kd.R_step (Kd.R_tight2 rfl a2) (fun b hb hlt => hg.block b hlt ?_)) (fun b hb => hb.2)⟩
    have : b = g := Option.some.inj hb.1
    exact hne b (by omega)
  · rcases hgo with rfl | rfl | hgo
    · exact ⟨.inl (.inl rfl), by obtain ⟨g, cc, a0, a1, a2⟩ := h.rd.ex; have := blk_lt a1; omega⟩
    · exact ⟨.inl (.inr (.inl rfl)), by have := blk_lt h.lr; omega⟩
    · refine ⟨?_, ((Kd.R_bound hr).1 g hgo).2.2.1⟩
      rcases hat with e | ⟨b, e, hb⟩
      · exact .inl (.inr (.inr (by rw [← e]; exact hgo)))
      · rw [e] at hgo; cases hgo; exact .inr hb
theorem rd_box {lg : Int} {one : Bool} {A : Option Addr} {c : Nat} {qs : List (List Int)} {tb me md rp p : Nat} {ps : List Int} {w0 : World} {N k : Nat} {f : Int → Option Value} {v : Value} {out : List Int} {x0 x1 : Int} {left : Nat} {w2 : World} (h : RdRel lg one A c qs tb me md rp p ps w0 N k f v out x0 x1 left w2) : (Kd.int .u8).R 5 w2 N (fun _ => True) v out ∧ N ≤ w2.heap.size := ⟨h.out, h.size⟩
/-- one step of reading, as decGo says it -/
theorem decGo_none {one : Bool} {qs : List (List Int)} {ps : List Int} {n i lf : Nat} {la y0 y1 : Int} {out : List Int} (h : (cellsOf (qs.getD (listI one la) [])).length = 0) : decGo one qs ps (n + 1) i la y0 y1 lf out = (13, []) := by
  simp only [decGo]; rw [if_pos h]
theorem decGo_short {one : Bool} {qs : List (List Int)} {ps : List Int} {n i lf x b : Nat} {la y0 y1 s bs : Int} {out : List Int} (h : (cellsOf (qs.getD (listI one la) [])).length ≠ 0) (hx : pick2 (i % 2) y0 y1 = x) (he : (cellsOf (qs.getD (listI one la) [])).getD x z3 = (s, (b : Int), bs)) (hb : ¬ b ≤ lf) : decGo one qs ps (n + 1) i la y0 y1 lf out = (3, []) := by
  simp only [decGo]; rw [if_neg h, hx, Int.toNat_natCast, he, if_pos (by show lf < (b : Int).toNat; omega)]
theorem decGo_yes {one : Bool} {qs : List (List Int)} {ps : List Int} {n i lf x b : Nat} {la y0 y1 s bs : Int} {out : List Int} (h : (cellsOf (qs.getD (listI one la) [])).length ≠ 0) (hx : pick2 (i % 2) y0 y1 = x) (he : (cellsOf (qs.getD (listI one la) [])).getD x z3 = (s, (b : Int), bs)) (hb : b ≤ lf) :
    decGo one qs ps (n + 1) i la y0 y1 lf out = decGo one qs ps n (i + 1) s (set2 (i % 2) y0 y1 (bs + takeV ps lf b)).1 (set2 (i % 2) y0 y1 (bs + takeV ps lf b)).2 (lf - b) (out ++ [s]) := by
  simp only [decGo]; rw [if_neg h, hx, Int.toNat_natCast, he, if_neg (by show ¬ lf < (b : Int).toNat; omega)]; rfl
theorem set2_range {t : Nat} {y0 y1 y M : Int} (h0 : 0 ≤ y0 ∧ y0 < M) (h1 : 0 ≤ y1 ∧ y1 < M) (hy : 0 ≤ y ∧ y < M) : (0 ≤ (set2 t y0 y1 y).1 ∧ (set2 t y0 y1 y).1 < M) ∧ (0 ≤ (set2 t y0 y1 y).2 ∧ (set2 t y0 y1 y).2 < M) := by
  unfold set2; split
  · exact ⟨hy, h1⟩
  · exact ⟨h0, hy⟩
set_option maxRecDepth 100000 in
set_option maxHeartbeats 2000000 in
theorem read_any (lg : Int) (one : Bool) (A : Option Addr) (c : Nat) (qs : List (List Int)) (tb me md rp p : Nat) (ps : List Int) (x0 x1 : Int) (left n : Nat) (w0 w : World) (hrd : kq.C w0 A qs.length qs) (hrt : rightM lg one qs = true) (hpl : RdPl tb md rp p w.heap.size w0)
    (h : RdRel lg one A c qs tb me md rp p ps w0 w.heap.size 0 (fun _ => none) (.slice none 0 0) [] x0 x1 left w) (hps : ∀ x ∈ ps, 0 ≤ x ∧ x < 256) (hl : left ≤ 8 * ps.length) (hl2 : ps.length ≤ 1000000) (hx0 : 0 ≤ x0 ∧ x0 < 2 ^ lg.toNat) (hx1 : 0 ≤ x1 ∧ x1 < 2 ^ lg.toNat) (hn : n ≤ 200000) :
    Calls Try.prog 36 #[.pointer (some ⟨rp, 0, none⟩), .int .i64 n, .func (.func 37) #[.pointer (some ⟨tb, 0, none⟩)] #[]] w (ReadPost (decGo one qs ps n 0 0 x0 x1 left []) w0) := by
  have hu62 := Try.underlying62
  have HRD := Lib.hid hrd
  have HRT := Lib.hid hrt
  have HPL := Lib.hid hpl
  have HH := Lib.hid h
  have HP := Lib.hid (And.intro hps (And.intro hl hl2))
  have HX := Lib.hid (And.intro hx0 hx1)
  obtain ⟨R, hR⟩ : ∃ R, R = decGo one qs ps n 0 0 x0 x1 left [] := ⟨_, rfl⟩
  rw [← hR]
  have HR := Lib.hid hR
  clear hrd hrt hpl h hps hl hl2 hx0 hx1 hR
  have HSZ := Lib.hid HH.out.dec.below.size
  obtain ⟨N, hN⟩ : ∃ N, N = w.heap.size := ⟨_, rfl⟩
  rw [← hN] at HPL HH HSZ
  clear hN
  go_enter Try.func36, Try.ntmps36
  go_wp2_with fail
  go_loopw [8, 9, 14] (fun v last kv wr => ∃ (k la : Nat) (f : Int → Option Value) (out : List Int) (y0 y1 : Int) (lf : Nat), kv = .int .i64 k ∧ k ≤ n ∧ last = .int .u8 la ∧ Hid (la < 256 ∧ RdRel lg one A c qs tb me md rp p ps w0 N k f v out y0 y1 lf wr ∧ R = decGo one qs ps (n - k) k la y0 y1 lf out ∧ lf ≤ left ∧ out.length = k ∧ (0 ≤ y0 ∧ y0 < 2 ^ lg.toNat) ∧ (0 ≤ y1 ∧ y1 < 2 ^ lg.toNat))) (fun _ _ kv _ => n - (intOf kv).toNat)
  case atStart => exact ⟨0, 0, fun _ => none, [], x0, x1, left, rfl, by omega, rfl, by omega, HH.out, HR.out, Nat.le_refl _, rfl, HX.out.1, HX.out.2⟩
  case round =>
    obtain ⟨k, la, f, out, y0, y1, lf, rfl, hk, rfl, H⟩ := hrel
    by_cases hlt : k < n
    · have hla : la < 256 := H.out.1
      obtain ⟨j, hj⟩ : ∃ j, j = listI one (la : Int) := ⟨_, rfl⟩
      have hjl : listI one (la : Int) < qs.length := list_lt HRT.out (by omega)
      have HD := Lib.hid (decode_any lg one A c qs tb me md k la f _ w0 wr HRD.out H.out.2.1.dec (by omega) (by omega) hjl)
      rw [← hj] at HD
      have HJ := Lib.hid hj
      obtain ⟨t, htt⟩ : ∃ t, t = k % 2 := ⟨_, rfl⟩
      have hk2 : (k : Int) % 2 = (t : Int) := by omega
      have HT : Hid (t = k % 2 ∧ t < 2) := ⟨htt, by omega⟩
      clear htt
      clear hj hjl
      go_wp2_with fail
      refine HD.out.mono ?_
      rintro e w1 hp
      obtain ⟨f', vc, rfl, hm⟩ := rd_mid HPL.out H.out.2.1 hp
      obtain ⟨A1, c1, rfl⟩ := Kd.R_slice hm.row
      have HM := Lib.hid hm
      have hrc := right_cells HRT.out j
      obtain ⟨cs, hcs⟩ : ∃ cs, cs = cellsOf (qs.getD j []) := ⟨_, rfl⟩
      have HCS := Lib.hid hcs
      have hrow := hm.row
      rw [← hcs] at hrow hrc ⊢
      have HROW := Lib.hid hrow
      clear hp hm hcs hrow
      by_cases hz : cs.length = 0
      · have HE : Hid (R = (13, [])) := by
          show _ = _
          rw [H.out.2.2.1, show n - k = (n - k - 1) + 1 by omega]
          exact decGo_none (by rw [← HJ.out, ← HCS.out]; exact hz)
        rw [hz]
        clear hz hrc
        go_wp2_with fail
        refine (next_none _ _ _ _ _).mono ?_
        rintro e w' ⟨rfl, rfl⟩
        go_wp2_with fail
        go_ret2
        rw [HE.out]
        exact ⟨⟨_, rfl, Kd.R_nil _ _ _ _ _⟩, HM.out.r.dec.below⟩
      · obtain ⟨hq1, hq2, hq3, hq4⟩ := hrc.resolve_left hz
        have hpr : 0 ≤ pick2 t y0 y1 ∧ pick2 t y0 y1 < 2 ^ lg.toNat := by
          unfold pick2; split
          · exact H.out.2.2.2.2.2.1
          · exact H.out.2.2.2.2.2.2
        obtain ⟨x, hx⟩ : ∃ x : Nat, pick2 t y0 y1 = x := ⟨(pick2 t y0 y1).toNat, by omega⟩
        have e2 : (2 : Int) ^ lg.toNat = ((2 ^ lg.toNat : Nat) : Int) := by simp
        have hlq : logC (qs.getD j []) = lg.toNat := by omega
        have hxl : x < cs.length := by rw [hx, e2] at hpr; omega
        have hca := cellAt_ok hq1 x (by rw [hlq]; omega)
        rw [← cellsC_get hq1 x (by rw [hlq]; omega), ← hq3] at hca
        obtain ⟨⟨s, bI, bs⟩, hce⟩ : ∃ t : K3, t = cs.getD x z3 := ⟨_, rfl⟩
        rw [← hce] at hca
        obtain ⟨a1, a2, ⟨b, a3, a4, a5⟩, a6, a7⟩ := hca
        simp only at a1 a2 a3 a4 a5 a6 a7
        subst a3
        obtain ⟨s, rfl⟩ : ∃ s' : Nat, s = s' := ⟨s.toNat, by omega⟩
        have hll : cs.length ≤ 100000 := by
          have h12 := (right_len HRT.out).2.1
          have : 2 ^ lg.toNat ≤ 2 ^ 12 := Nat.pow_le_pow_right (by omega) (by omega)
          omega
        have hs256 : s < 256 := by omega
        have HC := Lib.hid (And.intro hx (And.intro hxl (And.intro hll (And.intro hce.symm (And.intro (And.intro a6 a7) (And.intro hz (And.intro a4 a5)))))))
        have HRR := Lib.hid HM.out.r
        clear hrc hq1 hq2 hq3 hq4 hpr hx hlq hce a1 a2 a4 a5 a6 a7 hz hll hxl e2
        by_cases hle : b ≤ lf
        · have HY := Lib.hid hle
          have HE : Hid (R = decGo one qs ps (n - (k + 1)) (k + 1) s (set2 t y0 y1 (bs + takeV ps lf b)).1 (set2 t y0 y1 (bs + takeV ps lf b)).2 (lf - b) (out ++ [(s : Int)])) := by
            show _ = _
            rw [H.out.2.2.1, show n - k = (n - (k + 1)) + 1 by omega, HT.out.1]
            exact decGo_yes (by rw [← HJ.out, ← HCS.out]; exact HC.out.2.2.2.2.2.1) (by rw [← HT.out.1]; exact HC.out.1) (by rw [← HJ.out, ← HCS.out]; exact HC.out.2.2.2.1) hle
          have HRG : Hid (0 ≤ bs + (takeV ps lf b : Int) ∧ bs + (takeV ps lf b : Int) < 2 ^ lg.toNat) := by
            have h1 := takeV_lt ps lf b
            have h2 := HC.out.2.2.2.2.2.2.2
            have h3 := HC.out.2.2.2.2.1
            have e1 : (2 : Int) ^ b = ((2 ^ b : Nat) : Int) := by simp
            have hlq : logC (qs.getD j []) = lg.toNat := by have := (right_cells HRT.out j); rw [← HCS.out] at this; have := this.resolve_left HC.out.2.2.2.2.2.1; omega
            rw [e1, hlq] at h2
            exact ⟨by omega, by omega⟩
          clear hle
          go_wp2_with fail
          refine (next_yes w0.heap.size rp p ps lf t x b y0 y1 s bs cs A1 c1 w0.heap.size w1 HRR.out.lr HRR.out.rd HROW.out HP.out.1 (by have := HP.out.2.1; have := H.out.2.2.2.1; omega) HP.out.2.2 (by have := HPL.out.pr; omega) HT.out.2 HC.out.1 HC.out.2.1 HC.out.2.2.1 HC.out.2.2.2.1 (by have := HC.out.2.2.2.2.2.2.1; omega) HC.out.2.2.2.2.1 HY.out).mono ?_
          rintro e w2 ⟨rfl, hnp⟩
          have HR2 := Lib.hid (rd_next HPL.out HM.out hnp)
          clear hnp
          have HB2 := Lib.hid (rd_box HR2.out)
          have HLn : Hid ((out.length + 1) * 1 ≤ 140737488355328) := by show _ ≤ _; have := H.out.2.2.2.2.1; omega
          go_wp2_with (at_builtin; refine Kd.R_append (Kd.int .u8) (w0 := w2) (W := w2) N rfl (.tmp 31) (.tmp 33) 25 5 (.int .u8 0) 1 rfl Try.underlying25 infoU8 rfl (by decide) (by decide) _ _ (s : Int) [.int .u8 s] (fun _ => True) (fun _ => False) rfl rfl rfl (fun _ h => h.elim) (fun _ _ => trivial) HB2.out.1 (Below.refl _ _) HB2.out.2 HLn.out ?_; intro v1 w3 hr3 hb3 hg3 hat3; have HA := Lib.hid (rd_app HPL.out HR2.out hr3 hg3 hat3); clear hr3 hb3 hg3 hat3)
          go_roundw
          case rel =>
            refine ⟨k + 1, s, f', out ++ [(s : Int)], (set2 t y0 y1 (bs + takeV ps lf b)).1, (set2 t y0 y1 (bs + takeV ps lf b)).2, lf - b, by go_num, by omega, rfl, hs256, HA.out, HE.out, by have := H.out.2.2.2.1; omega, by rw [List.length_append, H.out.2.2.2.2.1]; rfl, ?_⟩
            exact set2_range H.out.2.2.2.2.2.1 H.out.2.2.2.2.2.2 HRG.out
          case measure => simp [intOf]; omega
        · have HY := Lib.hid hle
          have HE : Hid (R = (3, [])) := by
            show _ = _
            rw [H.out.2.2.1, show n - k = (n - (k + 1)) + 1 by omega]
            exact decGo_short (by rw [← HJ.out, ← HCS.out]; exact HC.out.2.2.2.2.2.1) (by rw [← HT.out.1]; exact HC.out.1) (by rw [← HJ.out, ← HCS.out]; exact HC.out.2.2.2.1) hle
          clear hle
          go_wp2_with fail
          refine (next_short w0.heap.size rp p ps lf t x b y0 y1 s bs cs A1 c1 w0.heap.size w1 HRR.out.lr HRR.out.rd HROW.out HP.out.1 (by have := HP.out.2.1; have := H.out.2.2.2.1; omega) HP.out.2.2 (by have := HPL.out.pr; omega) HT.out.2 HC.out.1 HC.out.2.1 HC.out.2.2.2.1 (by have := HC.out.2.2.2.2.2.2.1; omega) HY.out).mono ?_
          rintro e w2 ⟨rfl, hb2⟩
          have HB2 : Hid (Below w0.heap.size w0 w2) := HRR.out.dec.below.trans (hb2.mono HRR.out.dec.below.size)
          clear hb2
          go_wp2_with fail
          go_ret2
          rw [HE.out]
          exact ⟨⟨_, rfl, Kd.R_nil _ _ _ _ _⟩, HB2.out⟩
    · obtain rfl : k = n := by omega
      have hc0 : wr.cell? ⟨rp, 0, none⟩ = some (.pointer (some ⟨p, 0, none⟩)) := (blk_cell H.out.2.1.lr 0).trans rfl
      have hc1 : wr.cell? ⟨rp, 1, none⟩ = some (.int .i64 y0) := (blk_cell H.out.2.1.lr 1).trans rfl
      have hc2 : wr.cell? ⟨rp, 2, none⟩ = some (.int .i64 y1) := (blk_cell H.out.2.1.lr 2).trans rfl
      have heq := eq_two y0 y1 0 0 wr
      have HLft := Lib.hid (left_any w0.heap.size p ps lf wr H.out.2.1.rd)
      have HBw := Lib.hid H.out.2.1.dec.below
      by_cases hz : y0 = 0 ∧ y1 = 0
      · rw [show ((y0 == 0) && (y1 == 0)) = true by rw [hz.1, hz.2]; rfl] at heq
        by_cases hl0 : lf = 0
        · have HE : Hid (R = (0, out)) := by
            show _ = _
            rw [H.out.2.2.1, Nat.sub_self]; simp only [decGo]; rw [if_pos ⟨hz.1, hz.2, hl0⟩]
          have HO : Hid ((Kd.int .u8).R 5 wr w0.heap.size (fun _ => True) u8 out) := by
            show Kd.R _ _ _ _ _ _ _
            exact Kd.R_lower H.out.2.1.out HSZ.out
          have hlb : ((0 : Int) < (lf : Int)) = False := by simp; omega
          have hlb2 : ¬ 0 < lf := by omega
          clear hz hl0
          go_wp2_with fail
          refine HLft.out.mono ?_
          rintro e w' ⟨rfl, rfl⟩
          go_wp2_with fail
          go_ret2
          rw [HE.out]
          exact ⟨⟨_, rfl, HO.out⟩, HBw.out⟩
        · have HE : Hid (R = (14, [])) := by
            show _ = _
            rw [H.out.2.2.1, Nat.sub_self]; simp only [decGo]; rw [if_neg (fun e => hl0 e.2.2)]
          have hlb2 : 0 < lf := by omega
          clear hz hl0
          go_wp2_with fail
          refine HLft.out.mono ?_
          rintro e w' ⟨rfl, rfl⟩
          go_wp2_with fail
          go_ret2
          rw [HE.out]
          exact ⟨⟨_, rfl, Kd.R_nil _ _ _ _ _⟩, HBw.out⟩
      · rw [show ((y0 == 0) && (y1 == 0)) = false by simp; intro e; exact fun e2 => hz ⟨e, e2⟩] at heq
        have HE : Hid (R = (14, [])) := by
          show _ = _
          rw [H.out.2.2.1, Nat.sub_self]; simp only [decGo]; rw [if_neg (fun e => hz ⟨e.1, e.2.1⟩)]
        clear hz
        go_wp2_with fail
        go_ret2
        rw [HE.out]
        exact ⟨⟨_, rfl, Kd.R_nil _ _ _ _ _⟩, HBw.out⟩
end Go.Proofs.Ytfnobinenolhhaa
namespace Go.Proofs.Ytfnobinenolhhaa
open Go.RowKit Go.IntWalk Go.Proofs.YtfnobinenolhhaaW.PrintWords
/-- the list of the byte at i -/
def qAt (one : Bool) (qs : List (List Int)) (b : List Int) (i : Nat) : List Int := qs.getD (listI one (ctxI b i)) []
/-- two states and the bits, behind k bytes from the end -/
def encN (one : Bool) (qs : List (List Int)) (b : List Int) : Nat → (Int × Int) × List Bool
  | 0 => ((0, 0), [])
  | k + 1 =>
    let r := encN one qs b k
    let i := b.length - 1 - k
    let x := if i % 2 = 0 then r.1.1 else r.1.2
    let y := stepNext (qAt one qs b i) x (b.getD i 0)
    (if i % 2 = 0 then (y, r.1.2) else (r.1.1, y), r.2 ++ lowBits (stepLow (qAt one qs b i) x (b.getD i 0)) (stepOut (qAt one qs b i) x (b.getD i 0)))
/-- a payload's bits -/
def encBits (lg : Int) (one : Bool) (qs : List (List Int)) (b : List Int) : List Bool :=
  let r := encN one qs b b.length
  r.2 ++ lowBits r.1.2.toNat lg.toNat ++ lowBits r.1.1.toNat lg.toNat
theorem place_lt {q : List Int} (h : logC q ≠ 0) (s : Int) (k : Nat) : 0 ≤ (placesC q s).getD k 0 ∧ (placesC q s).getD k 0 < 2 ^ logC q := by
  have hp : (1 : Int) ≤ 2 ^ logC q := (pow_le12 (logT_le _)).1
  rw [List.getD_eq_getElem?_getD]
  by_cases hk : k < (placesC q s).length
  · rw [List.getElem?_eq_getElem hk, Option.getD_some]
    have hm : (placesC q s)[k] ∈ placesC q s := List.getElem_mem hk
    obtain ⟨z, hz⟩ : ∃ z, z = (placesC q s)[k] := ⟨_, rfl⟩
    rw [← hz] at hm ⊢
    unfold placesC posN at hm
    obtain ⟨j, hj, e⟩ := List.mem_map.1 hm
    have hj2 := List.mem_range.1 (List.mem_filter.1 hj).1
    rw [syms_length h] at hj2
    rw [← e]
    have e2 : (2 : Int) ^ logC q = ((2 ^ logC q : Nat) : Int) := by simp
    rw [e2]
    constructor
    · exact Int.natCast_nonneg j
    · show (j : Int) < _; omega
  · rw [List.getElem?_eq_none (by omega)]; simp; omega
theorem fit_count {lg : Int} {one : Bool} {qs : List (List Int)} {b : List Int} (h : fitsM lg one qs b = true) (hb : Bytes b) (i : Nat) (hi : i < b.length) : logC (qAt one qs b i) ≠ 0 ∧ (logC (qAt one qs b i) : Int) = lg ∧ 0 < cntC (qAt one qs b i) (b.getD i 0) := by
  unfold fitsM at h
  simp only [Bool.and_eq_true, List.all_eq_true, List.mem_range] at h
  obtain ⟨h1, h2⟩ := h
  have h3 := h2 i hi
  unfold fitAt at h3
  simp only [decide_eq_true_eq] at h3
  have h4 := right_get h1 _ h3.1
  refine ⟨h4.1, h4.2, ?_⟩
  have hx := hb.get i
  obtain ⟨x, hxe⟩ : ∃ x : Nat, b.getD i 0 = x := ⟨(b.getD i 0).toNat, by omega⟩
  have hg := good_of_log h4.1
  have h5 := cnt_eq hg x
  have h6 := (hg.get x).1
  have h7 := h3.2
  unfold qAt
  rw [hxe] at h7 ⊢
  simp only [Int.toNat_natCast] at h7
  rw [h5]; omega
theorem encN_range {lg : Int} {one : Bool} {qs : List (List Int)} {b : List Int} (h : fitsM lg one qs b = true) (hb : Bytes b) : ∀ k, k ≤ b.length → 0 ≤ (encN one qs b k).1.1 ∧ (encN one qs b k).1.1 < 2 ^ lg.toNat ∧ 0 ≤ (encN one qs b k).1.2 ∧ (encN one qs b k).1.2 < 2 ^ lg.toNat
  | 0, _ => by
    have : (1 : Int) ≤ 2 ^ lg.toNat := by
      have := Nat.two_pow_pos lg.toNat
      have e : (2 : Int) ^ lg.toNat = ((2 ^ lg.toNat : Nat) : Int) := by simp
      omega
    simp [encN]; omega
  | k + 1, hk => by
    have ih := encN_range h hb k (by omega)
    have hf := fit_count h hb (b.length - 1 - k) (by omega)
    have hp := place_lt hf.1 (b.getD (b.length - 1 - k) 0)
    have e : lg.toNat = logC (qAt one qs b (b.length - 1 - k)) := by omega
    simp only [encN]
    rw [e] at ih ⊢
    split
    · exact ⟨(hp _).1, (hp _).2, ih.2.2.1, ih.2.2.2⟩
    · exact ⟨ih.1, ih.2.1, (hp _).1, (hp _).2⟩
theorem encN_len {lg : Int} {one : Bool} {qs : List (List Int)} {b : List Int} (h : fitsM lg one qs b = true) (hb : Bytes b) : ∀ k, k ≤ b.length → (encN one qs b k).2.length ≤ 17 * k
  | 0, _ => by simp [encN]
  | k + 1, hk => by
    have ih := encN_len h hb k (by omega)
    have hf := fit_count h hb (b.length - 1 - k) (by omega)
    have hr := encN_range h hb k (by omega)
    simp only [encN, List.length_append, lowBits_len]
    have e : lg.toNat = logC (qAt one qs b (b.length - 1 - k)) := by omega
    have hx : ∀ x : Int, 0 ≤ x → x < 2 ^ lg.toNat → stepOut (qAt one qs b (b.length - 1 - k)) x (b.getD (b.length - 1 - k) 0) ≤ 17 := fun x h0 h1 => by
      unfold stepOut wholeC
      have hc := cnt_le hf.1 (b.getD (b.length - 1 - k) 0)
      have hp := pow_le12 (r := logC (qAt one qs b (b.length - 1 - k))) (logT_le _)
      rw [e] at h1
      have e2 : (2 : Int) ^ logC (qAt one qs b (b.length - 1 - k)) = ((2 ^ logC (qAt one qs b (b.length - 1 - k)) : Nat) : Int) := by simp
      rw [e2] at hp h1
      exact (outC_spec hf.2.2 (by omega) (by omega)).2.2
    have := hx (if (b.length - 1 - k) % 2 = 0 then (encN one qs b k).1.1 else (encN one qs b k).1.2) (by split; exact hr.1; exact hr.2.2.1) (by split; exact hr.2.1; exact hr.2.2.2)
    omega
/-- within a round of write -/
structure WMid (lg : Int) (one : Bool) (A : Option Addr) (c : Nat) (qs : List (List Int)) (b : List Int) (tb me md p xb : Nat) (w0 : World) (k : Nat) (v : Value) (f : Int → Option Value) (wr : World) : Prop where
  wv : WrVal wr w0.heap.size p v (encN one qs b k).2
  enc : EncInv lg one A c qs tb me md (k + 1) f (fun g => g = p ∨ v.ownBlock = some g ∨ g = xb) w0 wr
  xs : wr.heap[xb]? = some (.cells #[.int .i64 (encN one qs b k).1.1, .int .i64 (encN one qs b k).1.2] 62 (0, 0))
  ne : xb ≠ p ∧ v.ownBlock ≠ some xb
/-- between rounds of write -/
structure WRel (lg : Int) (one : Bool) (A : Option Addr) (c : Nat) (qs : List (List Int)) (b : List Int) (tb me md p xb : Nat) (w0 : World) (k : Nat) (v : Value) (f : Int → Option Value) (wr : World) : Prop where
  wv : WrVal wr w0.heap.size p v (encN one qs b k).2
  enc : EncInv lg one A c qs tb me md k f (fun g => g = p ∨ v.ownBlock = some g ∨ g = xb) w0 wr
  xs : wr.heap[xb]? = some (.cells #[.int .i64 (encN one qs b k).1.1, .int .i64 (encN one qs b k).1.2] 62 (0, 0))
  ne : xb ≠ p ∧ v.ownBlock ≠ some xb
theorem EncInv.drew {lg : Int} {one : Bool} {A : Option Addr} {c : Nat} {qs : List (List Int)} {tb me md n : Nat} {f : Int → Option Value} {Out : Nat → Prop} {w0 w : World} (h : EncInv lg one A c qs tb me md n f Out w0 w) : EncInv lg one A c qs tb me md n f Out w0 w.drew :=
  ⟨h.blk, h.mp, h.mlt, h.below.drew, h.mge, h.oge, fun i hi v hv => by obtain ⟨t, lo, hi2, a, b, d, e⟩ := h.ent i hi v hv; exact ⟨t, lo, hi2, a, b.agree (fun _ _ _ => rfl), d, e⟩, h.ne⟩
theorem EncInv.out {lg : Int} {one : Bool} {A : Option Addr} {c : Nat} {qs : List (List Int)} {tb me md n : Nat} {f : Int → Option Value} {Out Out' : Nat → Prop} {w0 w w' : World} (h : EncInv lg one A c qs tb me md n f Out w0 w) (ho : Only Out w w') (hs : ∀ g, Out' g → (Out g ∨ w.heap.size ≤ g) ∧ g < w'.heap.size) : EncInv lg one A c qs tb me md n f Out' w0 w' := by
  have hsz := ho.size
  have hw := h.below.size
  refine ⟨?_, ?_, by have := h.mlt; omega, ?_, h.mge, ?_, ?_, ?_⟩
  · rw [ho.block tb (blk_lt h.blk) h.ne.1]; exact h.blk
  · rw [ho.block me h.mlt h.ne.2.1]; exact h.mp
  · exact h.below.trans (ho.below hw (fun k hk => (h.oge k hk).1))
  · intro g hg
    refine ⟨?_, (hs g hg).2⟩
    rcases (hs g hg).1 with x | x
    · exact (h.oge g x).1
    · omega
  · intro i hi v hv
    obtain ⟨t, lo, hi2, a, b, d, e⟩ := h.ent i hi v hv
    refine ⟨t, lo, hi2, a, b.agree (fun k k1 k2 => ho.block k (by omega) (e k k1 k2).1), by omega, fun g g1 g2 => ⟨fun hg => ?_, (e g g1 g2).2⟩⟩
    rcases (hs g hg).1 with x | x
    · exact (e g g1 g2).1 x
    · omega
  · refine ⟨fun hg => ?_, fun hg => ?_, h.ne.2.2⟩
    · rcases (hs tb hg).1 with x | x
      · exact h.ne.1 x
      · have := blk_lt h.blk; omega
    · rcases (hs me hg).1 with x | x
      · exact h.ne.2.1 x
      · have := h.mlt; omega
theorem wr_put {lg : Int} {one : Bool} {A : Option Addr} {c : Nat} {qs : List (List Int)} {b : List Int} {tb me md p k : Nat} {w0 w2 w3 : World} {v v' : Value} {f : Int → Option Value} {bs : List Bool} (h : WMid lg one A c qs b tb me md p (p + 1) w0 k v f w2)
    (hP : WrVal w3 w0.heap.size p v' bs ∧ (v'.ownBlock = v.ownBlock ∨ ∃ b, v'.ownBlock = some b ∧ w2.heap.size ≤ b) ∧ Only (fun k => k = p ∨ v.ownBlock = some k) w2 w3) :
    WrVal w3 w0.heap.size p v' bs ∧ EncInv lg one A c qs tb me md (k + 1) f (fun g => g = p ∨ v'.ownBlock = some g ∨ g = p + 1) w0 w3 ∧
      w3.heap[p + 1]? = some (.cells #[.int .i64 (encN one qs b k).1.1, .int .i64 (encN one qs b k).1.2] 62 (0, 0)) ∧ (p + 1 ≠ p ∧ v'.ownBlock ≠ some (p + 1)) := by
  obtain ⟨h1, h2, h3⟩ := hP
  have hx := blk_lt h.xs
  have hx3 : w3.heap[p + 1]? = w2.heap[p + 1]? := h3.block (p + 1) hx (fun e => by rcases e with e | e; omega; exact h.ne.2 e)
  refine ⟨h1, h.enc.out (h3.mono (fun g _ hg => by rcases hg with x | x; exact .inl x; exact .inr (.inl x))) (fun g hg => ?_), hx3.trans h.xs, by omega, ?_⟩
  · have hsz := h3.size
    rcases hg with rfl | hg | rfl
    · exact ⟨.inl (.inl rfl), by have := blk_lt h1.blk; omega⟩
    · refine ⟨?_, ((Kd.R_bound h1.row).1 g hg).2.2.1⟩
      rcases h2 with e | ⟨g', e, hge⟩
      · exact .inl (.inr (.inl (by rw [← e]; exact hg)))
      · rw [e] at hg; cases hg; exact .inr hge
    · exact ⟨.inl (.inr (.inr rfl)), by omega⟩
  · rcases h2 with e | ⟨g', e, hge⟩
    · rw [e]; exact h.ne.2
    · rw [e]; intro x; cases x; omega
theorem wrel_start {lg : Int} {one : Bool} {A : Option Addr} {c : Nat} {qs : List (List Int)} {B : List Int} {tb me md : Nat} {w0 w w1 : World} (h : EncInv lg one A c qs tb me md 0 (fun _ => none) (fun _ => False) w0 w) (_ : w1 = w.alloc (.cells #[.slice none 0 0, .int .i64 0] 95)) :
    WRel lg one A c qs B tb me md w.heap.size (w.heap.size + 1) w0 0 (.slice none 0 0) (fun _ => none) ((w.alloc (.cells #[.slice none 0 0, .int .i64 0] 95)).alloc (.cells #[.int .i64 0, .int .i64 0] 62)) := by
  have hsz := h.below.size
  have e : (w.alloc (.cells #[.slice none 0 0, .int .i64 0] 95)).heap.size = w.heap.size + 1 := by simp
  have e2 : ((w.alloc (.cells #[.slice none 0 0, .int .i64 0] 95)).alloc (.cells #[.int .i64 0, .int .i64 0] 62)).heap.size = w.heap.size + 2 := by simp
  have hb : Below w.heap.size w ((w.alloc (.cells #[.slice none 0 0, .int .i64 0] 95)).alloc (.cells #[.int .i64 0, .int .i64 0] 62)) := ((Below.refl _ _).alloc (Nat.le_refl _) _).alloc (by omega) _
  refine ⟨⟨blk_alloc (blk_new w _) _, by show Kd.R _ _ _ _ _ _ (packB []); rw [show packB [] = [] from rfl]; exact Kd.R_nil _ _ _ _ _⟩, h.out (Only.of_below hb) (fun g hg => ?_), ?_, by omega, by simp [Value.ownBlock]⟩
  · rcases hg with rfl | hg | rfl
    · exact ⟨.inr (Nat.le_refl _), by omega⟩
    · simp [Value.ownBlock] at hg
    · exact ⟨.inr (by omega), by omega⟩
  · have := blk_new (w.alloc (.cells #[.slice none 0 0, .int .i64 0] 95)) (.cells #[.int .i64 0, .int .i64 0] 62)
    rw [e] at this; exact this
theorem fits_right {lg : Int} {one : Bool} {qs : List (List Int)} {b : List Int} (h : fitsM lg one qs b = true) : rightM lg one qs = true := by
  unfold fitsM at h; simp only [Bool.and_eq_true] at h; exact h.1
theorem wr_cells1 {lg : Int} {one : Bool} {A : Option Addr} {c : Nat} {qs : List (List Int)} {b : List Int} {tb me md p k i ln : Nat} {w0 wr w1 : World} {v u1 u2 : Value} {f : Int → Option Value} {ad : Addr} (h : WRel lg one A c qs b tb me md p (p + 1) w0 k v f wr) (hl : ad.block < w0.heap.size)
    (ho : Only (fun g => g = me) wr.drew w1) (h1 : wr.cell? ⟨p + 1, ln, none⟩ = some u1) (h2 : wr.cell? (ad.add i) = some u2) : w1.cell? ⟨p + 1, ln, none⟩ = some u1 ∧ w1.cell? (ad.add i) = some u2 := by
  have hw := h.enc.below.size
  have hm := h.enc.mge
  have hab : (ad.add i).block = ad.block := by simp only [Addr.add]; split <;> rfl
  have e : ∀ (a : Addr) u, a.block < wr.heap.size → a.block ≠ me → wr.cell? a = some u → w1.cell? a = some u := fun a u ha hne hu => (World.cell?_of_block (ho.block a.block ha hne)).trans hu
  exact ⟨e _ _ (blk_lt h.xs) (fun x => h.enc.ne.2.1 (.inr (.inr x.symm))) h1, e _ _ (by rw [hab]; omega) (by rw [hab]; omega) h2⟩
theorem wr_mid {lg : Int} {one : Bool} {A : Option Addr} {c : Nat} {qs : List (List Int)} {b : List Int} {tb me md p k : Nat} {w0 wr w1 w2 : World} {v : Value} {f f' : Int → Option Value} (h : WRel lg one A c qs b tb me md p (p + 1) w0 k v f wr)
    (hE : EncInv lg one A c qs tb me md (k + 1) f' (fun g => g = p ∨ v.ownBlock = some g ∨ g = p + 1) w0 w1) (ho : Only (fun g => g = me) wr.drew w1) (hb : Below w1.heap.size w1 w2) : WMid lg one A c qs b tb me md p (p + 1) w0 k v f' w2 := by
  have hne := h.enc.ne.2.1
  have hk : ∀ g, g < wr.heap.size → g ≠ me → w2.heap[g]? = wr.heap[g]? := fun g hg hn => (hb.block g (Nat.lt_of_lt_of_le hg ho.size)).trans (ho.block g hg hn)
  have hp := blk_lt h.wv.blk
  have hx := blk_lt h.xs
  refine ⟨⟨by rw [hk p hp (fun e => hne (.inl e.symm))]; exact h.wv.blk, ?_⟩, hE.out (Only.of_below hb) (fun g hg => ⟨.inl hg, by have := (hE.oge g hg).2; have := hb.size; omega⟩), by rw [hk (p + 1) hx (fun e => hne (.inr (.inr e.symm)))]; exact h.xs, h.ne⟩
  refine Kd.R_mono (Kd.R_step (Kd.R_tight2 rfl h.wv.row) (fun g hg hlt => hk g hlt (fun e => hne (.inr (.inl (by rw [← e]; exact hg.1.symm))))) ) (fun g hg => hg.2)
theorem wr_n {q : List Int} {x s : Int} {N : Nat} {lg : Int} (hN : N = stepOut q x s) (hf : logC q ≠ 0 ∧ (logC q : Int) = lg ∧ 0 < cntC q s) (hx : 0 ≤ x ∧ x < 2 ^ lg.toNat) (hl : lg.toNat = logC q) : N ≤ 24 := by
  rw [hN]; unfold stepOut wholeC
  have hc := cnt_le hf.1 s
  have hp := pow_le12 (r := logC q) (logT_le _)
  rw [hl] at hx
  have e2 : (2 : Int) ^ logC q = ((2 ^ logC q : Nat) : Int) := by simp
  rw [e2] at hp hx
  have := (outC_spec hf.2.2 (show cntC q s ≤ 2 ^ logC q + x.toNat by omega) (by omega)).2.2
  omega
theorem wr_l {q : List Int} {x s : Int} {N L : Nat} (hN : N = stepOut q x s) (hL : L = stepLow q x s) (h : N ≤ 24) : L < 4294967296 := by
  rw [hL]; unfold stepLow; rw [← hN]
  have h1 := Nat.mod_lt (wholeC q x) (Nat.two_pow_pos N)
  have h2 : 2 ^ N ≤ 2 ^ 24 := Nat.pow_le_pow_right (by omega) h
  omega
theorem wr_step {lg : Int} {one : Bool} {A : Option Addr} {c : Nat} {qs : List (List Int)} {b : List Int} {tb me md p k n i N L : Nat} {x s Y : Int} {w0 w3 : World} {v' : Value} {f : Int → Option Value} (hn : n = i % 2) (hi : i = b.length - 1 - k)
    (hx : x = if i % 2 = 0 then (encN one qs b k).1.1 else (encN one qs b k).1.2) (hs : s = b.getD i 0) (hN : N = stepOut (qAt one qs b i) x s) (hL : L = stepLow (qAt one qs b i) x s) (hY : Y = stepNext (qAt one qs b i) x s)
    (hP : WrVal w3 w0.heap.size p v' ((encN one qs b k).2 ++ lowBits L N) ∧ EncInv lg one A c qs tb me md (k + 1) f (fun g => g = p ∨ v'.ownBlock = some g ∨ g = p + 1) w0 w3 ∧
      w3.heap[p + 1]? = some (.cells #[.int .i64 (encN one qs b k).1.1, .int .i64 (encN one qs b k).1.2] 62 (0, 0)) ∧ (p + 1 ≠ p ∧ v'.ownBlock ≠ some (p + 1))) :
    WRel lg one A c qs b tb me md p (p + 1) w0 (k + 1) v' f (w3.setCell ⟨p + 1, n, none⟩ (.int .i64 Y)) := by
  obtain ⟨h1, h2, h3, h4⟩ := hP
  have hbits : (encN one qs b k).2 ++ lowBits L N = (encN one qs b (k + 1)).2 := by simp only [encN]; rw [← hi, ← hx, ← hs, ← hL, ← hN]
  rw [hbits] at h1
  have hrow := Kd.R_mono (Kd.R_far (p := ⟨p + 1, n, none⟩) (Kd.R_tight2 rfl h1.row) (fun g hg e => h4.2 (hg.1.symm.trans (congrArg some e))) (.int .i64 Y)) (fun g hg => hg.2)
  refine ⟨⟨blk_far h1.blk (p := ⟨p + 1, n, none⟩) (by show p ≠ p + 1; omega) _, hrow⟩, ?_, ?_, h4⟩
  · exact h2.out ((Only.refl _ _).setCell (p := ⟨p + 1, n, none⟩) (.inr (.inr rfl)) _) (fun g hg => ⟨.inl hg, by have := (h2.oge g hg).2; simpa [World.setCell] using this⟩)
  · rw [blk_set h3 n]
    simp only [encN]
    rw [← hi, ← hx, ← hs, ← hY]
    rcases Nat.mod_two_eq_zero_or_one i with e | e
    · rw [hn, e]; rfl
    · rw [hn, e]; rfl
set_option maxRecDepth 100000 in
set_option maxHeartbeats 1000000 in
theorem write_any (lg : Nat) (one : Bool) (A : Option Addr) (c : Nat) (qs : List (List Int)) (B : Option Addr) (cb : Nat) (b : List Int) (tb me md : Nat) (w0 w : World) (hrd : kq.C w0 A qs.length qs) (hb : (Kd.int .u8).C w0 B b.length b) (hby : Bytes b) (hbl : b.length ≤ 40000)
    (hf : fitsM lg one qs b = true) (h : EncInv lg one A c qs tb me md 0 (fun _ => none) (fun _ => False) w0 w) :
    Calls Try.prog 22 #[.slice B b.length cb, .int .i64 lg, .func (.func 24) #[.pointer (some ⟨tb, 0, none⟩)] #[]] w fun e w' => ∃ p v, e = .returned (.pointer (some ⟨p, 0, none⟩)) ∧ WrVal w' w0.heap.size p v (encBits lg one qs b) ∧ Below w0.heap.size w0 w' := by
  have hu62 := Try.underlying62
  have HRD := Lib.hid hrd
  have HBR := Lib.hid hb
  have HX := Lib.hid (And.intro hby hbl)
  have HF := Lib.hid hf
  have HH := Lib.hid h
  clear hrd hb hby hbl hf h
  go_enter Try.func22, Try.ntmps22
  go_wp2_with fail
  refine (bitwNew_any w).mono ?_
  rintro e w1 ⟨rfl, hw1⟩
  go_wp2_with fail
  have HR0 := Lib.hid (wrel_start (B := b) HH.out hw1)
  obtain ⟨p, hp⟩ : ∃ p, p = w.heap.size := ⟨_, rfl⟩
  obtain ⟨W, hW⟩ : ∃ W, W = (w.alloc (.cells #[.slice none 0 0, .int .i64 0] 95)).alloc (.cells #[.int .i64 0, .int .i64 0] 62) := ⟨_, rfl⟩
  rw [← hW] at HR0 ⊢
  rw [← hp] at HR0 ⊢
  clear hw1 hW hp
  have hb4 := HX.out.2
  go_loopw [9] (fun kv wr => ∃ (k : Nat) (v : Value) (f : Int → Option Value), kv = .int .i64 ((b.length : Int) - 1 - k) ∧ k ≤ b.length ∧ Hid (WRel lg one A c qs b tb me md p (p + 1) w0 k v f wr)) (fun kv _ => (intOf kv + 1).toNat)
  case atStart => exact ⟨0, .slice none 0 0, fun _ => none, by rw [w64 (n := (b.length : Int) - 1) (by omega)]; simp, by omega, HR0.out⟩
  case round =>
    obtain ⟨k, v, f, rfl, hk, H⟩ := hrel
    by_cases hlt : k < b.length
    · obtain ⟨i, hi⟩ : ∃ i, i = b.length - 1 - k := ⟨_, rfl⟩
      have hiI : (b.length : Int) - 1 - k = (i : Int) := by omega
      rw [hiI]
      have hC := Kd.C_below HBR.out H.out.enc.below
      have hil : i < b.length := by omega
      obtain ⟨ad, rfl, hcs⟩ := ints_get hC i hil
      have hadl : ad.block < w0.heap.size := Kd.C_lt HBR.out (by omega) (by decide)
      have hsr := HX.out.1.get i
      have hcr := ctx_range HX.out.1 i hil
      have hfit := fit_count HF.out HX.out.1 i hil
      have hrg := encN_range HF.out HX.out.1 k hk
      have hln := encN_len HF.out HX.out.1 k hk
      obtain ⟨ln, hln0⟩ : ∃ ln, ln = i % 2 := ⟨_, rfl⟩
      have hlnI : (i : Int) % 2 = (ln : Int) := by omega
      obtain ⟨x, hx⟩ : ∃ x, x = if i % 2 = 0 then (encN one qs b k).1.1 else (encN one qs b k).1.2 := ⟨_, rfl⟩
      have hxc : wr.cell? ⟨p + 1, ln, none⟩ = some (.int .i64 x) := by
        rw [blk_cell H.out.xs ln, hln0, hx]
        rcases Nat.mod_two_eq_zero_or_one i with e | e <;> rw [e] <;> rfl
      have hxr : 0 ≤ x ∧ x < 2 ^ (lg : Int).toNat := by rw [hx]; split; exact ⟨hrg.1, hrg.2.1⟩; exact ⟨hrg.2.2.1, hrg.2.2.2⟩
      obtain ⟨ci, hci⟩ : ∃ ci : Nat, ctxI b i = ci := ⟨(ctxI b i).toNat, by omega⟩
      obtain ⟨s, hs⟩ : ∃ s, s = b.getD i 0 := ⟨_, rfl⟩
      rw [← hs] at hcs hsr hfit
      have hlgI : (lg : Int).toNat = logC (qAt one qs b i) := by have := hfit.2.1; omega
      have HCtx : Hid (Calls Try.prog 49 #[.slice (some ad) b.length cb, .int .i64 i] wr.drew fun e w' => e = .returned (.int .i64 ci) ∧ wr.drew = w') := by
        show Calls _ _ _ _ _
        have := ctxAt_any (some ad) cb b i wr.drew (Kd.C_drew hC) hil (by omega) HX.out.1
        rw [hci] at this; exact this
      have hq0 : qs.getD (listI one (ci : Int)) [] = qAt one qs b i := by unfold qAt; rw [hci]
      have HEnc : Hid (Calls Try.prog 24 #[.pointer (some ⟨tb, 0, none⟩), .int .i64 ci] wr.drew (EncPost lg one A c qs tb me md k (fun g => g = p ∨ v.ownBlock = some g ∨ g = p + 1) (listI one ci) w0 wr.drew)) :=
        encode_any lg one A c qs tb me md k ci f _ w0 wr.drew HRD.out H.out.enc.drew (by omega) (by omega) (list_lt (fits_right HF.out) (by omega)) (by rw [hq0]; exact hfit.1)
      have HStep : Hid (∀ w1 t lo hi, EtabAt lo hi w1 t (qs.getD (listI one (ci : Int)) []) → Calls Try.prog 50 #[.pointer (some ⟨t, 0, none⟩), .int .i64 x, .int .u8 s] w1 (Ret (.tuple #[.int .i64 (stepNext (qAt one qs b i) x s), .int .i64 (stepOut (qAt one qs b i) x s), .int .u32 (stepLow (qAt one qs b i) x s), .bool true]) w1)) := fun w1 t lo hi ht => by
        rw [hq0] at ht
        exact estep_any lo hi t _ x s w1 ht hfit.1 hxr.1 (by rw [← hlgI]; exact hxr.2) hsr.1 hsr.2 hfit.2.2
      obtain ⟨Y, hY⟩ : ∃ Y, Y = stepNext (qAt one qs b i) x s := ⟨_, rfl⟩
      obtain ⟨N, hN⟩ : ∃ N, N = stepOut (qAt one qs b i) x s := ⟨_, rfl⟩
      obtain ⟨L, hL⟩ : ∃ L, L = stepLow (qAt one qs b i) x s := ⟨_, rfl⟩
      rw [← hY, ← hN, ← hL] at HStep
      have HY := Lib.hid (And.intro hY (And.intro hN (And.intro hL (And.intro hx (And.intro hs (And.intro hln0 (And.intro hi (And.intro hfit (And.intro hxr (And.intro hlgI hln))))))))))
      have HLT := Lib.hid hadl
      have hiL : (i : Int) < (b.length : Int) := by omega
      have hln2 : (ln : Int) < 2 := by omega
      have h0i : (0 : Int) ≤ (i : Int) := Int.natCast_nonneg i
      have h0l : (0 : Int) ≤ (ln : Int) := Int.natCast_nonneg ln
      have hii : 0 ≤ (i : Int) ∧ (i : Int) < (b.length : Int) := ⟨h0i, hiL⟩
      have hll : 0 ≤ (ln : Int) ∧ (ln : Int) < 2 := ⟨h0l, hln2⟩
      have hl2n : ln < 2 := by omega
      clear hi hC hcr hrg hln hx hci hs hfit hY hN hL hln0 hq0 hadl hlgI hxr hsr
      obtain rfl | rfl : ln = 0 ∨ ln = 1 := by omega
      · have hpar : (i : Int) % 2 = 0 := by simpa using hlnI
        have htm : (i : Int).tmod 2 = 0 := by rw [Int.tmod_eq_emod_of_nonneg (by omega)]; exact hpar
        clear hlnI hln2 h0l hll hl2n
        go_wp2_with fail
        go_region_held3 (fun w' => w'.cell? ⟨p + 1, 0, none⟩ = some (.int .i64 x) ∧ w'.cell? (ad.add i) = some (.int .u8 s)) ((repeat' apply And.intro) <;> first | assumption)
          (first
            | (go_at_call 49; refine HCtx.out.mono ?_; rintro e w' ⟨rfl, rfl⟩)
            | (go_at_call 24; refine HEnc.out.mono ?_; rintro e w1 ⟨f', t, lo, hi2, rfl, hE, hT, ho⟩; obtain ⟨c1, c2⟩ := wr_cells1 H.out HLT.out ho hxc hcs)
            | (go_at_call 50; refine (HStep.out _ _ _ _ hT).mono ?_; rintro e w2 ⟨rfl, hb2⟩; have c3 := pw_cell_below hb2 c1; have c4 := pw_cell_below hb2 c2))
        all_goals
          have HM := Lib.hid (wr_mid H.out hE ho hb2)
          clear hE hT ho hb2 c1 c2 c3 c4
          have hN17 : N ≤ 24 := by have := HY.out; exact wr_n this.2.1 this.2.2.2.2.2.2.2.1 this.2.2.2.2.2.2.2.2.1 this.2.2.2.2.2.2.2.2.2.1
          have hL32 : L < 4294967296 := wr_l HY.out.2.1 HY.out.2.2.1 hN17
          go_wp2_with fail
          refine (put_any w0.heap.size p v (encN one qs b k).2 L N w2 HM.out.wv HM.out.enc.below.size (by have := HY.out.2.2.2.2.2.2.2.2.2.2; omega) hL32 hN17).mono ?_
          rintro e w3 ⟨rfl, hp⟩
          obtain ⟨v', hP⟩ := hp
          have HP := Lib.hid (wr_put HM.out hP)
          clear hP
          have hx3 : w3.cell? ⟨p + 1, 0, none⟩ = some (.int .i64 (encN one qs b k).1.1) := (blk_cell HP.out.2.2.1 0).trans rfl
          have hf3 : w3.frozen? ⟨p + 1, 0, none⟩ = false := blk_frozen HP.out.2.2.1 0
          go_wp2_with fail
          go_roundw
          case rel =>
            refine ⟨k + 1, v', f', by go_num, by omega, ?_⟩
            exact wr_step HY.out.2.2.2.2.2.1 HY.out.2.2.2.2.2.2.1 HY.out.2.2.2.1 HY.out.2.2.2.2.1 HY.out.2.1 HY.out.2.2.1 HY.out.1 HP.out
          case measure => simp [intOf] <;> omega
      · have hpar : (i : Int) % 2 = 1 := by simpa using hlnI
        have htm : (i : Int).tmod 2 = 1 := by rw [Int.tmod_eq_emod_of_nonneg (by omega)]; exact hpar
        clear hlnI hln2 h0l hll hl2n
        go_wp2_with fail
        go_region_held3 (fun w' => w'.cell? ⟨p + 1, 1, none⟩ = some (.int .i64 x) ∧ w'.cell? (ad.add i) = some (.int .u8 s)) ((repeat' apply And.intro) <;> first | assumption)
          (first
            | (go_at_call 49; refine HCtx.out.mono ?_; rintro e w' ⟨rfl, rfl⟩)
            | (go_at_call 24; refine HEnc.out.mono ?_; rintro e w1 ⟨f', t, lo, hi2, rfl, hE, hT, ho⟩; obtain ⟨c1, c2⟩ := wr_cells1 H.out HLT.out ho hxc hcs)
            | (go_at_call 50; refine (HStep.out _ _ _ _ hT).mono ?_; rintro e w2 ⟨rfl, hb2⟩; have c3 := pw_cell_below hb2 c1; have c4 := pw_cell_below hb2 c2))
        all_goals
          have HM := Lib.hid (wr_mid H.out hE ho hb2)
          clear hE hT ho hb2 c1 c2 c3 c4
          have hN17 : N ≤ 24 := by have := HY.out; exact wr_n this.2.1 this.2.2.2.2.2.2.2.1 this.2.2.2.2.2.2.2.2.1 this.2.2.2.2.2.2.2.2.2.1
          have hL32 : L < 4294967296 := wr_l HY.out.2.1 HY.out.2.2.1 hN17
          go_wp2_with fail
          refine (put_any w0.heap.size p v (encN one qs b k).2 L N w2 HM.out.wv HM.out.enc.below.size (by have := HY.out.2.2.2.2.2.2.2.2.2.2; omega) hL32 hN17).mono ?_
          rintro e w3 ⟨rfl, hp⟩
          obtain ⟨v', hP⟩ := hp
          have HP := Lib.hid (wr_put HM.out hP)
          clear hP
          have hx3 : w3.cell? ⟨p + 1, 1, none⟩ = some (.int .i64 (encN one qs b k).1.2) := (blk_cell HP.out.2.2.1 1).trans rfl
          have hf3 : w3.frozen? ⟨p + 1, 1, none⟩ = false := blk_frozen HP.out.2.2.1 1
          go_wp2_with fail
          go_roundw
          case rel =>
            refine ⟨k + 1, v', f', by go_num, by omega, ?_⟩
            exact wr_step HY.out.2.2.2.2.2.1 HY.out.2.2.2.2.2.2.1 HY.out.2.2.2.1 HY.out.2.2.2.2.1 HY.out.2.1 HY.out.2.2.1 HY.out.1 HP.out
          case measure => simp [intOf] <;> omega
    · obtain rfl : k = b.length := by omega
      have hrg := encN_range HF.out HX.out.1 b.length (Nat.le_refl _)
      have hln := encN_len HF.out HX.out.1 b.length (Nat.le_refl _)
      have hlg := right_len (fits_right HF.out)
      have hc0 : wr.cell? ⟨p + 1, 0, none⟩ = some (.int .i64 (encN one qs b b.length).1.1) := (blk_cell H.out.xs 0).trans rfl
      have hc1 : wr.cell? ⟨p + 1, 1, none⟩ = some (.int .i64 (encN one qs b b.length).1.2) := (blk_cell H.out.xs 1).trans rfl
      obtain ⟨x0, hx0⟩ : ∃ x0 : Nat, (encN one qs b b.length).1.1 = x0 := ⟨(encN one qs b b.length).1.1.toNat, by omega⟩
      obtain ⟨x1, hx1⟩ : ∃ x1 : Nat, (encN one qs b b.length).1.2 = x1 := ⟨(encN one qs b b.length).1.2.toNat, by omega⟩
      have HXX := Lib.hid (And.intro hx0 (And.intro hx1 (And.intro hrg (And.intro hln hlg))))
      rw [hx0] at hc0
      rw [hx1] at hc1
      have hlt2 : (2 : Int) ^ (lg : Int).toNat ≤ 4096 := by
        have h12 : lg ≤ 12 := by have := hlg.2.1; omega
        exact (pow_le12 (r := lg) h12).2
      have hm0 : (x0 : Int) % 4294967296 = x0 := by have := hrg.2.1; rw [hx0] at this; omega
      have hm1 : (x1 : Int) % 4294967296 = x1 := by have := hrg.2.2.2; rw [hx1] at this; omega
      have h24 : lg ≤ 24 := by have := hlg.2.1; omega
      clear hrg hln hlg hx0 hx1 hlt2
      have hiE : (b.length : Int) - 1 - b.length = -1 := by omega
      rw [hiE]
      go_wp2_with fail
      refine (put_any w0.heap.size p v _ x1 lg wr H.out.wv H.out.enc.below.size (by have := HXX.out.2.2.2.1; omega) (by omega) h24).mono ?_
      rintro e w3 ⟨rfl, v3, hv3, ho3, hn3⟩
      have hb3 : Below w0.heap.size w0 w3 := H.out.enc.below.trans (hn3.below H.out.enc.below.size (fun g hg => (H.out.enc.oge g (hg.imp id .inl)).1))
      have hx3 : w3.heap[p + 1]? = wr.heap[p + 1]? := hn3.block (p + 1) (blk_lt H.out.xs) (fun e => by rcases e with e | e; omega; exact H.out.ne.2 e)
      have hc3 : w3.cell? ⟨p + 1, 0, none⟩ = some (.int .i64 x0) := (World.cell?_of_block (a := ⟨p + 1, 0, none⟩) hx3).trans hc0
      have H3 := Lib.hid (And.intro hv3 hb3)
      have HO3 := Lib.hid (And.intro ho3 hn3)
      clear hv3 ho3 hn3 hb3 hx3
      go_wp2_with fail
      refine (put_any w0.heap.size p v3 _ x0 lg w3 H3.out.1 H3.out.2.size (by rw [List.length_append, lowBits_len]; have := HXX.out.2.2.2.1; omega) (by omega) h24).mono ?_
      rintro e w4 ⟨rfl, v4, hv4, ho4, hn4⟩
      have H4 := Lib.hid (And.intro hv4 (And.intro ho4 hn4))
      clear hv4 ho4 hn4
      go_wp2_with fail
      go_ret
      refine ⟨p, v4, rfl, ?_, ?_⟩
      · have e : encBits lg one qs b = (encN one qs b b.length).2 ++ lowBits x1 lg ++ lowBits x0 lg := by
          have a1 := HXX.out.1
          have a2 := HXX.out.2.1
          simp only [encBits, a1, a2, Int.toNat_natCast]
        rw [e]; exact H4.out.1
      · refine H3.out.2.trans (H4.out.2.2.below H3.out.2.size (fun g hg => ?_))
        rcases hg with rfl | hg
        · exact (H.out.enc.oge g (.inl rfl)).1
        · exact ((Kd.R_bound H3.out.1.row).1 g hg).2.1
end Go.Proofs.Ytfnobinenolhhaa
namespace Go.Proofs.Ytfnobinenolhhaa
open Go.RowKit Go.IntWalk Go.Proofs.YtfnobinenolhhaaW.PrintWords
structure Opened (lg : Int) (one : Bool) (A : Option Addr) (n c : Nat) (tb me md : Nat) (w w' : World) : Prop where
  blk : w'.heap[tb]? = some (.cells #[.int .i64 lg, .bool one, .slice A n c, .map (some me), .map (some md)] 89 (0, 0))
  em : w'.heap[me]? = some (.map #[] 0)
  dm : w'.heap[md]? = some (.map #[] 0)
  ge : w.heap.size ≤ me ∧ w.heap.size ≤ md ∧ me ≠ md ∧ tb ≠ me ∧ tb ≠ md
  below : Below w.heap.size w w'
  tge : w.heap.size ≤ tb
theorem opened_mk (lg : Int) (one : Bool) (A : Option Addr) (n c : Nat) (w : World) : Opened lg one A n c (w.heap.size + 1 + 1 + 1) (w.heap.size + 1) (w.heap.size + 1 + 1) w
    ((((w.alloc (.cells #[.int .i64 lg, .bool one, .slice A n c] 24)).alloc (.map #[] 0)).alloc (.map #[] 0)).alloc (.cells #[.int .i64 lg, .bool one, .slice A n c, .map (some (w.heap.size + 1)), .map (some (w.heap.size + 1 + 1))] 89)) := by
  obtain ⟨w1, h1⟩ : ∃ w1, w1 = w.alloc (.cells #[.int .i64 lg, .bool one, .slice A n c] 24) := ⟨_, rfl⟩
  obtain ⟨w2, h2⟩ : ∃ w2, w2 = w1.alloc (.map #[] 0) := ⟨_, rfl⟩
  obtain ⟨w3, h3⟩ : ∃ w3, w3 = w2.alloc (.map #[] 0) := ⟨_, rfl⟩
  have e1 : w1.heap.size = w.heap.size + 1 := by rw [h1]; simp
  have e2 : w2.heap.size = w.heap.size + 1 + 1 := by rw [h2]; simp [e1]
  have e3 : w3.heap.size = w.heap.size + 1 + 1 + 1 := by rw [h3]; simp [e2]
  rw [← h1, ← h2, ← h3]
  have b1 : Below w.heap.size w w1 := by rw [h1]; exact (Below.refl _ _).alloc (Nat.le_refl _) _
  have b2 : Below w.heap.size w w2 := by rw [h2]; exact b1.alloc (by omega) _
  have b3 : Below w.heap.size w w3 := by rw [h3]; exact b2.alloc (by omega) _
  have m1 : w2.heap[w.heap.size + 1]? = some (.map #[] 0) := by rw [h2, ← e1]; exact blk_new w1 _
  have m2 : w3.heap[w.heap.size + 1 + 1]? = some (.map #[] 0) := by rw [h3, ← e2]; exact blk_new w2 _
  have m1' : w3.heap[w.heap.size + 1]? = some (.map #[] 0) := by rw [h3]; exact blk_alloc m1 _
  refine ⟨?_, blk_alloc m1' _, blk_alloc m2 _, by omega, b3.alloc (by omega) _, by omega⟩
  have := blk_new w3 (.cells #[.int .i64 lg, .bool one, .slice A n c, .map (some (w.heap.size + 1)), .map (some (w.heap.size + 1 + 1))] 89)
  rw [e3] at this; exact this
set_option maxRecDepth 100000 in
set_option maxHeartbeats 400000 in
theorem open_any (lg : Int) (one : Bool) (A : Option Addr) (n c : Nat) (w : World) :
    Calls Try.prog 23 #[.agg #[.int .i64 lg, .bool one, .slice A n c]] w fun e w' => ∃ tb me md, e = .returned (.pointer (some ⟨tb, 0, none⟩)) ∧ Opened lg one A n c tb me md w w' := by
  have hmm := @run_makeMap Try.prog
  go_enter Try.func23, Try.ntmps23
  go_wp2_with fail
  go_ret
  exact ⟨_, _, _, rfl, opened_mk lg one A n c w⟩
end Go.Proofs.Ytfnobinenolhhaa
namespace Go.Proofs.Ytfnobinenolhhaa
open Go.RowKit Go.IntWalk Go.Proofs.YtfnobinenolhhaaW.PrintWords
def decM (lg : Int) (one : Bool) (qs : List (List Int)) (ps : List Int) (n : Int) : Int × List Int :=
  if n < 0 ∨ 131072 < n ∨ rightM lg one qs = false then (1, []) else
  if ps.length = 0 ∨ lastB ps = 0 then (2, []) else
  if bitsIn ps < lg.toNat + lg.toNat then (3, []) else
  decGo one qs ps n.toNat 0 0 (takeV ps (bitsIn ps) lg.toNat) (takeV ps (bitsIn ps - lg.toNat) lg.toNat) (bitsIn ps - lg.toNat - lg.toNat) []
theorem bitsIn_le {ps : List Int} (hps : ∀ x ∈ ps, 0 ≤ x ∧ x < 256) (h : ¬ (ps.length = 0 ∨ lastB ps = 0)) : bitsIn ps ≤ 8 * ps.length := by
  have h1 : 0 ≤ lastB ps ∧ lastB ps < 256 := by
    unfold lastB; rw [List.getD_eq_getElem?_getD, List.getElem?_eq_getElem (by omega)]; exact hps _ (List.getElem_mem _)
  have := Lib.bitLen_le8' (lastB ps) h1.1 (by omega)
  unfold bitsIn; omega
theorem start_yes (base rp p : Nat) (ps : List Int) (left lg : Nat) (x0 x1 : Int) (w : World) (hx : LrAt rp p x0 x1 w) (h : RdAt w base p ps left) (hps : ∀ x ∈ ps, 0 ≤ x ∧ x < 256) (hl : left ≤ 8 * ps.length) (hl2 : ps.length ≤ 1000000) (hn : lg ≤ 24) (hne : rp ≠ p) (hle : lg + lg ≤ left) :
    Calls Try.prog 35 #[.pointer (some ⟨rp, 0, none⟩), .int .i64 lg] w fun e w' => e = .returned (.bool true) ∧ LrAt rp p (takeV ps left lg) (takeV ps (left - lg) lg) w' ∧ RdAt w' base p ps (left - lg - lg) ∧ Only (fun k => k = p ∨ k = rp) w w' :=
  (start_any base rp p ps left lg x0 x1 w hx h hps hl hl2 hn hne).mono fun e w' hp => by unfold StartPost at hp; rwa [if_pos hle] at hp
theorem start_no (base rp p : Nat) (ps : List Int) (left lg : Nat) (x0 x1 : Int) (w : World) (hx : LrAt rp p x0 x1 w) (h : RdAt w base p ps left) (hps : ∀ x ∈ ps, 0 ≤ x ∧ x < 256) (hl : left ≤ 8 * ps.length) (hl2 : ps.length ≤ 1000000) (hn : lg ≤ 24) (hne : rp ≠ p) (hle : ¬ lg + lg ≤ left) :
    Calls Try.prog 35 #[.pointer (some ⟨rp, 0, none⟩), .int .i64 lg] w fun e w' => e = .returned (.bool false) ∧ Only (fun k => k = p ∨ k = rp) w w' :=
  (start_any base rp p ps left lg x0 x1 w hx h hps hl hl2 hn hne).mono fun e w' hp => by unfold StartPost at hp; rwa [if_neg hle] at hp
theorem dec_start {lg : Int} {one : Bool} {A : Option Addr} {c : Nat} {qs : List (List Int)} {tb me md rp p left : Nat} {ps : List Int} {x0 x1 : Int} {w w2 W4 w5 w6 : World} (h2 : w.heap.size ≤ w2.heap.size) (hp : w2.heap.size ≤ p) (hpr : p < rp) (hr4 : rp < W4.heap.size) (hb4 : Below w.heap.size w W4)
    (hl5 : LrAt rp p x0 x1 w5) (hr5 : RdAt w5 w2.heap.size p ps left) (ho5 : Only (fun k => k = p ∨ k = rp) W4 w5) (hO : Opened lg one A qs.length c tb me md w5 w6) :
    RdRel lg one A c qs tb me md rp p ps w w6.heap.size 0 (fun _ => none) (.slice none 0 0) [] x0 x1 left w6 := by
  have s5 := ho5.size
  have s6 := hO.below.size
  have hge := hO.ge
  have htg := hO.tge
  have hb5 : Below w.heap.size w w5 := hb4.trans (ho5.below hb4.size (fun k hk => by rcases hk with e | e <;> omega))
  refine ⟨(hO.below.block rp (blk_lt hl5)).trans hl5, ?_, ⟨hO.blk, by rw [hO.dm]; exact mapB_made, blk_lt hO.dm, hb5.trans (hO.below.mono hb5.size), by have := hb5.size; omega, fun g hg => ?_, (fun i _ v hv => by cases hv), ?_⟩, Kd.R_nil _ _ _ _ _, Nat.le_refl _⟩
  · obtain ⟨gg, cc, a0, a1, a2⟩ := hr5.ex
    exact ⟨gg, cc, a0, blk_below a1 hO.below, Kd.R_lower (Kd.R_below a2 hO.below) h2⟩
  · rcases hg with rfl | rfl | hg
    · exact ⟨by omega, by omega⟩
    · exact ⟨by omega, by omega⟩
    · cases hg
  · refine ⟨fun hg => ?_, fun hg => ?_, hge.2.2.2.2⟩
    · rcases hg with e | e | hg
      · omega
      · omega
      · cases hg
    · rcases hg with e | e | hg
      · omega
      · omega
      · cases hg
set_option maxRecDepth 100000 in
set_option maxHeartbeats 1000000 in
theorem decodeL_any (lg : Int) (one : Bool) (A : Option Addr) (c : Nat) (qs : List (List Int)) (B : Option Addr) (cb : Nat) (ps : List Int) (n : Int) (w : World) (hr : kq.C w A qs.length qs) (hl : qs.length ≤ 1000000) (hb : (Kd.int .u8).C w B ps.length ps) (hby : Bytes ps) (hbl : ps.length ≤ 1000000) :
    Calls Try.prog 17 #[.agg #[.int .i64 lg, .bool one, .slice A qs.length c], .slice B ps.length cb, .int .i64 n] w (ReadPost (decM lg one qs ps n) w) := by
  obtain ⟨W1, hW1⟩ : ∃ W1, W1 = w.alloc (.cells #[.int .i64 lg, .bool one, .slice A qs.length c] 24) := ⟨_, rfl⟩
  have hb1 : Below w.heap.size w W1 := by rw [hW1]; exact (Below.refl w.heap.size w).alloc (Nat.le_refl _) _
  have hk1 : W1.heap[w.heap.size]? = some (.cells #[.int .i64 lg, .bool one, .slice A qs.length c] 24 (0, 0)) := by rw [hW1]; exact blk_new _ _
  have HB1 := Lib.hid hb1
  have HK1 := Lib.hid hk1
  have HR := Lib.hid hr
  have HBR := Lib.hid hb
  have HX := Lib.hid (And.intro hl (And.intro hby hbl))
  have HM1 := Lib.hid (And.intro ((blk_cell hk1 0).trans rfl : W1.cell? ⟨w.heap.size, 0, none⟩ = some (.int .i64 lg)) (And.intro ((blk_cell hk1 1).trans rfl : W1.cell? ⟨w.heap.size, 1, none⟩ = some (.bool one)) ((blk_cell hk1 2).trans rfl : W1.cell? ⟨w.heap.size, 2, none⟩ = some (.slice A qs.length c))))
  obtain ⟨R, hR⟩ : ∃ R, R = decM lg one qs ps n := ⟨_, rfl⟩
  rw [← hR]
  have HRR := Lib.hid hR
  have hm0 := HM1.out.1
  have hm1 := HM1.out.2.1
  have hm2 := HM1.out.2.2
  clear hb1 hk1 hr hb hl hby hbl hR
  by_cases h1 : n < 0
  · have HE : Hid (R = (1, [])) := by show _ = _; rw [HRR.out]; unfold decM; rw [if_pos (.inl h1)]
    have hd : decide (n < 0) = true := decide_eq_true h1
    clear h1
    go_enter Try.func17, Try.ntmps17
    go_wp2_with fail
    go_ret2
    rw [← hW1, HE.out]
    exact ⟨⟨_, rfl, Kd.R_nil _ _ _ _ _⟩, HB1.out⟩
  have hd : decide (n < 0) = false := decide_eq_false h1
  by_cases h2 : 131072 < n
  · have HE : Hid (R = (1, [])) := by show _ = _; rw [HRR.out]; unfold decM; rw [if_pos (.inr (.inl h2))]
    have hd2 : decide (131072 < n) = true := decide_eq_true h2
    clear h1 h2
    go_enter Try.func17, Try.ntmps17
    go_wp2_with fail
    go_ret2
    rw [← hW1, HE.out]
    exact ⟨⟨_, rfl, Kd.R_nil _ _ _ _ _⟩, HB1.out⟩
  have hd2 : decide (131072 < n) = false := decide_eq_false h2
  have HRight := Lib.hid (modelRight_any lg one A c qs W1 (Kd.C_below HR.out HB1.out) HX.out.1)
  by_cases h3 : rightM lg one qs = false
  · have HE : Hid (R = (1, [])) := by show _ = _; rw [HRR.out]; unfold decM; rw [if_pos (.inr (.inr h3))]
    rw [h3] at HRight
    clear h1 h2 h3
    go_enter Try.func17, Try.ntmps17
    go_wp2_with fail
    rw [← hW1]
    refine HRight.out.mono ?_
    rintro e w2 ⟨rfl, hb2⟩
    have HB2 : Hid (Below w.heap.size w w2) := HB1.out.trans (hb2.mono HB1.out.size)
    clear hb2 hW1
    go_wp2_with fail
    go_ret2
    rw [HE.out]
    exact ⟨⟨_, rfl, Kd.R_nil _ _ _ _ _⟩, HB2.out⟩
  have hrt : rightM lg one qs = true := by simpa using h3
  rw [hrt] at HRight
  obtain ⟨g, hg⟩ : ∃ g : Nat, lg = g := ⟨lg.toNat, by have := (right_len hrt).1; omega⟩
  subst hg
  obtain ⟨m, hm⟩ : ∃ m : Nat, n = m := ⟨n.toNat, by omega⟩
  subst hm
  have HRT := Lib.hid hrt
  have HNN : Hid (¬ ((m : Int) < 0 ∨ 131072 < (m : Int) ∨ rightM (g : Int) one qs = false)) := fun h => by
    rcases h with h | h | h
    · exact h1 h
    · exact h2 h
    · exact h3 h
  have HG : Hid (g ≤ 12 ∧ m ≤ 131072) := ⟨by have := (right_len hrt).2.1; omega, by omega⟩
  clear h1 h2 h3 hrt
  go_enter Try.func17, Try.ntmps17
  go_wp2_with fail
  rw [← hW1]
  refine HRight.out.mono ?_
  rintro e w2 ⟨rfl, hb2⟩
  have hk2 := blk_below HK1.out hb2
  have HB2 : Hid (Below w.heap.size w w2) := HB1.out.trans (hb2.mono HB1.out.size)
  have HK2 := Lib.hid hk2
  clear hb2 hW1 hm0 hm1 hm2 hk2 HRight
  go_wp2_with fail
  refine (rnew_any B cb ps w2 (Kd.C_below HBR.out HB2.out) HX.out.2.1 HX.out.2.2).mono ?_
  rintro e w3 ⟨hno, hyes, hb3⟩
  have HB3 : Hid (Below w.heap.size w w3) := HB2.out.trans (hb3.mono HB2.out.size)
  have HK3 := Lib.hid (blk_below HK2.out hb3)
  clear hb3
  by_cases h4 : ps.length = 0 ∨ lastB ps = 0
  · have HE : Hid (R = (2, [])) := by show _ = _; rw [HRR.out]; unfold decM; rw [if_neg HNN.out, if_pos h4]
    obtain rfl := hno h4
    clear hno hyes h4
    go_wp2_with fail
    go_ret2
    rw [HE.out]
    exact ⟨⟨_, rfl, Kd.R_nil _ _ _ _ _⟩, HB3.out⟩
  obtain ⟨p, rfl, hp, hrd⟩ := hyes h4
  have HH4 := Lib.hid h4
  have HRD := Lib.hid (And.intro hp hrd)
  have HBI := Lib.hid (bitsIn_le HX.out.2.1 h4)
  clear hno hyes h4 hp hrd
  obtain ⟨W4, hW4⟩ : ∃ W4, W4 = w3.alloc (.cells #[.pointer (some ⟨p, 0, none⟩), .int .i64 0, .int .i64 0] 64) := ⟨_, rfl⟩
  have hk4 : W4.heap[w.heap.size]? = some (.cells #[.int .i64 g, .bool one, .slice A qs.length c] 24 (0, 0)) := by rw [hW4]; exact blk_alloc HK3.out _
  have hm0 : W4.cell? ⟨w.heap.size, 0, none⟩ = some (.int .i64 g) := (blk_cell hk4 0).trans rfl
  obtain ⟨rp, hrp⟩ : ∃ rp, rp = w3.heap.size := ⟨_, rfl⟩
  have hlr : LrAt rp p 0 0 W4 := by rw [hrp, hW4]; exact blk_new _ _
  have hrd4 : RdAt W4 w2.heap.size p ps (bitsIn ps) := by
    obtain ⟨gg, cc, a0, a1, a2⟩ := HRD.out.2.ex
    rw [hW4]; exact ⟨gg, cc, a0, blk_alloc a1 _, Kd.R_alloc a2 _⟩
  have hb4 : Below w.heap.size w W4 := by rw [hW4]; exact HB3.out.alloc HB3.out.size _
  have hplt : p < rp := by rw [hrp]; obtain ⟨gg, cc, a0, a1, a2⟩ := HRD.out.2.ex; exact blk_lt a1
  have hrlt : rp < W4.heap.size := by rw [hrp, hW4]; simp
  have H4 := Lib.hid (And.intro hk4 (And.intro hlr (And.intro hrd4 (And.intro hb4 (And.intro hplt hrlt)))))
  clear hk4 hlr hrd4 hb4 hplt hrlt
  rw [hW4] at hm0
  go_wp2_with fail
  rw [← hW4] at hm0
  rw [← hW4, ← hrp]
  clear hW4 hrp
  by_cases h5 : g + g ≤ bitsIn ps
  · have HY := Lib.hid h5
    have HE : Hid (R = decGo one qs ps m 0 0 (takeV ps (bitsIn ps) g) (takeV ps (bitsIn ps - g) g) (bitsIn ps - g - g) []) := by
      show _ = _; rw [HRR.out]; unfold decM
      rw [if_neg HNN.out, if_neg HH4.out, if_neg (by simp only [Int.toNat_natCast]; omega)]
      simp only [Int.toNat_natCast]
    clear h5
    refine (start_yes w2.heap.size rp p ps (bitsIn ps) g 0 0 W4 H4.out.2.1 H4.out.2.2.1 HX.out.2.1 HBI.out HX.out.2.2 (by have := HG.out.1; omega) (by have := H4.out.2.2.2.2.1; omega) HY.out).mono ?_
    rintro e w5 ⟨rfl, hlr5, hrd5, ho5⟩
    have hk5 : w5.heap[w.heap.size]? = _ := (ho5.block w.heap.size (blk_lt H4.out.1) (fun e => by
      have := HB2.out.size; have := blk_lt HK2.out; have := HRD.out.1; have := H4.out.2.2.2.2.1
      rcases e with e | e <;> omega)).trans H4.out.1
    have hc0 : w5.cell? ⟨w.heap.size, 0, none⟩ = some (.int .i64 g) := (blk_cell hk5 0).trans rfl
    have hc1 : w5.cell? ⟨w.heap.size, 1, none⟩ = some (.bool one) := (blk_cell hk5 1).trans rfl
    have hc2 : w5.cell? ⟨w.heap.size, 2, none⟩ = some (.slice A qs.length c) := (blk_cell hk5 2).trans rfl
    have H5 := Lib.hid (And.intro hlr5 (And.intro hrd5 ho5))
    clear hlr5 hrd5 ho5 hk5
    go_wp2_with fail
    refine (open_any (g : Int) one A qs.length c w5).mono ?_
    rintro e w6 ⟨tb, me, md, rfl, hO⟩
    have HO := Lib.hid hO
    clear hO
    go_wp2_with fail
    refine (read_any (g : Int) one A c qs tb me md rp p ps (takeV ps (bitsIn ps) g) (takeV ps (bitsIn ps - g) g) (bitsIn ps - g - g) m w w6 HR.out HRT.out ?_ ?_ HX.out.2.1 ?_ HX.out.2.2 ?_ ?_ (by have := HG.out.2; omega)).mono ?_
    · have h1 := HB2.out.size
      have h2 := HRD.out.1
      have h3 := H4.out.2.2.2.2
      have h4 := H5.out.2.2.size
      have h5 := HO.out.below.size
      have h6 := HO.out.ge
      have h7 := blk_lt HO.out.dm
      exact ⟨by omega, h3.1, by omega, by omega, h7⟩
    · exact dec_start HB2.out.size HRD.out.1 H4.out.2.2.2.2.1 H4.out.2.2.2.2.2 H4.out.2.2.2.1 H5.out.1 H5.out.2.1 H5.out.2.2 HO.out
    · have := HBI.out; omega
    · have h1 := takeV_lt ps (bitsIn ps) g
      have e1 : (2 : Int) ^ (g : Int).toNat = ((2 ^ g : Nat) : Int) := by simp
      rw [e1]; omega
    · have h1 := takeV_lt ps (bitsIn ps - g) g
      have e1 : (2 : Int) ^ (g : Int).toNat = ((2 ^ g : Nat) : Int) := by simp
      rw [e1]; omega
    rintro e w7 ⟨⟨v, rfl, hv⟩, hb7⟩
    go_wp2_with fail
    go_ret2
    rw [HE.out]
    exact ⟨⟨_, rfl, hv⟩, hb7⟩
  · have HY := Lib.hid h5
    have HE : Hid (R = (3, [])) := by
      show _ = _; rw [HRR.out]; unfold decM
      rw [if_neg HNN.out, if_neg HH4.out, if_pos (by simp only [Int.toNat_natCast]; omega)]
    clear h5
    refine (start_no w2.heap.size rp p ps (bitsIn ps) g 0 0 W4 H4.out.2.1 H4.out.2.2.1 HX.out.2.1 HBI.out HX.out.2.2 (by have := HG.out.1; omega) (by have := H4.out.2.2.2.2.1; omega) HY.out).mono ?_
    rintro e w5 ⟨rfl, ho5⟩
    have HB5 : Hid (Below w.heap.size w w5) := H4.out.2.2.2.1.trans (ho5.below H4.out.2.2.2.1.size (fun k hk => by
      have := HB2.out.size; have := HRD.out.1; have := H4.out.2.2.2.2.1
      rcases hk with e | e <;> omega))
    clear ho5
    go_wp2_with fail
    go_ret2
    rw [HE.out]
    exact ⟨⟨_, rfl, Kd.R_nil _ _ _ _ _⟩, HB5.out⟩
end Go.Proofs.Ytfnobinenolhhaa
namespace Go.Proofs.Ytfnobinenolhhaa
open Go.RowKit Go.IntWalk Go.Proofs.YtfnobinenolhhaaW.PrintWords
def canM (lg : Int) (one : Bool) (qs : List (List Int)) (b : List Int) : Bool := decide (b.length ≤ 131072) && fitsM lg one qs b
set_option maxRecDepth 100000 in
set_option maxHeartbeats 400000 in
theorem can_any (lg : Int) (one : Bool) (A : Option Addr) (c : Nat) (qs : List (List Int)) (B : Option Addr) (cb : Nat) (b : List Int) (w : World) (hr : kq.C w A qs.length qs) (hl : qs.length ≤ 1000000) (hb : (Kd.int .u8).C w B b.length b) (hby : Bytes b) :
    Calls Try.prog 21 #[.agg #[.int .i64 lg, .bool one, .slice A qs.length c], .slice B b.length cb] w (Ret (.bool (canM lg one qs b)) w) := by
  have HB1 := Lib.hid ((Below.refl w.heap.size w).alloc (Nat.le_refl _) (.cells #[.int .i64 lg, .bool one, .slice A qs.length c] 24))
  have HR := Lib.hid hr
  have HBR := Lib.hid hb
  have HX := Lib.hid (And.intro hl hby)
  clear hr hb hl hby
  by_cases h : b.length ≤ 131072
  · have hd : decide ((b.length : Int) ≤ 131072) = true := decide_eq_true (by omega)
    have HE : Hid (canM lg one qs b = fitsM lg one qs b) := by show _ = _; unfold canM; rw [decide_eq_true h]; rfl
    rw [HE.out]
    obtain ⟨z, hz⟩ : ∃ z, z = fitsM lg one qs b := ⟨_, rfl⟩
    rw [← hz]
    have HZ := Lib.hid hz
    have HL := Lib.hid h
    clear hz h
    go_enter Try.func21, Try.ntmps21
    go_wp2_with fail
    refine (fits_any lg one A c qs B cb b _ (Kd.C_below HR.out HB1.out) HX.out.1 (Kd.C_below HBR.out HB1.out) HX.out.2 (by have := HL.out; omega)).mono ?_
    rw [← HZ.out]
    rintro e w' ⟨rfl, hb⟩
    have HB2 := Lib.hid (HB1.out.trans (hb.mono HB1.out.size))
    clear hb
    go_wp2_with fail
    go_ret
    exact ⟨rfl, HB2.out⟩
  · have hd : decide ((b.length : Int) ≤ 131072) = false := decide_eq_false (by omega)
    have HE : Hid (canM lg one qs b = false) := by show _ = _; unfold canM; rw [decide_eq_false h]; rfl
    rw [HE.out]
    clear h
    go_enter Try.func21, Try.ntmps21
    go_wp2_with fail
    go_ret
    exact ⟨rfl, HB1.out⟩
end Go.Proofs.Ytfnobinenolhhaa
namespace Go.Proofs.Ytfnobinenolhhaa
open Go.RowKit Go.IntWalk Go.Proofs.YtfnobinenolhhaaW.PrintWords
theorem open_inv {lg : Int} {one : Bool} {A : Option Addr} {c : Nat} {qs : List (List Int)} {tb me md : Nat} {w0 w w' : World} (h : Opened lg one A qs.length c tb me md w w') (hb : Below w0.heap.size w0 w) : EncInv lg one A c qs tb me md 0 (fun _ => none) (fun _ => False) w0 w' := by
  have hs := hb.size
  exact ⟨h.blk, by rw [h.em]; exact mapB_made, blk_lt h.em, hb.trans (h.below.mono hs), by have := h.ge.1; omega, fun _ hf => hf.elim, (fun i _ v hv => by cases hv), ⟨fun hf => hf, fun hf => hf,  h.ge.2.2.2.1⟩⟩
theorem encBits_len {lg : Int} {one : Bool} {qs : List (List Int)} {b : List Int} (h : fitsM lg one qs b = true) (hb : Bytes b) : (encBits lg one qs b).length ≤ 17 * b.length + 24 := by
  have h1 := encN_len h hb b.length (Nat.le_refl _)
  have h2 := right_len (fits_right h)
  simp only [encBits, List.length_append, lowBits_len]; omega
def EncodePost (lg : Int) (one : Bool) (qs : List (List Int)) (b : List Int) (w : World) (e : Ending) (w' : World) : Prop :=
  (canM lg one qs b = false → e = .returned (.tuple #[.slice none 0 0, .int .i64 1])) ∧
  (canM lg one qs b = true → ∃ v, e = .returned (.tuple #[v, .int .i64 0]) ∧ (Kd.int .u8).R 5 w' w.heap.size (fun _ => True) v (packB (encBits lg one qs b ++ [true]))) ∧ Below w.heap.size w w'
theorem can_log {lg : Int} {one : Bool} {qs : List (List Int)} {b : List Int} (h : canM lg one qs b = true) : fitsM lg one qs b = true ∧ ∃ g : Nat, lg = g ∧ g ≤ 12 := by
  unfold canM at h; simp only [Bool.and_eq_true] at h
  have hr := right_len (fits_right h.2)
  exact ⟨h.2, lg.toNat, by omega, by omega⟩
theorem mcells {w w' : World} {mb : Nat} {lg : Int} {one : Bool} {V : Value} (hb : Below w.heap.size w w') (hlt : mb < w.heap.size) (h0 : w.cell? ⟨mb, 0, none⟩ = some (.int .i64 lg)) (h1 : w.cell? ⟨mb, 1, none⟩ = some (.bool one)) (h2 : w.cell? ⟨mb, 2, none⟩ = some V) :
    w'.cell? ⟨mb, 0, none⟩ = some (.int .i64 lg) ∧ w'.cell? ⟨mb, 1, none⟩ = some (.bool one) ∧ w'.cell? ⟨mb, 2, none⟩ = some V :=
  ⟨(hb.cell (p := ⟨mb, 0, none⟩) hlt).trans h0, (hb.cell (p := ⟨mb, 1, none⟩) hlt).trans h1, (hb.cell (p := ⟨mb, 2, none⟩) hlt).trans h2⟩
theorem opened_below {lg : Int} {one : Bool} {A : Option Addr} {n c : Nat} {tb me md : Nat} {w w' : World} (h : Opened lg one A n c tb me md w.drew w') : Below w.heap.size w w' :=
  ⟨h.below.os, h.below.tape, h.below.output, h.below.size, h.below.block⟩
theorem enc_opened {lg : Int} {one : Bool} {A : Option Addr} {c : Nat} {qs : List (List Int)} {tb me md : Nat} {w0 w w' : World} (h : Opened lg one A qs.length c tb me md w.drew w') (hb : Below w0.heap.size w0 w) : EncInv lg one A c qs tb me md 0 (fun _ => none) (fun _ => False) w0 w' := open_inv h hb.drew
set_option maxRecDepth 100000 in
set_option maxHeartbeats 1000000 in
theorem encodeL_any (lg : Int) (one : Bool) (A : Option Addr) (c : Nat) (qs : List (List Int)) (B : Option Addr) (cb : Nat) (b : List Int) (w : World) (hr : kq.C w A qs.length qs) (hl : qs.length ≤ 1000000) (hb : (Kd.int .u8).C w B b.length b) (hby : Bytes b) (hbl : b.length ≤ 40000) :
    Calls Try.prog 12 #[.agg #[.int .i64 lg, .bool one, .slice A qs.length c], .slice B b.length cb] w (EncodePost lg one qs b w) := by
  obtain ⟨W1, hW1⟩ : ∃ W1, W1 = w.alloc (.cells #[.int .i64 lg, .bool one, .slice A qs.length c] 24) := ⟨_, rfl⟩
  have hb1 : Below w.heap.size w W1 := by rw [hW1]; exact (Below.refl w.heap.size w).alloc (Nat.le_refl _) _
  have hk1 : W1.heap[w.heap.size]? = some (.cells #[.int .i64 lg, .bool one, .slice A qs.length c] 24 (0, 0)) := by rw [hW1]; exact blk_new _ _
  have HB1 := Lib.hid hb1
  have HK1 := Lib.hid hk1
  have HR := Lib.hid hr
  have HBR := Lib.hid hb
  have HX := Lib.hid (And.intro hl (And.intro hby hbl))
  clear hb1 hk1 hr hb hl hby hbl
  go_enter Try.func12, Try.ntmps12
  go_wp2_with fail
  rw [← hW1]
  clear hW1
  refine (can_any lg one A c qs B cb b W1 (Kd.C_below HR.out HB1.out) HX.out.1 (Kd.C_below HBR.out HB1.out) HX.out.2.1).mono ?_
  rintro e w2 ⟨rfl, hb2⟩
  have hk2 := blk_below HK1.out hb2
  have hm0 : w2.cell? ⟨w.heap.size, 0, none⟩ = some (.int .i64 lg) := (blk_cell hk2 0).trans rfl
  have hm1 : w2.cell? ⟨w.heap.size, 1, none⟩ = some (.bool one) := (blk_cell hk2 1).trans rfl
  have hm2 : w2.cell? ⟨w.heap.size, 2, none⟩ = some (.slice A qs.length c) := (blk_cell hk2 2).trans rfl
  have HB2 : Hid (Below w.heap.size w w2) := HB1.out.trans (hb2.mono HB1.out.size)
  have hlt2 : w.heap.size < w2.heap.size := blk_lt hk2
  have HK2 := Lib.hid hk2
  clear hb2 hk2
  obtain ⟨z, hz⟩ : ∃ z, z = canM lg one qs b := ⟨_, rfl⟩
  rw [← hz]
  have HZ := Lib.hid hz
  clear hz
  cases z with
  | false =>
    go_wp2_with fail
    go_ret2
    exact ⟨fun _ => rfl, (fun h => by rw [← HZ.out] at h; cases h), HB2.out⟩
  | true =>
    obtain ⟨hfit, g, hg, hg12⟩ := can_log HZ.out.symm
    subst hg
    have HF := Lib.hid hfit
    have HG := Lib.hid hg12
    have HLT := Lib.hid hlt2
    clear hfit hg12 hlt2
    go_wp2_with fail
    go_region_held3 (fun w' => w'.cell? ⟨w.heap.size, 0, none⟩ = some (.int .i64 (g : Int)) ∧ w'.cell? ⟨w.heap.size, 1, none⟩ = some (.bool one) ∧ w'.cell? ⟨w.heap.size, 2, none⟩ = some (.slice A qs.length c)) ((repeat' apply And.intro) <;> first | assumption)
      (first
        | (go_at_call 23; refine (open_any (g : Int) one A qs.length c _).mono ?_; rintro e w3 ⟨tb, me, md, rfl, hO⟩; obtain ⟨c0, c1, c2⟩ := mcells (opened_below hO) HLT.out hm0 hm1 hm2; have HO := Lib.hid hO; clear hO)
        | (go_at_call 22; refine (write_any g one A c qs B cb b _ _ _ w2 _ (Kd.C_below HR.out HB2.out) (Kd.C_below HBR.out HB2.out) HX.out.2.1 HX.out.2.2 HF.out (by exact enc_opened HO.out (Below.refl _ _))).mono ?_; rintro e w4 ⟨p, v, rfl, hv, hbw⟩; obtain ⟨d0, d1, d2⟩ : w4.cell? ⟨w.heap.size, 0, none⟩ = some (.int .i64 (g : Int)) ∧ w4.cell? ⟨w.heap.size, 1, none⟩ = some (.bool one) ∧ w4.cell? ⟨w.heap.size, 2, none⟩ = some (.slice A qs.length c) := mcells hbw HLT.out hm0 hm1 hm2; have HV := Lib.hid (And.intro hv hbw); clear hv hbw)
        | (go_at_call 25; refine (close_any w2.heap.size _ _ _ _ HV.out.1 (by have := encBits_len HF.out HX.out.2.1; have := HX.out.2.2; omega)).mono ?_; rintro e w5 ⟨vc, rfl, hvc, hbc⟩; obtain ⟨f0, f1, f2⟩ := mcells hbc (Nat.lt_of_lt_of_le HLT.out HV.out.2.size) d0 d1 d2; have HC := Lib.hid (And.intro hvc hbc); clear hvc hbc))
    all_goals
      go_wp2_with fail
      go_ret2
      exact ⟨(fun h => by rw [← HZ.out] at h; cases h), fun _ => ⟨_, rfl, Kd.R_mono (Kd.R_lower HC.out.1 (Nat.le_trans HB2.out.size HV.out.2.size)) (fun _ _ => trivial)⟩, (HB2.out.trans (HV.out.2.mono HB2.out.size)).trans (HC.out.2.mono (Nat.le_trans HB2.out.size HV.out.2.size))⟩
def bitsM (lg : Int) (one : Bool) (qs : List (List Int)) (b : List Int) : Nat := if canM lg one qs b = true then (encBits lg one qs b).length else 0
set_option maxRecDepth 100000 in
set_option maxHeartbeats 1000000 in
theorem bitsL_any (lg : Int) (one : Bool) (A : Option Addr) (c : Nat) (qs : List (List Int)) (B : Option Addr) (cb : Nat) (b : List Int) (w : World) (hr : kq.C w A qs.length qs) (hl : qs.length ≤ 1000000) (hb : (Kd.int .u8).C w B b.length b) (hby : Bytes b) (hbl : b.length ≤ 40000) :
    Calls Try.prog 16 #[.agg #[.int .i64 lg, .bool one, .slice A qs.length c], .slice B b.length cb] w (Ret (.int .i64 (bitsM lg one qs b)) w) := by
  obtain ⟨W1, hW1⟩ : ∃ W1, W1 = w.alloc (.cells #[.int .i64 lg, .bool one, .slice A qs.length c] 24) := ⟨_, rfl⟩
  have hb1 : Below w.heap.size w W1 := by rw [hW1]; exact (Below.refl w.heap.size w).alloc (Nat.le_refl _) _
  have hk1 : W1.heap[w.heap.size]? = some (.cells #[.int .i64 lg, .bool one, .slice A qs.length c] 24 (0, 0)) := by rw [hW1]; exact blk_new _ _
  have HB1 := Lib.hid hb1
  have HK1 := Lib.hid hk1
  have HR := Lib.hid hr
  have HBR := Lib.hid hb
  have HX := Lib.hid (And.intro hl (And.intro hby hbl))
  clear hb1 hk1 hr hb hl hby hbl
  go_enter Try.func16, Try.ntmps16
  go_wp2_with fail
  rw [← hW1]
  clear hW1
  refine (can_any lg one A c qs B cb b W1 (Kd.C_below HR.out HB1.out) HX.out.1 (Kd.C_below HBR.out HB1.out) HX.out.2.1).mono ?_
  rintro e w2 ⟨rfl, hb2⟩
  have hk2 := blk_below HK1.out hb2
  have hm0 : w2.cell? ⟨w.heap.size, 0, none⟩ = some (.int .i64 lg) := (blk_cell hk2 0).trans rfl
  have hm1 : w2.cell? ⟨w.heap.size, 1, none⟩ = some (.bool one) := (blk_cell hk2 1).trans rfl
  have hm2 : w2.cell? ⟨w.heap.size, 2, none⟩ = some (.slice A qs.length c) := (blk_cell hk2 2).trans rfl
  have HB2 : Hid (Below w.heap.size w w2) := HB1.out.trans (hb2.mono HB1.out.size)
  have hlt2 : w.heap.size < w2.heap.size := blk_lt hk2
  have HK2 := Lib.hid hk2
  clear hb2 hk2
  obtain ⟨z, hz⟩ : ∃ z, z = canM lg one qs b := ⟨_, rfl⟩
  rw [← hz]
  have HZ := Lib.hid hz
  clear hz
  cases z with
  | false =>
    go_wp2_with fail
    go_ret
    exact ⟨ret_int (by unfold bitsM; rw [if_neg (by rw [← HZ.out]; decide)]; rfl), HB2.out⟩
  | true =>
    obtain ⟨hfit, g, hg, hg12⟩ := can_log HZ.out.symm
    subst hg
    have HE : Hid ((bitsM (g : Int) one qs b : Int) = ((encBits (g : Int) one qs b).length : Int)) := by show _ = _; unfold bitsM; rw [if_pos HZ.out.symm]
    have HF := Lib.hid hfit
    have HG := Lib.hid hg12
    have HLT := Lib.hid hlt2
    clear hfit hg12 hlt2
    go_wp2_with fail
    go_region_held3 (fun w' => w'.cell? ⟨w.heap.size, 0, none⟩ = some (.int .i64 (g : Int)) ∧ w'.cell? ⟨w.heap.size, 1, none⟩ = some (.bool one) ∧ w'.cell? ⟨w.heap.size, 2, none⟩ = some (.slice A qs.length c)) ((repeat' apply And.intro) <;> first | assumption)
      (first
        | (go_at_call 23; refine (open_any (g : Int) one A qs.length c _).mono ?_; rintro e w3 ⟨tb, me, md, rfl, hO⟩; obtain ⟨c0, c1, c2⟩ := mcells (opened_below hO) HLT.out hm0 hm1 hm2; have HO := Lib.hid hO; clear hO)
        | (go_at_call 22; refine (write_any g one A c qs B cb b _ _ _ w2 _ (Kd.C_below HR.out HB2.out) (Kd.C_below HBR.out HB2.out) HX.out.2.1 HX.out.2.2 HF.out (by exact enc_opened HO.out (Below.refl _ _))).mono ?_; rintro e w4 ⟨p, v, rfl, hv, hbw⟩; obtain ⟨d0, d1, d2⟩ : w4.cell? ⟨w.heap.size, 0, none⟩ = some (.int .i64 (g : Int)) ∧ w4.cell? ⟨w.heap.size, 1, none⟩ = some (.bool one) ∧ w4.cell? ⟨w.heap.size, 2, none⟩ = some (.slice A qs.length c) := mcells hbw HLT.out hm0 hm1 hm2; have HV := Lib.hid (And.intro hv hbw); clear hv hbw)
        | (go_at_call 32; refine (bitwBits_any w2.heap.size _ _ _ _ HV.out.1).mono ?_; rintro e w5 ⟨rfl, rfl⟩))
    all_goals
      go_wp2_with fail
      go_ret
      exact ⟨ret_int HE.out.symm, HB2.out.trans (HV.out.2.mono HB2.out.size)⟩
end Go.Proofs.Ytfnobinenolhhaa
namespace Go.Proofs.Ytfnobinenolhhaa
open Go.RowKit
theorem posN_mono (l : List Int) (s : Int) : ∀ m n, m ≤ n → ∃ r, posN l s n = posN l s m ++ r := by
  intro m n hmn
  induction hmn with
  | refl => exact ⟨[], by simp⟩
  | step _ ih =>
    rename_i n _
    obtain ⟨r, hr⟩ := ih
    by_cases e : l.getD n (-1) = s
    · exact ⟨r ++ [(n : Int)], by rw [posN_hit e, hr, List.append_assoc]⟩
    · exact ⟨r, by rw [posN_miss e, hr]⟩
/-- the place of a symbol's k-th key -/
theorem place_of {l : List Int} {s : Int} {P : Nat} (hP : P < l.length) (h : l.getD P (-1) = s) : (posN l s l.length).getD (posN l s P).length 0 = P := by
  obtain ⟨r, hr⟩ := posN_mono l s (P + 1) l.length hP
  rw [hr, posN_hit h, List.getD_eq_getElem?_getD, List.append_assoc, List.getElem?_append_right (Nat.le_refl _)]
  simp
theorem place_at {l : List Int} {s : Int} {k : Nat} (hk : k < (posN l s l.length).length) : ∃ P : Nat, (posN l s l.length).getD k 0 = P ∧ P < l.length ∧ l.getD P (-1) = s ∧ (posN l s P).length = k := by
  have key : ∀ m, m ≤ l.length → k < (posN l s m).length → ∃ P : Nat, (posN l s m).getD k 0 = P ∧ P < m ∧ l.getD P (-1) = s ∧ (posN l s P).length = k := by
    intro m
    induction m with
    | zero => intro _ h; simp [posN] at h
    | succ m ih =>
      intro hm h
      by_cases e : l.getD m (-1) = s
      · by_cases hk2 : k < (posN l s m).length
        · obtain ⟨P, h1, h2, h3, h4⟩ := ih (by omega) hk2
          refine ⟨P, ?_, by omega, h3, h4⟩
          rw [posN_hit e, List.getD_eq_getElem?_getD, List.getElem?_append_left hk2, ← List.getD_eq_getElem?_getD]; exact h1
        · rw [posN_hit e] at h
          simp at h
          have hke : k = (posN l s m).length := by omega
          refine ⟨m, ?_, by omega, e, hke.symm⟩
          rw [posN_hit e, hke, List.getD_eq_getElem?_getD, List.getElem?_append_right (Nat.le_refl _)]
          simp
      · rw [posN_miss e] at h
        obtain ⟨P, h1, h2, h3, h4⟩ := ih (by omega) h
        exact ⟨P, by rw [posN_miss e]; exact h1, by omega, h3, h4⟩
  exact key l.length (Nat.le_refl _) hk
theorem syms_getD {q : List Int} (h : logC q ≠ 0) {P : Nat} (hP : P < 2 ^ logC q) : (symsL q).getD P 0 = (symsL q).getD P (-1) ∧ 0 ≤ (symsL q).getD P 0 ∧ (symsL q).getD P 0 < 256 := by
  have := sym_at (good_of_log h) P (by rw [syms_length h]; exact hP)
  exact ⟨this.2.2.symm, this.1, this.2.1⟩
end Go.Proofs.Ytfnobinenolhhaa
namespace Go.Proofs.Ytfnobinenolhhaa
open Go.RowKit
/-- the first bits of bytes -/
structure BitsP (ps : List Int) (left : Nat) (bs : List Bool) : Prop where
  len : bs.length = left
  at_ : ∀ i, i < left → bitI ps i = (bs.getD i false).toNat
theorem lowBits_get (v n i : Nat) (h : i < n) : (lowBits v n).getD i false = decide (v / 2 ^ i % 2 = 1) := by
  unfold lowBits
  rw [List.getD_eq_getElem?_getD, List.getElem?_map, List.getElem?_range h]; rfl
theorem bit_toNat (v i : Nat) : (decide (v / 2 ^ i % 2 = 1)).toNat = v / 2 ^ i % 2 := by
  rcases Nat.mod_two_eq_zero_or_one (v / 2 ^ i) with e | e <;> rw [e] <;> rfl
theorem bits_drop {ps : List Int} {left n : Nat} {bs : List Bool} {v : Nat} (h : BitsP ps left (bs ++ lowBits v n)) : BitsP ps (left - n) bs := by
  have hl := h.len
  rw [List.length_append, lowBits_len] at hl
  refine ⟨by omega, fun i hi => ?_⟩
  rw [h.at_ i (by omega), List.getD_eq_getElem?_getD, List.getElem?_append_left (by omega), ← List.getD_eq_getElem?_getD]
theorem take_val {ps : List Int} {left n : Nat} {bs : List Bool} {v : Nat} (h : BitsP ps left (bs ++ lowBits v n)) (hv : v < 2 ^ n) : ∀ j, j ≤ n → takeV ps left j = v / 2 ^ (n - j) := by
  have hl := h.len
  rw [List.length_append, lowBits_len] at hl
  intro j
  induction j with
  | zero => intro _; simp only [takeV, Nat.sub_zero]; rw [Nat.div_eq_of_lt hv]
  | succ j ih =>
    intro hj
    simp only [takeV]
    rw [ih (by omega), h.at_ (left - (j + 1)) (by omega), List.getD_eq_getElem?_getD, List.getElem?_append_right (by omega), ← List.getD_eq_getElem?_getD, lowBits_get _ _ _ (by omega), bit_toNat,
      show left - (j + 1) - bs.length = n - (j + 1) by omega, show n - j = n - (j + 1) + 1 by omega, Nat.pow_succ, ← Nat.div_div_eq_div_mul]
    omega
theorem take_bits {ps : List Int} {left n : Nat} {bs : List Bool} {v : Nat} (h : BitsP ps left (bs ++ lowBits v n)) (hv : v < 2 ^ n) : takeV ps left n = v ∧ n ≤ left := by
  have hl := h.len
  rw [List.length_append, lowBits_len] at hl
  have := take_val h hv n (Nat.le_refl _)
  rw [Nat.sub_self, Nat.pow_zero, Nat.div_one] at this
  exact ⟨this, by omega⟩
theorem lowBits_cons (u n : Nat) : lowBits u (n + 1) = decide (u % 2 = 1) :: lowBits (u / 2) n := by
  unfold lowBits
  rw [List.range_succ_eq_map, List.map_cons, List.map_map]
  congr 1
  · simp
  · apply List.map_congr_left
    intro i _
    simp only [Function.comp, Nat.succ_eq_add_one]
    rw [Nat.pow_succ, Nat.mul_comm, ← Nat.div_div_eq_div_mul]
theorem lowBits_byteL : ∀ l : List Bool, lowBits (byteL l) l.length = l
  | [] => rfl
  | b :: l => by
    rw [List.length_cons, lowBits_cons, byteL]
    have h1 : (b.toNat + 2 * byteL l) % 2 = b.toNat := by have : b.toNat ≤ 1 := by cases b <;> decide
                                                          omega
    have h2 : (b.toNat + 2 * byteL l) / 2 = byteL l := by have : b.toNat ≤ 1 := by cases b <;> decide
                                                          omega
    rw [h1, h2, lowBits_byteL l]
    congr 1
    cases b <;> rfl
theorem bits_split {ps : List Int} {left n : Nat} {bs : List Bool} (h : BitsP ps left bs) (hn : n ≤ left) : bs = bs.take (left - n) ++ lowBits (takeV ps left n) n ∧ BitsP ps (left - n) (bs.take (left - n)) := by
  have hl := h.len
  have hd : (bs.drop (left - n)).length = n := by rw [List.length_drop]; omega
  have e : bs = bs.take (left - n) ++ lowBits (byteL (bs.drop (left - n))) n := by
    have := lowBits_byteL (bs.drop (left - n))
    rw [hd] at this
    rw [this, List.take_append_drop]
  have h2 := h
  rw [e] at h2
  have hv := byteL_lt (bs.drop (left - n))
  rw [hd] at hv
  have ht := take_bits h2 hv
  rw [ht.1]
  exact ⟨e, bits_drop h2⟩
end Go.Proofs.Ytfnobinenolhhaa
namespace Go.Proofs.Ytfnobinenolhhaa
open Go.RowKit
theorem bitLen_of {x m : Nat} (h1 : 2 ^ m ≤ x) (h2 : x < 2 ^ (m + 1)) (hx : x < 2 ^ 64) : Lib.bitLen x = m + 1 := by
  have h0 : 0 < x := Nat.lt_of_lt_of_le (Nat.two_pow_pos _) h1
  obtain ⟨a, b, c⟩ := bitLen_pow x h0 hx
  have d : ¬ Lib.bitLen x ≤ m := fun e => by have := Nat.pow_le_pow_right (n := 2) (by omega) e; omega
  have f : ¬ m + 1 ≤ Lib.bitLen x - 1 := fun e => by have := Nat.pow_le_pow_right (n := 2) (by omega) e; omega
  omega
theorem byteL_low (y k : Nat) : byteL (lowBits y k) = y % 2 ^ k := by
  induction k with
  | zero => simp [lowBits, byteL, Nat.mod_one]
  | succ k ih =>
    rw [lowBits_succ, byteL_snoc, ih, lowBits_len, bit_toNat, Nat.mod_pow_succ, Nat.mul_comm]
/-- bytes that were closed, as bits -/
def bitsL (ps : List Int) : List Bool := (List.range (bitsIn ps)).map (fun i => decide (bitI ps i = 1))
theorem bitsL_ok (ps : List Int) : BitsP ps (bitsIn ps) (bitsL ps) := by
  refine ⟨by simp [bitsL], fun i hi => ?_⟩
  unfold bitsL
  rw [List.getD_eq_getElem?_getD, List.getElem?_map, List.getElem?_range hi]
  have := bitI_le ps i
  show bitI ps i = (decide (bitI ps i = 1)).toNat
  rcases (by omega : bitI ps i = 0 ∨ bitI ps i = 1) with e | e <;> rw [e] <;> rfl
end Go.Proofs.Ytfnobinenolhhaa
namespace Go.Proofs.Ytfnobinenolhhaa
open Go.RowKit
def awQ : List Int := List.replicate 7 0 ++ [32] ++ List.replicate 248 0
theorem aw_can : canM 5 true [awQ] [7, 7, 7] = true := by decide +kernel
theorem aw_enc : packB (encBits 5 true [awQ] [7, 7, 7] ++ [true]) = [0, 4] := by decide +kernel
theorem aw_bits : bitsM 5 true [awQ] [7, 7, 7] = 10 := by decide +kernel
theorem aw_dec : decM 5 true [awQ] [0, 4] 3 = (0, [7, 7, 7]) := by decide +kernel
end Go.Proofs.Ytfnobinenolhhaa
namespace Go.Proofs.Ytfnobinenolhhaa
open Go.RowKit Go.ChangeShapes Go.WideShapes Go.Deep Go.Joins Go.Proofs.YtfnobinenolhhaaW.PrintWords
theorem cellsModel : Try.prog.cellsOf 24 = 3 := by kernel_rfl
theorem cellsInts : Try.prog.cellsOf 42 = 1 := by kernel_rfl
theorem cellsInt1 : Try.prog.cellsOf 3 = 1 := by kernel_rfl
theorem rows_kq {w : World} {a : Addr} {len cap : Nat} {A : Nat → Option Addr} {L C : Nat → Nat} {Z : Nat → List Int} (hl : len ≤ cap) (hm : cap ≤ maxLen)
    (h : ∀ r, r < cap → w.cell? (a.add r) = some (.slice (A r) (L r) (C r)) ∧ L r ≤ C r ∧ C r ≤ maxLen ∧ (Z r).length = C r ∧ (A r = none → C r = 0) ∧ ∀ a', A r = some a' → ∀ c, c < C r → w.cell? (a'.add c) = some (.int .i64 ((Z r).getD c 0))) :
    ∃ qs : List (List Int), qs.length = len ∧ kq.C w (some a) len qs := by
  have hm2 : cap ≤ 9223372036854775807 := hm
  refine ⟨(List.range len).map fun r => (Z r).take (L r), by simp, by simp, by omega, fun _ => ⟨a, rfl, fun j p hj => ?_⟩⟩
  obtain ⟨hjl, hp⟩ := List.getElem?_eq_some_iff.1 hj
  rw [List.length_map, List.length_range] at hjl
  rw [List.getElem_map, List.getElem_range] at hp
  subst hp
  obtain ⟨h1, h2, h3, h4, h5, h6⟩ := h j (by omega)
  have hlen : ((Z j).take (L j)).length = L j := by rw [List.length_take]; omega
  have h32 : C j ≤ 9223372036854775807 := h3
  refine ⟨[.slice (A j) ((Z j).take (L j)).length (C j)], rfl, ⟨A j, C j, rfl, by omega, ?_⟩, fun i u hu => ?_⟩
  · refine Kd.C_of_reads (d := (0 : Int)) (h1 := fun _ => rfl) ⟨rfl, by omega, fun hn => ?_⟩
    cases hA : A j with
    | none => have := h5 hA; omega
    | some a' =>
      refine ⟨a', rfl, fun c hc => ?_⟩
      rw [hlen] at hc
      rw [h6 a' hA c (by omega)]
      congr 2
      rw [List.getD_eq_getElem?_getD, List.getD_eq_getElem?_getD, List.getElem?_take, if_pos hc]
  · cases i with
    | zero =>
      simp only [List.getElem?_cons_zero, Option.some.injEq] at hu
      subst hu
      have e : j * kq.sz + 0 = j := by show j * 1 + 0 = j; omega
      rw [e, h1, hlen]
    | succ i => simp at hu
set_option maxRecDepth 100000 in
theorem open_model {H : Type} {enc : TypeId × Value → H} {w : World} {base b0 : Nat} {held : Bool} {r : Reach} {v : Value} {d : DataW H} {p : List MemPlace} (hv : Value.okWide Try.prog w r b0 24 v) (h : DataW.Trod enc Try.prog w base (fun _ => true) held 24 v d p) :
    ∃ (lg : Int) (one : Bool) (A : Option Addr) (c : Nat) (qs : List (List Int)), v = .agg #[.int .i64 lg, .bool one, .slice A qs.length c] ∧ (Lit.int .i64 lg).wf = true ∧ kq.C w A qs.length qs ∧ qs.length ≤ c ∧ qs.length ≤ maxLen := by
  obtain ⟨v0, v1, v2, y0, y1, y2, n, rfl, _, _, h0, h1, h2⟩ := open_agg3 Try.underlying24 (by kernel_rfl) cellsModel hv h
  obtain ⟨lg, e0, _, w0⟩ := DataW.trod_int Try.underlying3 h0
  obtain ⟨one, e1, _⟩ := DataW.trod_bool Try.underlying4 h1
  simp only [List.cons.injEq, and_true] at e0 e1
  subst e0 e1
  rcases open_int_rows Try.underlying22 Try.underlying42 Try.underlying3 cellsInts cellsInt1 h2 with ⟨e2, _⟩ | ⟨a, len, cap, A, L, C, Z, e2, _, hl, hm, _, hr⟩
  · simp only [List.cons.injEq, and_true] at e2
    subst e2
    exact ⟨lg, one, none, 0, [], rfl, w0, Kd.C_nil _ _, Nat.le_refl _, Nat.zero_le _⟩
  · simp only [List.cons.injEq, and_true] at e2
    subst e2
    obtain ⟨qs, rfl, hq⟩ := rows_kq hl hm (fun r hr' => by obtain ⟨a1, a2, a3, a4, _, a6, a7⟩ := hr r hr'; exact ⟨a1, a2, a3, a4, a6, fun a' e => (a7 a' e).2⟩)
    exact ⟨lg, one, some a, cap, qs, rfl, w0, hq, hl, Nat.le_trans hl hm⟩
end Go.Proofs.Ytfnobinenolhhaa
