/- The printed references' contracts, with what they answer. The walk of the reference's Counts. The walks of the reference's Zero, First, Of. The walk of the reference's First. The walk of the reference's Of. The walk of the chapter's example, layer 17. The laws of layer 17 by walks: what is common; LanesOne. Layer 17: LanesCuts, by a walk. Layer 17: LanesBack, by a walk. Layer 17: LanesLists, by a walk. Layer 17: LanesLists, by a walk: the walk. -/
import Derived.Test.YtfnobinenolhhaaM3
import Derived.Test.YtfnobinenolhhaaM2
import Derived.Test.YtfnobinenolhhaaPRefx4
import Derived.Test.YtfnobinenolhhaaPRefx1
import Derived.Test.YtfnobinenolhhaaPRefx3
import Derived.Test.YtfnobinenolhhaaPRefx5
import Derived.Deep.LoopGhost
import Derived.Laws.Rows
import Derived.Deep.DeepCutAuto
import Derived.Deep.RegionHeld3
namespace Go.Proofs.Ytfnobinenolhhaa
open Go.RowKit Go.IntWalk Go.Proofs.Ytfnobinenolhhaa.PRef Go.Proofs.YtfnobinenolhhaaW.PrintWords Go.Proofs.YtfnobinenolhhaaW.PrintLast Go.Proofs.YtfnobinenolhhaaW.PrintMore
section
variable (A : Option Addr) (cp : Nat) (c : List Int) (w : World)
theorem rTotal_any (hr : (Kd.int .i64).C w A c.length c) (hc : c.length ≤ cp) : Calls Try.prog 79 #[.slice A c.length cp] w (Ret (.int .i64 (totalC c)) w) := by
  obtain ⟨k, hk⟩ := (refTotal_eq c).rounds
  exact (puncheonref05_Total.calls k A cp c _ w hr hc hk).mono fun e w' h => ⟨h.1, h.2.below⟩
theorem rMany_any (hr : (Kd.int .i64).C w A c.length c) (hc : c.length ≤ cp) (hl : c.length ≤ 1000000) : Calls Try.prog 71 #[.slice A c.length cp] w (Ret (.int .i64 (manyC c)) w) := by
  obtain ⟨k, hk⟩ := (refMany_eq c hl).rounds
  exact (puncheonref05_Many.calls k A cp c _ w hr hc hk).mono fun e w' h => ⟨h.1, h.2.below⟩
theorem rPower_any (r : Nat) (hr : r ≤ 30) : Calls Try.prog 80 #[.int .i64 r] w (Ret (.int .i64 ((2 ^ r : Nat) : Int)) w) := by
  obtain ⟨k, hk⟩ := (refPower_eq r hr).rounds
  exact (puncheonref08_power.calls k r _ w hk).mono fun e w' h => ⟨h.1, h.2.below⟩
theorem rSum_any (hr : (Kd.int .i64).C w A c.length c) (hc : c.length ≤ cp) (hq : ∀ x ∈ c, 0 ≤ x ∧ x ≤ 1000000000) (hl : c.length ≤ 1000000) : Calls Try.prog 89 #[.slice A c.length cp] w (Ret (.int .i64 c.sum) w) := by
  obtain ⟨k, hk⟩ := (refSum_eq c hq hl).rounds
  exact (puncheonref08_sum.calls k A cp c _ w hr hc hk).mono fun e w' h => ⟨h.1, h.2.below⟩
theorem rNeed_any (B : Option Addr) (cb : Nat) (had : List Bool) (hr : (Kd.int .i64).C w A c.length c) (hc : c.length ≤ cp) (hb : Kd.bool.C w B had.length had) (hcb : had.length ≤ cb) (hl : c.length = 256) (hh : had.length = 256) : Calls Try.prog 90 #[.slice A c.length cp, .slice B had.length cb] w (Ret (.int .i64 (needN c had 256)) w) := by
  obtain ⟨k, hk⟩ := (refNeed_eq c had hl hh).rounds
  exact (puncheonref08_neediest.calls k A cp c B cb had _ w hr hc hb hcb hk).mono fun e w' h => ⟨h.1, h.2.below⟩
theorem rRich_any (B : Option Addr) (cb : Nat) (q : List Int) (hq : (Kd.int .i64).C w B q.length q) (hcb : q.length ≤ cb) (hr : (Kd.int .i64).C w A c.length c) (hc : c.length ≤ cp) (hl : c.length = 256) (hh : q.length = 256) : Calls Try.prog 91 #[.slice B q.length cb, .slice A c.length cp] w (Ret (.int .i64 (richN q c 256)) w) := by
  obtain ⟨k, hk⟩ := (refRich_eq q c hh hl).rounds
  exact (puncheonref08_richest.calls k B cb q A cp c _ w hq hcb hr hc hk).mono fun e w' h => ⟨h.1, h.2.below⟩
theorem rLog_any (hr : (Kd.int .i64).C w A c.length c) (hc : c.length ≤ cp) : Calls Try.prog 57 #[.slice A c.length cp] w (Ret (.int .i64 (logC c)) w) := by
  obtain ⟨k, hk⟩ := (refLog_eq c).rounds
  exact (puncheonref08_Log.calls k A cp c _ w hr hc hk).mono fun e w' h => ⟨h.1, h.2.below⟩
end
/-- a row that is made -/
def MadeI (xs : List Int) (w : World) (e : Ending) (w' : World) : Prop := ∃ v, e = .returned v ∧ (Kd.int .i64).R 3 w' w.heap.size (fun _ => True) v xs ∧ Below w.heap.size w w'
section
variable (A : Option Addr) (cp : Nat) (b : List Int) (w : World) (hr : (Kd.int .u8).C w A b.length b) (hc : b.length ≤ cp) (hb : Bytes b) (hl : b.length ≤ 1000000)
include hr hc hb hl
theorem rOf_any : Calls Try.prog 69 #[.slice A b.length cp] w (MadeI (histL b) w) := by
  obtain ⟨k, hk⟩ := (refOf_eq b hb hl).rounds
  exact (puncheonref05_Of.calls k A cp b _ w hr hc hk)
theorem rFor_any (c : Int) : Calls Try.prog 75 #[.slice A b.length cp, .int .i64 c] w (MadeI (histL (pickedL b c)) w) := by
  obtain ⟨k, hk⟩ := (refFor_eq b hb hl c).rounds
  exact (puncheonref06_For.calls k A cp b c _ w hr hc hk)
theorem rWidest_any : Calls Try.prog 73 #[.slice A b.length cp] w (Ret (.int .i64 (widN b 256)) w) := by
  obtain ⟨k, hk⟩ := (refWidest_eq b hb hl).rounds
  exact (puncheonref06_Widest.calls k A cp b _ w hr hc hk)
theorem rPres_any : Calls Try.prog 74 #[.slice A b.length cp] w (MadeI (presN b 256) w) := by
  obtain ⟨k, hk⟩ := (refPres_eq b hb hl).rounds
  exact (puncheonref06_Present.calls k A cp b _ w hr hc hk)
theorem rAt_any (i : Int) : Calls Try.prog 29 #[.slice A b.length cp, .int .i64 i] w (Ret (.int .i64 (ctxI b i)) w) :=
  puncheonref06_At.calls A cp b i _ w hr hc (refAt_eq b hb hl i)
end
theorem rPick_any (n m : Nat) (most : Int) (w : World) (hn : n < 2 ^ 40) (hm : m < 2 ^ 40) : Calls Try.prog 70 #[.int .i64 n, .int .i64 m, .int .i64 most] w (Ret (.int .i64 (pickI n m most)) w) := by
  obtain ⟨k, hk⟩ := (refPick_eq n m most hn hm).rounds
  exact (puncheonref07_Pick.calls k n m most _ w hk)
theorem made_i64 (n : Nat) (hn : n ≤ 1000000) (w : World) : (Instr.makeSlice 42 (.int .i64 n) (.int .i64 n)).run Try.prog w = .ok (.slice (some ⟨w.heap.size, 0, none⟩) n n) (w.alloc (.cells (madeCells #[.int .i64 0] n) 3)) := by
  obtain ⟨i0, hi, hzz⟩ := Option.map_eq_some_iff.1 infoInt
  simp only [Prod.mk.injEq] at hzz
  obtain ⟨hz0, hz1, hz2⟩ := hzz
  have hr := run_make (P := Try.prog) w 42 3 i0 (.int .i64 0) Try.underlying42 hi hz0 .i64 .i64 (n : Int) (n : Int) (by omega) (by omega) (by rw [hz2]; omega) (by omega)
  rw [hz1] at hr
  simpa [Value.cells] using hr
theorem made_rowK {α : Type} {enc : α → Value} {h1 : ∀ x, (enc x).oneCell' = true} (z0 : α) (t : TypeId) (hz : (enc z0).cells = #[enc z0]) (n : Nat) (hn : n ≤ 1000000) (W : World) (ok : Nat → Prop) (hok : ok W.heap.size) (base : Nat) (hb : base ≤ W.heap.size) : (Kd.scalar enc h1).R t (W.alloc (.cells (madeCells #[enc z0] n) t)) base ok (.slice (some ⟨W.heap.size, 0, none⟩) n n) (List.replicate n z0) := by
  have hr := Kd.reps_made (R := (Kd.scalar enc h1).M (W.alloc (.cells (madeCells #[enc z0] n) t)) base (fun k => ok k ∧ some k ≠ (Value.slice (some ⟨W.heap.size, 0, none⟩) n n).ownBlock)) (z := enc z0) (size := 1) (z0 := z0) (by rw [hz]; rfl) Nat.one_pos (by rw [hz]; rfl) n
  rw [hz, Nat.mul_one] at hr
  refine ⟨fun k hk => by cases hk; exact hok, _, ⟨?_, .inr ⟨W.heap.size, n, madeCells #[enc z0] n, by simp, hb, blk_new W _, by simp, by unfold maxLen; omega, ?_, ?_⟩⟩, hr⟩
  · simp [size_madeCells]; exact (Nat.mul_one n).symm
  · rw [size_madeCells]; exact (Nat.mul_one n).symm
  · rw [List.length_replicate]; exact List.take_of_length_le (by simp [size_madeCells]; exact Nat.le_of_eq (Nat.mul_one n).symm)
end Go.Proofs.Ytfnobinenolhhaa
namespace Go.Proofs.Ytfnobinenolhhaa
open Go.RowKit Go.IntWalk Go.Proofs.YtfnobinenolhhaaW.PrintWords
theorem infoBool : (Try.prog.info? 4).map (fun i => (i.zero, i.size, i.bytes)) = some (some (.bool false), 1, 1) := by kernel_rfl
theorem made_bool (n : Nat) (hn : n ≤ 1000000) (w : World) : (Instr.makeSlice 31 (.int .i64 n) (.int .i64 n)).run Try.prog w = .ok (.slice (some ⟨w.heap.size, 0, none⟩) n n) (w.alloc (.cells (madeCells #[.bool false] n) 4)) := by
  obtain ⟨i0, hi, hzz⟩ := Option.map_eq_some_iff.1 infoBool
  simp only [Prod.mk.injEq] at hzz
  obtain ⟨hz0, hz1, hz2⟩ := hzz
  have hr := run_make (P := Try.prog) w 31 4 i0 (.bool false) Try.underlying31 hi hz0 .i64 .i64 (n : Int) (n : Int) (by omega) (by omega) (by rw [hz2]; omega) (by omega)
  rw [hz1] at hr
  simpa [Value.cells] using hr
/-- a bool's cell -/
theorem bools_cells {e : TypeId} {W : World} {base : Nat} {ok : Nat → Prop} {g n cap : Nat} {xs : List Bool} (h : Kd.bool.R e W base ok (.slice (some ⟨g, 0, none⟩) n cap) xs) (i : Nat) (hi : i < n) :
    W.cell? ⟨g, i, none⟩ = some (.bool (xs.getD i false)) ∧ W.frozen? ⟨g, i, none⟩ = false := by
  obtain ⟨c, hl, hm, hc, hf⟩ := Kd.R_elem h false (i : Int) (by omega) (by omega)
  have hm' : c = [.bool (xs.getD (i : Int).toNat false)] := hm
  subst hm'
  simp only [Int.toNat_natCast] at hc hf
  have e1 : i * Kd.bool.sz + 0 = i := by show i * 1 + 0 = i; omega
  have h1 := hc 0 _ rfl
  have h2 := hf 0
  rw [e1] at h1 h2
  exact ⟨h1, h2⟩
/-- three rows of the call's own, side by side -/
structure Three (N : Nat) (w0 : World) (q r : List Int) (h : List Bool) (w : World) : Prop where
  q : (Kd.int .i64).R 3 w N (fun b => b = N) (.slice (some ⟨N, 0, none⟩) 256 256) q
  r : (Kd.int .i64).R 3 w N (fun b => b = N + 1) (.slice (some ⟨N + 1, 0, none⟩) 256 256) r
  h : Kd.bool.R 4 w N (fun b => b = N + 2) (.slice (some ⟨N + 2, 0, none⟩) 256 256) h
  below : Below N w0 w
theorem Three.setq {N : Nat} {w0 w : World} {q r : List Int} {h : List Bool} (H : Three N w0 q r h w) (s : Nat) (y : Int) : Three N w0 (q.set s y) r h (w.setCell ⟨N, s, none⟩ (.int .i64 y)) :=
  ⟨Kd.R_putn H.q (s : Int) y, Kd.R_far (p := ⟨N, s, none⟩) H.r (fun k hk => by show k ≠ N; omega) _, Kd.R_far (p := ⟨N, s, none⟩) H.h (fun k hk => by show k ≠ N; omega) _, H.below.setCell (Nat.le_refl _) _⟩
theorem Three.setr {N : Nat} {w0 w : World} {q r : List Int} {h : List Bool} (H : Three N w0 q r h w) (s : Nat) (y : Int) : Three N w0 q (r.set s y) h (w.setCell ⟨N + 1, s, none⟩ (.int .i64 y)) :=
  ⟨Kd.R_far (p := ⟨N + 1, s, none⟩) H.q (fun k hk => by show k ≠ N + 1; omega) _, Kd.R_putn H.r (s : Int) y, Kd.R_far (p := ⟨N + 1, s, none⟩) H.h (fun k hk => by show k ≠ N + 1; omega) _, H.below.setCell (by show N ≤ N + 1; omega) _⟩
theorem Three.seth {N : Nat} {w0 w : World} {q r : List Int} {h : List Bool} (H : Three N w0 q r h w) (s : Nat) (y : Bool) : Three N w0 q r (h.set s y) (w.setCell ⟨N + 2, s, none⟩ (.bool y)) :=
  ⟨Kd.R_far (p := ⟨N + 2, s, none⟩) H.q (fun k hk => by show k ≠ N + 2; omega) _, Kd.R_far (p := ⟨N + 2, s, none⟩) H.r (fun k hk => by show k ≠ N + 2; omega) _, Kd.R_putn H.h (s : Int) y, H.below.setCell (by show N ≤ N + 2; omega) _⟩
theorem Three.later {N : Nat} {w0 w w' : World} {q r : List Int} {h : List Bool} (H : Three N w0 q r h w) (hb : Below w.heap.size w w') : Three N w0 q r h w' :=
  ⟨Kd.R_below H.q hb, Kd.R_below H.r hb, Kd.R_below H.h hb, H.below.trans (hb.mono (by have := (Kd.R_bound H.q).1 N rfl; omega))⟩
theorem Three.cells {N : Nat} {w0 w : World} {q r : List Int} {h : List Bool} (H : Three N w0 q r h w) (k : Nat) (hk : k < 256) :
    (w.cell? ⟨N, k, none⟩ = some (.int .i64 (q.getD k 0)) ∧ w.frozen? ⟨N, k, none⟩ = false) ∧ (w.cell? ⟨N + 1, k, none⟩ = some (.int .i64 (r.getD k 0)) ∧ w.frozen? ⟨N + 1, k, none⟩ = false) ∧ (w.cell? ⟨N + 1 + 1, k, none⟩ = some (.bool (h.getD k false)) ∧ w.frozen? ⟨N + 1 + 1, k, none⟩ = false) :=
  ⟨ints_cells H.q k hk, ints_cells H.r k hk, bools_cells H.h k hk⟩
theorem Three.at_ {N : Nat} {w0 w ww : World} {q r : List Int} {h : List Bool} {A : Option Addr} {c : List Int} (H : Three N w0 q r h ww) (hr : (Kd.int .i64).C w A c.length c) (hb : Below w.heap.size w w0) (hN : w0.heap.size = N) : (Kd.int .i64).C ww A c.length c :=
  Kd.C_below hr (hb.trans (H.below.mono (by have := hb.size; omega)))
theorem at_cell {W : World} {ad : Addr} {c : List Int} (h : (Kd.int .i64).C W (some ad) c.length c) (k : Nat) (hk : k < c.length) : W.cell? (ad.add k) = some (.int .i64 (c.getD k 0)) := by
  obtain ⟨ad', e, hc⟩ := ints_get h k hk
  cases e; exact hc
theorem three_made (w : World) : Three w.heap.size w (List.replicate 256 0) (List.replicate 256 0) (List.replicate 256 false) (((w.alloc (.cells (madeCells #[.int .i64 0] 256) 3)).alloc (.cells (madeCells #[.int .i64 0] 256) 3)).alloc (.cells (madeCells #[.bool false] 256) 4)) := by
  have b1 : Below w.heap.size w (w.alloc (.cells (madeCells #[.int .i64 0] 256) 3)) := (Below.refl _ _).alloc (Nat.le_refl _) _
  have s1 : (w.alloc (.cells (madeCells #[.int .i64 0] 256) 3)).heap.size = w.heap.size + 1 := by simp
  have s2 : ((w.alloc (.cells (madeCells #[.int .i64 0] 256) 3)).alloc (.cells (madeCells #[.int .i64 0] 256) 3)).heap.size = w.heap.size + 2 := by simp
  refine ⟨Kd.R_alloc (Kd.R_alloc (made_rowK (enc := Value.int .i64) (h1 := fun _ => rfl) (0 : Int) 3 rfl 256 (by omega) w (fun b => b = w.heap.size) rfl w.heap.size (Nat.le_refl _)) _) _, Kd.R_alloc ?_ _, ?_, ((b1.alloc (by omega) _).alloc (by omega) _)⟩
  · have := made_rowK (enc := Value.int .i64) (h1 := fun _ => rfl) (0 : Int) 3 rfl 256 (by omega) (w.alloc (.cells (madeCells #[.int .i64 0] 256) 3)) (fun b => b = w.heap.size + 1) s1 w.heap.size (by omega)
    rw [s1] at this; exact this
  · have := made_rowK (enc := Value.bool) (h1 := fun _ => rfl) false 4 rfl 256 (by omega) ((w.alloc (.cells (madeCells #[.int .i64 0] 256) 3)).alloc (.cells (madeCells #[.int .i64 0] 256) 3)) (fun b => b = w.heap.size + 2) s2 w.heap.size (by omega)
    rw [s2] at this; exact this
/-- the rows behind the first k symbols -/
def qTo (c : List Int) (P n : Int) (k : Nat) : List Int := mapR (fun s => if s < k then q0F c P n s else 0)
def rTo (c : List Int) (P n : Int) (k : Nat) : List Int := mapR (fun s => if s < k then c.getD s 0 * P % n else 0)
def hTo (c : List Int) (P n : Int) (k : Nat) : List Bool := (List.range 256).map (fun s => if s < k then decide (c.getD s 0 * P / n = 0) else false)
theorem to_zero (c : List Int) (P n : Int) : qTo c P n 0 = List.replicate 256 0 ∧ rTo c P n 0 = List.replicate 256 0 ∧ hTo c P n 0 = List.replicate 256 false := by
  have e : ∀ {α : Type} (z : α) (f : Nat → α), (∀ s, f s = z) → (List.range 256).map f = List.replicate 256 z := fun z f h => by
    rw [show f = fun _ => z from funext h, List.map_const', List.length_range]
  exact ⟨e 0 (fun s => if s < 0 then q0F c P n s else 0) (fun s => by rw [if_neg (by omega)]), e 0 (fun s => if s < 0 then c.getD s 0 * P % n else 0) (fun s => by rw [if_neg (by omega)]), e false (fun s => if s < 0 then decide (c.getD s 0 * P / n = 0) else false) (fun s => by rw [if_neg (by omega)])⟩
theorem to_all (c : List Int) (P n : Int) : qTo c P n 256 = q0L c P n ∧ rTo c P n 256 = restL c P n ∧ hTo c P n 256 = hadL c P n :=
  ⟨mapR_congr (fun s h => by rw [if_pos h]), mapR_congr (fun s h => by rw [if_pos h]), List.map_congr_left (fun s h => by rw [if_pos (List.mem_range.1 h)])⟩
theorem mapR_to (f : Nat → Int) {k : Nat} (hk : k < 256) : (mapR (fun s => if s < k then f s else 0)).set k (f k) = mapR (fun s => if s < k + 1 then f s else 0) := by
  rw [mapR_set _ hk]
  refine mapR_congr (fun s _ => ?_)
  by_cases e : s = k
  · subst e; rw [if_pos rfl, if_pos (by omega)]
  · rw [if_neg e]
    by_cases e2 : s < k
    · rw [if_pos e2, if_pos (by omega)]
    · rw [if_neg e2, if_neg (by omega)]
theorem hTo_set (c : List Int) (P n : Int) {k : Nat} (_ : k < 256) : (hTo c P n k).set k (decide (c.getD k 0 * P / n = 0)) = hTo c P n (k + 1) := by
  unfold hTo
  apply List.ext_getElem
  · simp
  · intro i h1 h2
    rw [List.getElem_set]
    simp only [List.getElem_map, List.getElem_range]
    by_cases e : k = i
    · subst e; rw [if_pos rfl, if_pos (by omega)]
    · rw [if_neg e]
      by_cases e2 : i < k
      · rw [if_pos e2, if_pos (by omega)]
      · rw [if_neg e2, if_neg (by omega)]
theorem hTo_same (c : List Int) (P n : Int) {k : Nat} (h : c.getD k 0 * P / n ≠ 0) (hk : k < 256) : hTo c P n (k + 1) = hTo c P n k := by
  rw [← hTo_set c P n hk, decide_eq_false h]
  unfold hTo
  apply List.ext_getElem
  · simp
  · intro i h1 h2
    rw [List.getElem_set]
    split
    · rename_i e; subst e; simp
    · rfl
theorem set_set_same (q : List Int) (k : Nat) (x y : Int) : (q.set k x).set k y = q.set k y := by simp
theorem three_end {c : List Int} {k x n P m dq rm : Nat} (hk : k < 256) (hx : c.getD k 0 = x) (hm : m = x * P) (hd : dq = m / n) (hr : rm = m % n) :
    (dq = 0 → (((qTo c P n k).set k (dq : Int)).set k (min (x : Int) 1) = qTo c P n (k + 1) ∧ (hTo c P n k).set k true = hTo c P n (k + 1))) ∧ (dq ≠ 0 → ((qTo c P n k).set k (dq : Int) = qTo c P n (k + 1) ∧ hTo c P n k = hTo c P n (k + 1))) ∧ (rTo c P n k).set k (rm : Int) = rTo c P n (k + 1) := by
  have e1 : c.getD k 0 * (P : Int) / (n : Int) = dq := by rw [hx, hd, hm]; simp
  have e2 : c.getD k 0 * (P : Int) % (n : Int) = rm := by rw [hx, hr, hm]; simp
  refine ⟨fun hz => ⟨?_, ?_⟩, fun hz => ⟨?_, ?_⟩, ?_⟩
  · rw [set_set_same]
    have := mapR_to (q0F c P n) hk
    unfold q0F at this
    rw [e1, if_pos (by omega), hx] at this; exact this
  · have := hTo_set c P n hk
    rw [e1, decide_eq_true (by omega)] at this; exact this
  · have := mapR_to (q0F c P n) hk
    unfold q0F at this
    rw [e1, if_neg (by omega)] at this; exact this
  · exact (hTo_same c P n (by rw [e1]; omega) hk).symm
  · have := mapR_to (fun s => c.getD s 0 * (P : Int) % (n : Int)) hk
    rw [e2] at this; exact this
theorem rSum256 (A : Option Addr) (q : List Int) (w : World) (hr : (Kd.int .i64).C w A q.length q) (hl : q.length = 256) (hq : ∀ s, 0 ≤ q.getD s 0 ∧ q.getD s 0 ≤ 100000) : Calls Try.prog 89 #[.slice A 256 256] w (Ret (.int .i64 q.sum) w) := by
  have h := rSum_any A 256 q w hr (by omega) (fun x hx => by
    obtain ⟨s, hs, rfl⟩ := List.getElem_of_mem hx
    have := hq s
    rw [List.getD_eq_getElem?_getD, List.getElem?_eq_getElem hs] at this
    exact ⟨this.1, by have := this.2; simp only [Option.getD_some] at this; omega⟩) (by omega)
  rw [hl] at h; exact h
theorem rNeed256 (A B : Option Addr) (c : List Int) (had : List Bool) (w : World) (hr : (Kd.int .i64).C w A c.length c) (hb : Kd.bool.C w B had.length had) (hl : c.length = 256) (hh : had.length = 256) : Calls Try.prog 90 #[.slice A 256 256, .slice B 256 256] w (Ret (.int .i64 (needN c had 256)) w) := by
  have h := rNeed_any A 256 c w B 256 had hr (by omega) hb (by omega) hl hh
  rw [hl, hh] at h; exact h
theorem rRich256 (A B : Option Addr) (cp : Nat) (c q : List Int) (w : World) (hq : (Kd.int .i64).C w B q.length q) (hr : (Kd.int .i64).C w A c.length c) (hc : c.length ≤ cp) (hl : c.length = 256) (hh : q.length = 256) : Calls Try.prog 91 #[.slice B 256 256, .slice A c.length cp] w (Ret (.int .i64 (richN q c 256)) w) := by
  have h := rRich_any A cp c w B 256 q hq (by omega) hr hc hl hh
  rw [hh] at h; exact h
/-- who is asked is there -/
theorem need_ok {c : List Int} {r m : Nat} (h : Can c r) (hm : m + 1 ≤ giveM c (2 ^ r) c.sum) : ∃ t : Nat, needN (restL c (2 ^ r) c.sum) (giveIt (restL c (2 ^ r) c.sum) m (q0L c (2 ^ r) c.sum, hadL c (2 ^ r) c.sum)).2 256 = t ∧ t < 256 := by
  obtain ⟨h1, h2, h3, h4, h5, h6, h7⟩ := give_way h m (by omega)
  have hen := h.enough
  have hM : (m : Int) + 1 ≤ 2 ^ r - (q0L c (2 ^ r) c.sum).sum := by unfold giveM at hm; omega
  obtain ⟨s0, hs0, hf0⟩ := free_exists h2 (by omega)
  have hn0 := needN_some (restL c (2 ^ r) c.sum) _ hf0 256 hs0
  have hnl := needN_lt (restL c (2 ^ r) c.sum) (giveIt (restL c (2 ^ r) c.sum) m (q0L c (2 ^ r) c.sum, hadL c (2 ^ r) c.sum)).2 256
  exact ⟨_, (Int.toNat_of_nonneg hn0).symm, by omega⟩
def CountsPost (c : List Int) (r : Nat) (w : World) (e : Ending) (w' : World) : Prop := ∃ v, e = .returned (.tuple #[v, .int .i64 0]) ∧ (Kd.int .i64).R 3 w' w.heap.size (fun _ => True) v (normL c r) ∧ Below w.heap.size w w'
set_option maxRecDepth 100000 in
set_option maxHeartbeats 2000000 in
theorem rCounts_any (A : Option Addr) (cp : Nat) (c : List Int) (r : Nat) (w : World) (hr : (Kd.int .i64).C w A c.length c) (hcp : c.length ≤ cp) (h : Can c r) :
    Calls Try.prog 72 #[.slice A c.length cp, .int .i64 r] w (CountsPost c r w) := by
  have HR := Lib.hid hr
  have HC := Lib.hid h
  have hR : rightC c = true := rightC_iff.2 ⟨h.len, h.nonneg, h.le⟩
  have hT : totalC c = c.sum := by unfold totalC; rw [if_pos hR]
  have hM : manyC c ≤ 2 ^ r := by unfold manyC; rw [if_pos hR]; exact h.many
  obtain ⟨n, hn⟩ : ∃ n : Nat, c.sum = n := ⟨c.sum.toNat, by have := h.pos; omega⟩
  have HTot := Lib.hid (rTotal_any A cp c w hr hcp)
  rw [hT, hn] at HTot
  obtain ⟨P, hP⟩ : ∃ P : Nat, 2 ^ r = P := ⟨_, rfl⟩
  have hPb : 1 ≤ P ∧ P ≤ 4096 := by
    have := pow_le12 h.r12
    have e2 : (2 : Int) ^ r = ((2 ^ r : Nat) : Int) := by simp
    rw [e2, hP] at this; omega
  have HPow : Hid (∀ w, Calls Try.prog 80 #[.int .i64 r] w (Ret (.int .i64 (P : Int)) w)) := fun w => by rw [← hP]; exact rPower_any w r (by have := h.r12; omega)
  have HN : Hid (c.sum = n ∧ 2 ^ r = P ∧ manyC c ≤ P) := ⟨hn, hP, by omega⟩
  have hn0 : ((n : Int) == 0) = false := by have := h.pos; simp; omega
  have hn1 : 1 ≤ n ∧ n ≤ 1073741824 := by have := h.pos; have := h.le; omega
  have hr1 : decide ((r : Int) < 1) = false := decide_eq_false (by have := h.r1; omega)
  have hr2 : decide (12 < (r : Int)) = false := decide_eq_false (by have := h.r12; omega)
  have HCP : Hid (c.length ≤ cp ∧ c.length = 256) := ⟨hcp, h.len⟩
  clear hr h hR hT hM hn hP hcp
  have hmi : ∀ w : World, (Instr.makeSlice 42 (.int .i64 256) (.int .i64 256)).run Try.prog w = .ok (.slice (some ⟨w.heap.size, 0, none⟩) 256 256) (w.alloc (.cells (madeCells #[.int .i64 0] 256) 3)) := fun w => made_i64 256 (by omega) w
  have hmb : ∀ w : World, (Instr.makeSlice 31 (.int .i64 256) (.int .i64 256)).run Try.prog w = .ok (.slice (some ⟨w.heap.size, 0, none⟩) 256 256) (w.alloc (.cells (madeCells #[.bool false] 256) 4)) := fun w => made_bool 256 (by omega) w
  go_enter Try.func72, Try.ntmps72
  go_wp2_with fail
  refine HTot.out.mono ?_
  rintro e w1 ⟨rfl, hb1⟩
  have HB1 := Lib.hid hb1
  clear hb1
  go_wp2_with fail
  refine (HPow.out w1).mono ?_
  rintro e w2 ⟨rfl, hb2⟩
  have HB2 : Hid (Below w.heap.size w w2) := HB1.out.trans (hb2.mono HB1.out.size)
  clear hb2
  go_wp2_with fail
  refine (rMany_any A cp c w2 (Kd.C_below HR.out HB2.out) HCP.out.1 (by have := HCP.out.2; omega)).mono ?_
  rintro e w3 ⟨rfl, hb3⟩
  have HB3 : Hid (Below w.heap.size w w3) := HB2.out.trans (hb3.mono HB2.out.size)
  have hmp : decide (P < manyC c) = false := decide_eq_false (by have := HN.out.2.2; omega)
  clear hb3
  obtain ⟨N, hNs⟩ : ∃ N, N = w3.heap.size := ⟨_, rfl⟩
  have H3 := Lib.hid (three_made w3)
  rw [← hNs] at H3
  go_wp2_with fail
  rw [← hNs]
  obtain ⟨W, hW⟩ : ∃ W, W = ((w3.alloc (.cells (madeCells #[.int .i64 0] 256) 3)).alloc (.cells (madeCells #[.int .i64 0] 256) 3)).alloc (.cells (madeCells #[.bool false] 256) 4) := ⟨_, rfl⟩
  rw [← hW] at H3 ⊢
  have HNs := Lib.hid hNs
  clear hW hNs hmi hmb hmp
  go_loopw [11] (fun kv wr => ∃ (k : Nat), kv = .int .i64 k ∧ k ≤ 256 ∧ Hid (Three N w3 (qTo c P n k) (rTo c P n k) (hTo c P n k) wr)) (fun kv _ => 256 - (intOf kv).toNat)
  case atStart => exact ⟨0, rfl, by omega, by obtain ⟨a, b, d⟩ := to_zero c P n; show Three _ _ _ _ _ _; rw [a, b, d]; exact H3.out⟩
  case round =>
    obtain ⟨k, rfl, hk, H⟩ := hrel
    by_cases hlt : k < 256
    · have hC := Kd.C_below HR.out (HB3.out.trans (H.out.below.mono (by have := HB3.out.size; have := HNs.out; omega)))
      have hcl := HCP.out.2
      obtain ⟨ad, rfl, hcx⟩ := ints_get hC k (by omega)
      have hcg := HC.out.get k
      obtain ⟨x, hx⟩ : ∃ x : Nat, c.getD k 0 = x := ⟨(c.getD k 0).toNat, by omega⟩
      rw [hx] at hcx hcg
      have hkc : (k : Int) < (c.length : Int) := by omega
      obtain ⟨⟨q1, q2⟩, ⟨r1, r2⟩, ⟨b1, b2⟩⟩ := H.out.cells k (by omega)
      obtain ⟨m, hm⟩ : ∃ m : Nat, m = x * P := ⟨_, rfl⟩
      have hxn : x ≤ n := by have := HN.out.1; omega
      have hm42 : m ≤ 4398046511104 := by
        rw [hm]
        calc x * P ≤ 1073741824 * 4096 := Nat.mul_le_mul (by omega) (by omega)
          _ = 4398046511104 := by decide
      have hmI : (x : Int) * (P : Int) = (m : Int) := by rw [hm]; simp
      have hdq : (m : Int) / (n : Int) = ((m / n : Nat) : Int) := by simp
      have hrm : (m : Int) % (n : Int) = ((m % n : Nat) : Int) := by simp
      obtain ⟨dq, hdqe⟩ : ∃ dq, dq = m / n := ⟨_, rfl⟩
      obtain ⟨rm, hrme⟩ : ∃ rm, rm = m % n := ⟨_, rfl⟩
      rw [← hdqe] at hdq
      rw [← hrme] at hrm
      have hdb : dq ≤ 4398046511104 := by rw [hdqe]; exact Nat.le_trans (Nat.div_le_self _ _) hm42
      have hn00 : ¬ (n : Int) = 0 := by omega
      have HX := Lib.hid (And.intro hx (And.intro hm (And.intro hdqe hrme)))
      clear hx hm hdqe hrme hcl hC
      have Ha := Lib.hid (H.out.setq k (dq : Int))
      have Hb := Lib.hid (Ha.out.setr k (rm : Int))
      have hqe : ((qTo c P n k).set k (dq : Int)).getD k 0 = dq := by rw [getD_set _ _ _ _ (by unfold qTo; rw [mapR_len]; omega), if_pos rfl]
      obtain ⟨⟨q3, q4⟩, ⟨r3, r4⟩, ⟨b3, b4⟩⟩ := Ha.out.cells k (by omega)
      obtain ⟨⟨q5, q6⟩, ⟨r5, r6⟩, ⟨b5, b6⟩⟩ := Hb.out.cells k (by omega)
      have c3 := at_cell (Ha.out.at_ HR.out HB3.out HNs.out.symm) k (by omega)
      have c5 := at_cell (Hb.out.at_ HR.out HB3.out HNs.out.symm) k (by omega)
      rw [hqe] at q3 q5
      rw [HX.out.1] at c3 c5
      clear hqe
      by_cases hz : dq = 0
      · have hzb : ((dq : Int) == 0) = true := by rw [hz]; rfl
        have HZ := Lib.hid hz
        clear hz
        have Hc := Lib.hid (Hb.out.seth k true)
        obtain ⟨⟨q7, q8⟩, ⟨r7, r8⟩, ⟨b7, b8⟩⟩ := Hc.out.cells k (by omega)
        have c7 := at_cell (Hc.out.at_ HR.out HB3.out HNs.out.symm) k (by omega)
        rw [HX.out.1] at c7
        have hE := Lib.hid (Hc.out.setq k (min (x : Int) 1))
        go_wp2_with fail
        go_roundw
        case rel =>
          refine ⟨k + 1, by go_num, by omega, ?_⟩
          obtain ⟨h3, _, h5⟩ := three_end (n := n) hlt HX.out.1 HX.out.2.1 HX.out.2.2.1 HX.out.2.2.2
          obtain ⟨h3a, h3b⟩ := h3 HZ.out
          have := hE.out
          rw [h3a, h3b, h5] at this; exact this
        case measure => simp [intOf]; omega
      · have hzb : ((dq : Int) == 0) = false := by simp; omega
        have HZ := Lib.hid hz
        clear hz
        go_wp2_with fail
        go_roundw
        case rel =>
          refine ⟨k + 1, by go_num, by omega, ?_⟩
          obtain ⟨_, h4, h5⟩ := three_end (n := n) hlt HX.out.1 HX.out.2.1 HX.out.2.2.1 HX.out.2.2.2
          obtain ⟨h4a, h4b⟩ := h4 HZ.out
          have := Hb.out
          rw [h4a, h4b, h5] at this; exact this
        case measure => simp [intOf]; omega
    · obtain rfl : k = 256 := by omega
      have HE : Hid (Three N w3 (q0L c P n) (restL c P n) (hadL c P n) wr) := by
        obtain ⟨a, b, d⟩ := to_all c P n
        have := H.out
        rw [a, b, d] at this; exact this
      have HPP : Hid ((P : Int) = 2 ^ r ∧ (n : Int) = c.sum) := ⟨by rw [← HN.out.2.1]; simp, HN.out.1.symm⟩
      go_wp2_with fail
      obtain ⟨wo, hwo⟩ : ∃ wo : World, wo = wr := ⟨_, rfl⟩
      rw [← hwo] at HE ⊢
      clear hwo H
      obtain ⟨M, hM⟩ : ∃ M, M = giveM c (2 ^ r) c.sum := ⟨_, rfl⟩
      have HM := Lib.hid hM
      clear hM
      go_loopg [] M (fun kq wr => ∃ m, m + kq = M ∧ Hid (Three N w3 (giveIt (restL c P n) m (q0L c P n, hadL c P n)).1 (restL c P n) (giveIt (restL c P n) m (q0L c P n, hadL c P n)).2 wr))
      case atStart => exact ⟨0, by omega, HE.out⟩
      case round =>
        obtain ⟨m, hm, H⟩ := hrel
        have hw := give_way HC.out m (by rw [← HM.out]; omega)
        rw [← HPP.out.1, ← HPP.out.2] at hw
        obtain ⟨st, hst⟩ : ∃ st, st = giveIt (restL c P n) m (q0L c P n, hadL c P n) := ⟨_, rfl⟩
        rw [← hst] at hw H
        have HST := Lib.hid hst
        obtain ⟨g1, g2, g3, g4, g5, g6, g7⟩ := hw
        have hsz : N ≤ wr.heap.size := by have := (Kd.R_bound H.out.q).1 N rfl; omega
        have hgl : m ≤ 4096 := by
          have h0 : 0 ≤ (q0L c P n).sum := by
            rw [HPP.out.1, HPP.out.2]; exact sum_nonneg (fun x hx => by obtain ⟨v, hv, rfl⟩ := mapR_mem hx; exact (HC.out.q0 v).1)
          have : M ≤ 4096 := by rw [HM.out, ← HPP.out.1, ← HPP.out.2]; unfold giveM; omega
          omega
        have HG := Lib.hid (And.intro g1 (And.intro g2 (And.intro g3 (And.intro g5 hgl))))
        clear g1 g2 g3 g4 g5 g6 g7 hst hsz
        by_cases hlt : m < M
        · obtain ⟨t, ht, ht256⟩ := need_ok HC.out (m := m) (by rw [← HM.out]; omega)
          rw [← HPP.out.1, ← HPP.out.2, ← HST.out] at ht
          have hsl : decide (st.1.sum < (P : Int)) = true := decide_eq_true (by
            have e := HG.out.2.2.2.1
            have : (M : Int) = P - (q0L c P n).sum := by
              have h2 := HM.out
              rw [← HPP.out.1, ← HPP.out.2] at h2
              unfold giveM at h2; omega
            omega)
          have HT2 := Lib.hid ht
          clear ht
          go_wp2_with fail
          refine (rSum256 (some ⟨N, 0, none⟩) st.1 wr (Kd.R_reads' H.out.q).2.2 HG.out.1 (fun s => ⟨(HG.out.2.2.1 s).1, by have := (HG.out.2.2.1 s).2; have := HG.out.2.2.2.2; omega⟩)).mono ?_
          rintro e w4 ⟨rfl, hb4⟩
          have H4 := Lib.hid (H.out.later hb4)
          clear hb4
          go_wp2_with fail
          refine (rNeed256 (some ⟨N + 1, 0, none⟩) (some ⟨N + 2, 0, none⟩) (restL c P n) st.2 w4 (Kd.R_reads' H4.out.r).2.2 (Kd.R_reads' H4.out.h).2.2 (mapR_len _) HG.out.2.1).mono ?_
          rw [HT2.out]
          rintro e w5 ⟨rfl, hb5⟩
          have H5 := Lib.hid (H4.out.later hb5)
          clear hb5
          obtain ⟨⟨q3, q4⟩, ⟨r3, r4⟩, ⟨b3, b4⟩⟩ := H5.out.cells t ht256
          have H6 := Lib.hid (H5.out.seth t true)
          obtain ⟨⟨q5, q6⟩, ⟨r5, r6⟩, ⟨b5, b6⟩⟩ := H6.out.cells t ht256
          have htI : (t : Int) < 256 := by omega
          have hgt := HG.out.2.2.1 t
          obtain ⟨y, hy⟩ : ∃ y, y = st.1.getD t 0 := ⟨_, rfl⟩
          rw [← hy] at q3 q5 hgt
          have hgt2 : y ≤ 8192 := by have := HG.out.2.2.2.2; omega
          have HY := Lib.hid hy
          have H7 := Lib.hid (H6.out.setq t (y + 1))
          clear hy
          go_wp2_with fail
          go_roundg (gk - 1)
          case rel =>
            refine ⟨m + 1, by omega, ?_⟩
            show Three _ _ _ _ _ _
            simp only [giveIt]
            rw [← HST.out, HT2.out, Int.toNat_natCast, ← HY.out]
            exact H7.out
          case measure => omega
        · obtain rfl : m = M := by omega
          have hsl : decide (st.1.sum < (P : Int)) = false := decide_eq_false (by
            have e := HG.out.2.2.2.1
            have : (P : Int) - (q0L c P n).sum ≤ (m : Int) := by
              have h2 := HM.out
              rw [← HPP.out.1, ← HPP.out.2] at h2
              unfold giveM at h2; omega
            omega)
          go_wp2_with fail
          refine (rSum256 (some ⟨N, 0, none⟩) st.1 wr (Kd.R_reads' H.out.q).2.2 HG.out.1 (fun s => ⟨(HG.out.2.2.1 s).1, by have := (HG.out.2.2.1 s).2; have := HG.out.2.2.2.2; omega⟩)).mono ?_
          rintro e w4 ⟨rfl, hb4⟩
          have H4 := Lib.hid (H.out.later hb4)
          clear hb4
          go_wp2_with fail
          have HGE := give_end HC.out
          rw [← HPP.out.1, ← HPP.out.2, show giveM c (P : Int) (n : Int) = m by rw [HM.out, ← HPP.out.1, ← HPP.out.2], ← HST.out] at HGE
          have HWay := Lib.hid HGE
          clear HGE
          obtain ⟨M3, hM3⟩ : ∃ M3, M3 = (st.1.sum - (P : Int)).toNat := ⟨_, rfl⟩
          have HM3 := Lib.hid hM3
          obtain ⟨wp, hwp⟩ : ∃ wp : World, wp = w4 := ⟨_, rfl⟩
          rw [← hwp] at H4 ⊢
          clear hwp hM3 hsl
          go_loopg [] M3 (fun kq ws => ∃ j, j + kq = M3 ∧ Hid (Three N w3 (takeIt c j st.1) (restL c P n) st.2 ws))
          case atStart => exact ⟨0, by omega, H4.out⟩
          case round =>
            obtain ⟨j, hj, H⟩ := hrel
            have hway := take_way HC.out HWay.out.1 j (by rw [← HPP.out.1, ← HM3.out]; omega)
            obtain ⟨u, hu⟩ : ∃ u, u = takeIt c j st.1 := ⟨_, rfl⟩
            rw [← hu] at hway H
            have HU := Lib.hid hu
            have HW := Lib.hid hway
            have hbl := richN_lt u c 256
            obtain ⟨t, ht⟩ : ∃ t, t = richN u c 256 := ⟨_, rfl⟩
            rw [← ht] at hbl
            have HT3 := Lib.hid ht
            have ht256 : t < 256 := by omega
            clear hu hway ht hbl
            by_cases hlt : j < M3
            · have hsl : decide ((P : Int) < u.sum) = true := decide_eq_true (by have := HW.out.2; have := HM3.out; omega)
              go_wp2_with fail
              refine (rSum256 (some ⟨N, 0, none⟩) u wr (Kd.R_reads' H.out.q).2.2 HW.out.1.len HW.out.1.rng).mono ?_
              rintro e w5 ⟨rfl, hb5⟩
              have H5 := Lib.hid (H.out.later hb5)
              clear hb5
              go_wp2_with fail
              refine (rRich256 A (some ⟨N, 0, none⟩) cp c u w5 (Kd.R_reads' H5.out.q).2.2 (H5.out.at_ HR.out HB3.out HNs.out.symm) HCP.out.1 HCP.out.2 HW.out.1.len).mono ?_
              rw [← HT3.out]
              rintro e w6 ⟨rfl, hb6⟩
              have H6 := Lib.hid (H5.out.later hb6)
              clear hb6
              obtain ⟨⟨q3, q4⟩, _, _⟩ := H6.out.cells t ht256
              have htI : (t : Int) < 256 := by omega
              have hgt := HW.out.1.rng t
              obtain ⟨y, hy⟩ : ∃ y, y = u.getD t 0 := ⟨_, rfl⟩
              rw [← hy] at q3 hgt
              obtain ⟨hgt1, hgt2⟩ := hgt
              have HY := Lib.hid hy
              have H7 := Lib.hid (H6.out.setq t (y - 1))
              clear hy
              go_wp2_with fail
              go_roundg (gk - 1)
              case rel =>
                refine ⟨j + 1, by omega, ?_⟩
                show Three _ _ _ _ _ _
                simp only [takeIt]
                rw [← HU.out, ← HT3.out, ← HY.out]
                exact H7.out
              case measure => omega
            · obtain rfl : j = M3 := by omega
              have hsl : decide ((P : Int) < u.sum) = false := decide_eq_false (by have := HW.out.2; have := HM3.out; omega)
              go_wp2_with fail
              refine (rSum256 (some ⟨N, 0, none⟩) u wr (Kd.R_reads' H.out.q).2.2 HW.out.1.len HW.out.1.rng).mono ?_
              rintro e w5 ⟨rfl, hb5⟩
              have H5 := Lib.hid (H.out.later hb5)
              clear hb5
              go_wp2_with fail
              go_ret2
              have hnorm : u = normL c r := by
                rw [HU.out, HM3.out, HST.out]
                unfold normL
                simp only []
                rw [show (2 : Int) ^ r = P from HPP.out.1.symm, HPP.out.2.symm, show giveM c (P : Int) (n : Int) = m by rw [HM.out, ← HPP.out.1, ← HPP.out.2]]
              unfold CountsPost
              rw [← hnorm]
              exact ⟨_, rfl, Kd.R_mono (Kd.R_lower H5.out.q (by have := HB3.out.size; have := HNs.out; omega)) (fun _ _ => trivial), HB3.out.trans (H5.out.below.mono (by have := HB3.out.size; have := HNs.out; omega))⟩
end Go.Proofs.Ytfnobinenolhhaa
namespace Go.Proofs.Ytfnobinenolhhaa
open Go.RowKit Go.IntWalk Go.Proofs.YtfnobinenolhhaaW.PrintWords
/-- a model that is made -/
def MadeM (lg : Int) (one : Bool) (qs : List (List Int)) (w : World) (e : Ending) (w' : World) : Prop := ∃ v, e = .returned (.agg #[.int .i64 lg, .bool one, v]) ∧ kq.R 42 w' w.heap.size (fun _ => True) v qs ∧ Below w.heap.size w w'
theorem cell3 {w : World} {mb : Nat} {a b c : Value} {t : Nat} (h : w.heap[mb]? = some (.cells #[a, b, c] t (0, 0))) : (w.cell? ⟨mb, 0, none⟩ = some a ∧ w.cell? ⟨mb, 1, none⟩ = some b ∧ w.cell? ⟨mb, 2, none⟩ = some c) ∧ (w.frozen? ⟨mb, 0, none⟩ = false ∧ w.frozen? ⟨mb, 1, none⟩ = false ∧ w.frozen? ⟨mb, 2, none⟩ = false) :=
  ⟨⟨(blk_cell h 0).trans rfl, (blk_cell h 1).trans rfl, (blk_cell h 2).trans rfl⟩, blk_frozen h 0, blk_frozen h 1, blk_frozen h 2⟩
theorem sizeModel : (Try.prog.info? 24).map (·.size) = some 3 := by kernel_rfl
/-- a row of one list -/
theorem kq_one {w : World} {base : Nat} {v : Value} {q : List Int} (h : (Kd.int .i64).R 3 w base (fun _ => True) v q) (hb : base ≤ w.heap.size) : kq.R 42 (w.alloc (.cells #[v] 42)) base (fun k => base ≤ k) (.slice (some ⟨w.heap.size, 0, none⟩) 1 1) [q] := by
  have hne : ∀ k, v.ownBlock = some k → base ≤ k ∧ k < w.heap.size := fun k hk => ((Kd.R_bound h).1 k hk).2.imp id (fun x => x.1)
  refine ⟨fun k hk => by cases hk; exact hb, [v], ⟨rfl, .inr ⟨w.heap.size, 1, #[v], rfl, hb, blk_new w _, Nat.le_refl _, by unfold maxLen; omega, rfl, rfl⟩⟩, rfl, fun j p hj => ?_⟩
  have hj0 : j = 0 := by
    rcases Nat.eq_zero_or_pos j with e | e
    · exact e
    · rw [List.getElem?_eq_none (by simp; omega)] at hj; cases hj
  subst hj0
  cases hj
  refine ⟨v, rfl, Kd.R_alloc (Kd.R_mono (Kd.R_tight rfl h) (fun k hk => ⟨(hne k hk.symm).1, fun e => ?_⟩)) _⟩
  have := (hne k hk.symm).2
  have h2 : k = w.heap.size := Option.some.inj e
  omega
theorem zero_model {w w4 w5 : World} {Aq : Option Addr} {cq : Nat} {q : List Int} (hb : Below w.heap.size w w5) (h4 : w.heap.size < w4.heap.size) (h45 : w4.heap.size ≤ w5.heap.size) (hk : w5.heap[w.heap.size]? = some (.cells #[.int .i64 0, .bool false, .slice none 0 0] 24 (0, 0))) (hq : (Kd.int .i64).R 3 w5 w4.heap.size (fun _ => True) (.slice Aq q.length cq) q) :
    ((w5.alloc (.cells #[.slice Aq q.length cq] 42)).cell? ⟨w.heap.size, 0, none⟩ = some (.int .i64 0) ∧ (w5.alloc (.cells #[.slice Aq q.length cq] 42)).cell? ⟨w.heap.size, 1, none⟩ = some (.bool false) ∧ (w5.alloc (.cells #[.slice Aq q.length cq] 42)).cell? ⟨w.heap.size, 2, none⟩ = some (.slice none 0 0)) ∧
    ((w5.alloc (.cells #[.slice Aq q.length cq] 42)).frozen? ⟨w.heap.size, 0, none⟩ = false ∧ (w5.alloc (.cells #[.slice Aq q.length cq] 42)).frozen? ⟨w.heap.size, 1, none⟩ = false ∧ (w5.alloc (.cells #[.slice Aq q.length cq] 42)).frozen? ⟨w.heap.size, 2, none⟩ = false) ∧
    ∀ r : Nat, ((((w5.alloc (.cells #[.slice Aq q.length cq] 42)).setCell ⟨w.heap.size, 0, none⟩ (.int .i64 r)).setCell ⟨w.heap.size, 1, none⟩ (.bool true)).setCell ⟨w.heap.size, 2, none⟩ (.slice (some ⟨w5.heap.size, 0, none⟩) 1 1)).heap[w.heap.size]? = some (.cells #[.int .i64 r, .bool true, .slice (some ⟨w5.heap.size, 0, none⟩) 1 1] 24 (0, 0)) ∧ MadeM r true [q] w (.returned (.agg #[.int .i64 r, .bool true, .slice (some ⟨w5.heap.size, 0, none⟩) 1 1])) ((((w5.alloc (.cells #[.slice Aq q.length cq] 42)).setCell ⟨w.heap.size, 0, none⟩ (.int .i64 r)).setCell ⟨w.heap.size, 1, none⟩ (.bool true)).setCell ⟨w.heap.size, 2, none⟩ (.slice (some ⟨w5.heap.size, 0, none⟩) 1 1)) := by
  have hk6 := blk_alloc hk (.cells #[.slice Aq q.length cq] 42)
  have h5 := hb.size
  obtain ⟨a, b⟩ := cell3 hk6
  refine ⟨a, b, fun r => ⟨?_, _, rfl, ?_, (((hb.alloc h5 _).setCell (Nat.le_refl _) _).setCell (Nat.le_refl _) _).setCell (Nat.le_refl _) _⟩⟩
  · rw [blk_set (blk_set (blk_set hk6 0 _) 1 _) 2]; rfl
  · have h1 : kq.R 42 (w5.alloc (.cells #[.slice Aq q.length cq] 42)) w.heap.size (fun b => b ≠ w.heap.size) (.slice (some ⟨w5.heap.size, 0, none⟩) 1 1) [q] :=
      Kd.R_mono (Kd.R_lower (kq_one hq h45) (Nat.le_of_lt h4)) (fun k hk => by omega)
    exact Kd.R_mono (Kd.R_far (p := ⟨w.heap.size, 2, none⟩) (Kd.R_far (p := ⟨w.heap.size, 1, none⟩) (Kd.R_far (p := ⟨w.heap.size, 0, none⟩) h1 (fun k hk => hk) _) (fun k hk => hk) _) (fun k hk => hk) _) (fun _ _ => trivial)
set_option maxRecDepth 100000 in
set_option maxHeartbeats 1000000 in
theorem rZero_any (A : Option Addr) (cp : Nat) (b : List Int) (w : World) (hr : (Kd.int .u8).C w A b.length b) (hc : b.length ≤ cp) (hb : Bytes b) (hl : b.length ≤ 1000000) (h0 : 0 < b.length) :
    Calls Try.prog 42 #[.slice A b.length cp] w (MadeM (zeroR b) true [zeroQ b] w) := by
  obtain ⟨W1, hW1⟩ : ∃ W1, W1 = w.alloc (.cells #[.int .i64 0, .bool false, .slice none 0 0] 24) := ⟨_, rfl⟩
  have hb1 : Below w.heap.size w W1 := by rw [hW1]; exact (Below.refl w.heap.size w).alloc (Nat.le_refl _) _
  have hk1 : W1.heap[w.heap.size]? = some (.cells #[.int .i64 0, .bool false, .slice none 0 0] 24 (0, 0)) := by rw [hW1]; exact blk_new _ _
  have HB1 := Lib.hid hb1
  have HK1 := Lib.hid hk1
  have HR := Lib.hid hr
  have HX := Lib.hid (And.intro hc (And.intro hb (And.intro hl h0)))
  clear hb1 hk1 hr hc hb hl h0
  go_enter Try.func42, Try.ntmps42
  go_wp2_with fail
  rw [← hW1]
  clear hW1
  refine (rOf_any A cp b W1 (Kd.C_below HR.out HB1.out) HX.out.1 HX.out.2.1 HX.out.2.2.1).mono ?_
  rintro e w2 ⟨v, rfl, hv, hb2⟩
  obtain ⟨Ah, ch, rfl⟩ := Kd.R_slice hv
  have HV := Lib.hid (Kd.R_reads' hv).2
  have HB2 : Hid (Below w.heap.size w w2) := HB1.out.trans (hb2.mono HB1.out.size)
  have HK2 := Lib.hid (blk_below HK1.out hb2)
  clear hv hb2
  go_wp2_with fail
  refine (rMany_any Ah ch (histL b) w2 HV.out.2 HV.out.1 (by unfold histL; rw [mapR_len]; omega)).mono ?_
  rintro e w3 ⟨rfl, hb3⟩
  have HB3 : Hid (Below w.heap.size w w3) := HB2.out.trans (hb3.mono HB2.out.size)
  have HK3 := Lib.hid (blk_below HK2.out hb3)
  have HV3 : Hid ((Kd.int .i64).C w3 Ah (histL b).length (histL b)) := Kd.C_below HV.out.2 hb3
  clear hb3
  go_wp2_with fail
  refine (rPick_any b.length (manyC (histL b)) 11 w3 (by have := HX.out.2.2.1; omega) (by have := manyC_le (histL b); omega)).mono ?_
  rw [(zeroR_ok b).1]
  rintro e w4 ⟨rfl, hb4⟩
  have HB4 : Hid (Below w.heap.size w w4) := HB3.out.trans (hb4.mono HB3.out.size)
  have HK4 := Lib.hid (blk_below HK3.out hb4)
  have HV4 : Hid ((Kd.int .i64).C w4 Ah (histL b).length (histL b)) := Kd.C_below HV3.out hb4
  clear hb4
  go_wp2_with fail
  refine (rCounts_any Ah ch (histL b) (zeroR b) w4 HV4.out HV.out.1 (zero_can HX.out.2.1 HX.out.2.2.1 HX.out.2.2.2)).mono ?_
  rintro e w5 ⟨vq, rfl, hq, hb5⟩
  have HB5 : Hid (Below w.heap.size w w5) := HB4.out.trans (hb5.mono HB4.out.size)
  have HK5 := Lib.hid (blk_below HK4.out hb5)
  have H45 := Lib.hid hb5.size
  have HQ : Hid ((Kd.int .i64).R 3 w5 w4.heap.size (fun _ => True) vq (zeroQ b)) := hq
  clear hb5 hq
  obtain ⟨Aq, cq, rfl⟩ := Kd.R_slice HQ.out
  have HF := Lib.hid (zero_model HB5.out (blk_lt HK4.out) H45.out HK5.out HQ.out)
  obtain ⟨⟨m0, m1, m2⟩, ⟨f0, f1, f2⟩, HFE⟩ := HF.out
  have HE := Lib.hid (HFE (zeroR b))
  clear HFE
  go_wp2_with fail
  refine bodyPost_ret ?_ rfl HE.out.2
  exact results_cell_row (fn := Try.f42) (p := 2) (ty := 24) rfl _ _ _ _ _ _ _ rfl HE.out.1 Try.underlying24 rfl sizeModel
end Go.Proofs.Ytfnobinenolhhaa
namespace Go.Proofs.Ytfnobinenolhhaa
open Go.RowKit Go.IntWalk Go.Proofs.YtfnobinenolhhaaW.PrintWords
theorem infoInts : (Try.prog.info? 42).map (fun i => (i.zero, i.size, i.bytes)) = some (some (.slice none 0 0), 1, 24) := by kernel_rfl
theorem made_ints (n : Nat) (hn : n ≤ 1000000) (w : World) : (Instr.makeSlice 22 (.int .i64 n) (.int .i64 n)).run Try.prog w = .ok (.slice (some ⟨w.heap.size, 0, none⟩) n n) (w.alloc (.cells (madeCells #[.slice none 0 0] n) 42)) := by
  obtain ⟨i0, hi, hzz⟩ := Option.map_eq_some_iff.1 infoInts
  simp only [Prod.mk.injEq] at hzz
  obtain ⟨hz0, hz1, hz2⟩ := hzz
  have hr := run_make (P := Try.prog) w 22 42 i0 (.slice none 0 0) Try.underlying22 hi hz0 .i64 .i64 (n : Int) (n : Int) (by omega) (by omega) (by rw [hz2]; omega) (by omega)
  rw [hz1] at hr
  simpa [Value.cells] using hr
theorem below_al {w w' : World} (h : Below w.heap.size w w') (o : Obj) : Below w.heap.size w (w'.alloc o) := h.alloc h.size o
theorem below_dr {w w' : World} (h : Below w.heap.size w w') : Below w.heap.size w w'.drew := h.drew
theorem below_tr {w w1 w2 : World} (h : Below w.heap.size w w1) (k : Below w1.heap.size w1 w2) : Below w.heap.size w w2 := h.trans (k.mono h.size)
theorem below_ne2 {w w1 w2 : World} (h : Below w.heap.size w w1) (k : Below w1.heap.size w1 w2) : Below w.heap.size w w2 := h.trans (k.mono h.size)
theorem below_s3 {w w' : World} (h : Below w.heap.size w w') {k : Nat} (hk : w.heap.size ≤ k) (a b c : Value) : Below w.heap.size w (((w'.setCell ⟨k, 0, none⟩ a).setCell ⟨k, 1, none⟩ b).setCell ⟨k, 2, none⟩ c) := ((h.setCell hk a).setCell hk b).setCell hk c
theorem below_st {w w' : World} (h : Below w.heap.size w w') {k o : Nat} (hk : w.heap.size ≤ k) (a : Value) : Below w.heap.size w (w'.setCell ⟨k, o, none⟩ a) := h.setCell hk a
theorem kq_madeN (n : Nat) (hn : n ≤ 1000000) (W : World) (mb base : Nat) (hne : W.heap.size ≠ mb) (hb : base ≤ W.heap.size) : kq.R 42 (W.alloc (.cells (madeCells #[.slice none 0 0] n) 42)) base (fun k => k ≠ mb) (.slice (some ⟨W.heap.size, 0, none⟩) n n) (List.replicate n []) := by
  have hr := Kd.reps_made (R := kq.M (W.alloc (.cells (madeCells #[.slice none 0 0] n) 42)) base (fun k => k ≠ mb ∧ some k ≠ (Value.slice (some ⟨W.heap.size, 0, none⟩) n n).ownBlock)) (z := .slice none 0 0) (size := 1) (z0 := ([] : List Int)) rfl Nat.one_pos ⟨.slice none 0 0, rfl, Kd.R_nil _ _ _ _ _⟩ n
  have e : (Value.slice none 0 0).cells = #[.slice none 0 0] := rfl
  rw [e, Nat.mul_one] at hr
  refine ⟨fun k hk => by cases hk; exact hne, _, ⟨?_, .inr ⟨W.heap.size, n, madeCells #[.slice none 0 0] n, by simp, hb, blk_new W _, by simp, by unfold maxLen; omega, ?_, ?_⟩⟩, hr⟩
  · simp [size_madeCells]; exact (Nat.mul_one n).symm
  · rw [size_madeCells]; exact (Nat.mul_one n).symm
  · rw [List.length_replicate]; exact List.take_of_length_le (by simp [size_madeCells]; exact Nat.le_of_eq (Nat.mul_one n).symm)
theorem kq_made (W : World) (mb base : Nat) (hne : W.heap.size ≠ mb) (hb : base ≤ W.heap.size) : kq.R 42 (W.alloc (.cells (madeCells #[.slice none 0 0] 256) 42)) base (fun k => k ≠ mb) (.slice (some ⟨W.heap.size, 0, none⟩) 256 256) (List.replicate 256 []) := kq_madeN 256 (by omega) W mb base hne hb
theorem kq_made1 (W : World) (o : Obj) (mb base : Nat) (hne : W.heap.size + 1 ≠ mb) (hb : base ≤ W.heap.size + 1) : kq.R 42 ((W.alloc o).alloc (.cells (madeCells #[.slice none 0 0] 256) 42)) base (fun k => k ≠ mb) (.slice (some ⟨W.heap.size + 1, 0, none⟩) 256 256) (List.replicate 256 []) := by
  have e : (W.alloc o).heap.size = W.heap.size + 1 := by simp
  have := kq_made (W.alloc o) mb base (by rw [e]; exact hne) (by rw [e]; exact hb)
  rw [e] at this; exact this
theorem kq_made3 (W : World) (m mb base : Nat) (x y z : Value) (hne : W.heap.size ≠ mb) (hb : base ≤ W.heap.size) : kq.R 42 ((((W.setCell ⟨m, 0, none⟩ x).setCell ⟨m, 1, none⟩ y).setCell ⟨m, 2, none⟩ z).alloc (.cells (madeCells #[.slice none 0 0] 256) 42)) base (fun k => k ≠ mb) (.slice (some ⟨W.heap.size, 0, none⟩) 256 256) (List.replicate 256 []) := by
  have e : (((W.setCell ⟨m, 0, none⟩ x).setCell ⟨m, 1, none⟩ y).setCell ⟨m, 2, none⟩ z).heap.size = W.heap.size := by simp [World.setCell]
  have := kq_made (((W.setCell ⟨m, 0, none⟩ x).setCell ⟨m, 1, none⟩ y).setCell ⟨m, 2, none⟩ z) mb base (by rw [e]; exact hne) (by rw [e]; exact hb)
  rw [e] at this; exact this
theorem blk_new1 (W : World) (a o : Obj) : ((W.alloc a).alloc o).heap[W.heap.size + 1]? = some o := by
  have := blk_new (W.alloc a) o
  rw [show (W.alloc a).heap.size = W.heap.size + 1 by simp] at this; exact this
theorem blk_set3 {w : World} {mb : Nat} {t : Nat} {a b c : Value} (h : w.heap[mb]? = some (.cells #[a, b, c] t (0, 0))) (x y z : Value) : (((w.setCell ⟨mb, 0, none⟩ x).setCell ⟨mb, 1, none⟩ y).setCell ⟨mb, 2, none⟩ z).heap[mb]? = some (.cells #[x, y, z] t (0, 0)) := by
  rw [blk_set (blk_set (blk_set h 0 _) 1 _) 2]; rfl
theorem R_far3 {α : Type} {d : Kd α} {e : Nat} {w : World} {base mb : Nat} {v : Value} {xs : List α} (h : d.R e w base (fun k => k ≠ mb) v xs) (x y z : Value) : d.R e (((w.setCell ⟨mb, 0, none⟩ x).setCell ⟨mb, 1, none⟩ y).setCell ⟨mb, 2, none⟩ z) base (fun k => k ≠ mb) v xs :=
  Kd.R_far (p := ⟨mb, 2, none⟩) (Kd.R_far (p := ⟨mb, 1, none⟩) (Kd.R_far (p := ⟨mb, 0, none⟩) h (fun _ hk => hk) x) (fun _ hk => hk) y) (fun _ hk => hk) z
theorem blk_dr {w : World} {g : Nat} {o : Obj} (h : w.heap[g]? = some o) : w.drew.heap[g]? = some o := h
/-- a list is put into a row of lists -/
theorem kq_put {e : TypeId} {W : World} {base g n cap : Nat} {ok okp : Nat → Prop} {xs : List (List Int)} {v : Value} {x : List Int} (h : kq.R e W base ok (.slice (some ⟨g, 0, none⟩) n cap) xs) (i : Nat) (hi : i < n) (hq : (Kd.int .i64).R 3 W base okp v x) (hokp : ∀ k, okp k → ok k ∧ k ≠ g) :
    kq.R e (W.setCell ⟨g, i, none⟩ v) base ok (.slice (some ⟨g, 0, none⟩) n cap) (xs.set i x) := by
  obtain ⟨c, hcl, _, hcc, _⟩ := Kd.R_elem h [] (i : Int) (by omega) (by omega)
  have hs : kq.sz = 1 := rfl
  have := (Kd.R_seg h (i : Int) (by omega) (by omega) (seg := [v]) (j := 0) (x' := x) (okp := okp) hcl hcc (by rw [hs]; simp) ⟨v, by rw [List.drop_of_length_le (by rw [hcl, hs]; simp)]; simp, hq⟩ hokp).1
  simp only [Int.toNat_natCast, hs, Nat.mul_one, Nat.add_zero] at this
  exact this
def firstTo (b : List Int) (i : Nat) : List (List Int) := (List.range 256).map (fun (c : Nat) => if (c : Int) ∈ (presN b 256).take i then firstQ b c else [])
theorem presN_get (b : List Int) {i : Nat} (h : i < (presN b 256).length) : ∃ c : Nat, (presN b 256).getD i 0 = c ∧ c < 256 ∧ 0 < (pickedL b (c : Int)).length := by
  have hm := getD_mem h
  obtain ⟨z, hz⟩ : ∃ z, z = (presN b 256).getD i 0 := ⟨_, rfl⟩
  rw [← hz] at hm ⊢
  unfold presN at hm
  obtain ⟨c, hc, rfl⟩ := List.mem_map.1 hm
  obtain ⟨h1, h2⟩ := List.mem_filter.1 hc
  exact ⟨c, rfl, List.mem_range.1 h1, by simpa using h2⟩
theorem firstTo_zero (b : List Int) : firstTo b 0 = List.replicate 256 [] := by
  unfold firstTo
  rw [← List.length_range (n := 256), ← List.map_const', List.length_range]
  exact List.map_congr_left (fun c _ => by rw [if_neg (by simp)])
theorem firstTo_succ (b : List Int) {i c : Nat} (h : i < (presN b 256).length) (hc : (presN b 256).getD i 0 = (c : Int)) : (firstTo b i).set c (firstQ b c) = firstTo b (i + 1) := by
  have e : (presN b 256).take (i + 1) = (presN b 256).take i ++ [(c : Int)] := by
    rw [List.take_succ_eq_append_getElem h, ← hc, List.getD_eq_getElem?_getD, List.getElem?_eq_getElem h]; rfl
  unfold firstTo
  apply List.ext_getElem
  · simp
  · intro k h1 h2
    rw [List.getElem_set]
    simp only [List.getElem_map, List.getElem_range, e, List.mem_append, List.mem_singleton]
    by_cases hk : c = k
    · subst hk; rw [if_pos rfl, if_pos (.inr rfl)]
    · rw [if_neg hk]
      by_cases h3 : (k : Int) ∈ (presN b 256).take i
      · rw [if_pos h3, if_pos (.inl h3)]
      · rw [if_neg h3, if_neg (fun x => x.elim h3 (fun y => by omega))]
theorem firstTo_all (b : List Int) : firstTo b (presN b 256).length = firstL b := by
  unfold firstTo firstL
  refine List.map_congr_left (fun c hc => ?_)
  rw [List.take_length]
  by_cases h : (c : Int) ∈ presN b 256
  · rw [if_pos h]
  · rw [if_neg h]
    unfold firstQ
    rw [if_neg (fun h2 => h ?_)]
    unfold presN
    exact List.mem_map.2 ⟨c, List.mem_filter.2 ⟨hc, by simpa using h2⟩, rfl⟩
structure FirstRel (b : List Int) (W1 : World) (mb g i : Nat) (w : World) : Prop where
  blk : w.heap[mb]? = some (.cells #[.int .i64 (firstR b), .bool false, .slice (some ⟨g, 0, none⟩) 256 256] 24 (0, 0))
  row : kq.R 42 w W1.heap.size (fun k => k ≠ mb) (.slice (some ⟨g, 0, none⟩) 256 256) (firstTo b i)
  below : Below W1.heap.size W1 w
def StartM (lg : Int) (w : World) (s3 : Value) (wx : World) : Prop := ∃ mb g : Nat, s3 = .pointer (some ⟨mb, 0, none⟩) ∧ w.heap.size ≤ mb ∧ w.heap.size ≤ g ∧ mb ≠ g ∧ wx.heap[mb]? = some (.cells #[.int .i64 lg, .bool false, .slice (some ⟨g, 0, none⟩) 256 256] 24 (0, 0)) ∧
  kq.R 42 wx w.heap.size (fun k => k ≠ mb) (.slice (some ⟨g, 0, none⟩) 256 256) (List.replicate 256 []) ∧ Below w.heap.size w wx
theorem kq_cell {e : TypeId} {W : World} {base g n cap : Nat} {ok : Nat → Prop} {xs : List (List Int)} (h : kq.R e W base ok (.slice (some ⟨g, 0, none⟩) n cap) xs) (i : Nat) (hi : i < n) : (∃ u, W.cell? ⟨g, i, none⟩ = some u) ∧ W.frozen? ⟨g, i, none⟩ = false := by
  obtain ⟨c, hcl, hm, hcc, hf⟩ := Kd.R_elem h [] (i : Int) (by omega) (by omega)
  obtain ⟨v, rfl, _⟩ := hm
  have h1 := hcc 0 v rfl
  have h2 := hf 0
  have hs : kq.sz = 1 := rfl
  simp only [Int.toNat_natCast, hs, Nat.mul_one, Nat.add_zero] at h1 h2
  exact ⟨⟨v, h1⟩, h2⟩
theorem first_step {b : List Int} {W1 w5 w6 : World} {mb g i c Nb n cpp cq : Nat} {Ap Aq : Option Addr} (hi : i < (presN b 256).length) (hc : (presN b 256).getD i 0 = (c : Int)) (hc256 : c < 256) (hpk : 0 < (pickedL b (c : Int)).length) (hne : mb ≠ g) (H : FirstRel b W1 mb g i w6) (hp : (Kd.int .i64).R 3 w6 Nb (fun _ => True) (.slice Ap n cpp) (presN b 256)) (hg : g < Nb ∧ mb < Nb)
    (hq : (Kd.int .i64).R 3 w6 w5.heap.size (fun _ => True) (.slice Aq (normL (histL (pickedL b (c : Int))) (firstR b)).length cq) (normL (histL (pickedL b (c : Int))) (firstR b))) (hs : mb < w5.heap.size ∧ g < w5.heap.size) (hw : W1.heap.size ≤ w5.heap.size) :
    FirstRel b W1 mb g (i + 1) (w6.setCell ⟨g, c, none⟩ (.slice Aq (normL (histL (pickedL b (c : Int))) (firstR b)).length cq)).drew ∧ (Kd.int .i64).R 3 (w6.setCell ⟨g, c, none⟩ (.slice Aq (normL (histL (pickedL b (c : Int))) (firstR b)).length cq)).drew Nb (fun _ => True) (.slice Ap n cpp) (presN b 256) := by
  have hfq : firstQ b c = normL (histL (pickedL b (c : Int))) (firstR b) := by unfold firstQ; rw [if_pos hpk]
  refine ⟨⟨?_, ?_, ?_⟩, ?_⟩
  · exact blk_far H.blk (p := ⟨g, c, none⟩) hne _
  · rw [← firstTo_succ b hi hc, hfq]
    refine Kd.R_drew (kq_put H.row c hc256 (Kd.R_lower (Kd.R_mono (Kd.R_bound hq) (ok' := fun k => k ≠ mb ∧ k ≠ g) (fun k hk => ?_)) hw) (fun k hk => hk))
    have := hk.2.1; omega
  · exact (H.below.setCell (by have := ((Kd.R_bound H.row).1 g rfl).2.1; exact this) _).drew
  · refine Kd.R_drew (Kd.R_mono (Kd.R_far (p := ⟨g, c, none⟩) (Kd.R_bound hp) (fun k hk => ?_) _) (fun _ _ => trivial))
    have := hk.2.1; show k ≠ g; omega
theorem first_end {b : List Int} {w W1 wr : World} {mb g : Nat} (hb : Below w.heap.size w W1) (hlt : w.heap.size < W1.heap.size) (hk : wr.heap[w.heap.size]? = some (.cells #[.int .i64 0, .bool false, .slice none 0 0] 24 (0, 0))) (H : FirstRel b W1 mb g (presN b 256).length wr) :
    (((wr.setCell ⟨w.heap.size, 0, none⟩ (.int .i64 (firstR b))).setCell ⟨w.heap.size, 1, none⟩ (.bool false)).setCell ⟨w.heap.size, 2, none⟩ (.slice (some ⟨g, 0, none⟩) 256 256)).heap[w.heap.size]? = some (.cells #[.int .i64 (firstR b), .bool false, .slice (some ⟨g, 0, none⟩) 256 256] 24 (0, 0)) ∧
    MadeM (firstR b) false (firstL b) w (.returned (.agg #[.int .i64 (firstR b), .bool false, .slice (some ⟨g, 0, none⟩) 256 256])) (((wr.setCell ⟨w.heap.size, 0, none⟩ (.int .i64 (firstR b))).setCell ⟨w.heap.size, 1, none⟩ (.bool false)).setCell ⟨w.heap.size, 2, none⟩ (.slice (some ⟨g, 0, none⟩) 256 256)) := by
  refine ⟨blk_set3 hk _ _ _, _, rfl, ?_, ?_⟩
  · have h1 : kq.R 42 wr w.heap.size (fun k => k ≠ w.heap.size) (.slice (some ⟨g, 0, none⟩) 256 256) (firstL b) := by
      rw [← firstTo_all]
      exact Kd.R_mono (Kd.R_lower (Kd.R_bound H.row) (Nat.le_of_lt hlt)) (fun k hk => by have := hk.2.1; omega)
    exact Kd.R_mono (R_far3 h1 _ _ _) (fun _ _ => trivial)
  · exact (((hb.trans (H.below.mono hb.size)).setCell (Nat.le_refl _) _).setCell (Nat.le_refl _) _).setCell (Nat.le_refl _) _
theorem start_mk {lg : Int} {W1 wx : World} {mb : Nat} (g : Nat) (hd : wx.heap[mb]? = some (.cells #[.int .i64 lg, .bool false, .slice (some ⟨g, 0, none⟩) 256 256] 24 (0, 0))) (he : kq.R 42 wx W1.heap.size (fun k => k ≠ mb) (.slice (some ⟨g, 0, none⟩) 256 256) (List.replicate 256 [])) (hf : Below W1.heap.size W1 wx) (h1 : W1.heap.size ≤ mb) (h2 : W1.heap.size ≤ g) (h3 : mb ≠ g) : StartM lg W1 (.pointer (some ⟨mb, 0, none⟩)) wx := ⟨mb, g, rfl, h1, h2, h3, hd, he, hf⟩
set_option maxRecDepth 100000 in
set_option maxHeartbeats 4000000 in
theorem rFirst_any (A : Option Addr) (cp : Nat) (b : List Int) (w : World) (hr : (Kd.int .u8).C w A b.length b) (hc : b.length ≤ cp) (hb : Bytes b) (hl : b.length ≤ 1000000) :
    Calls Try.prog 43 #[.slice A b.length cp] w (MadeM (firstR b) false (firstL b) w) := by
  obtain ⟨W1, hW1⟩ : ∃ W1, W1 = w.alloc (.cells #[.int .i64 0, .bool false, .slice none 0 0] 24) := ⟨_, rfl⟩
  have hb1 : Below w.heap.size w W1 := by rw [hW1]; exact (Below.refl w.heap.size w).alloc (Nat.le_refl _) _
  have hk1 : W1.heap[w.heap.size]? = some (.cells #[.int .i64 0, .bool false, .slice none 0 0] 24 (0, 0)) := by rw [hW1]; exact blk_new _ _
  have HB1 := Lib.hid hb1
  have HK1 := Lib.hid hk1
  have HR := Lib.hid hr
  have HX := Lib.hid (And.intro hc (And.intro hb hl))
  have hmk : ∀ w : World, (Instr.makeSlice 22 (.int .i64 256) (.int .i64 256)).run Try.prog w = .ok (.slice (some ⟨w.heap.size, 0, none⟩) 256 256) (w.alloc (.cells (madeCells #[.slice none 0 0] 256) 42)) := fun w => made_ints 256 (by omega) w
  clear hb1 hk1 hr hc hb hl
  go_enter Try.func43, Try.ntmps43
  go_wp2_with fail
  rw [← hW1]
  clear hW1
  go_cut [3] (fun s3 wx => StartM (firstR b) W1 s3 wx)
  case first =>
    go_region_held3 (fun w' => Below W1.heap.size W1 w') ((first | assumption | ((repeat' (first | assumption | exact Below.refl _ _ | refine below_al ?_ _ | refine below_dr ?_ | refine below_st ?_ ?_ _)) <;> first | omega | (simp; done) | (simp; omega))))
      (first
        | (go_at_call 73; refine (rWidest_any A cp b _ (Kd.C_below HR.out (below_tr HB1.out (by first | assumption | exact (Below.refl _ _).drew | exact below_al (by assumption) _ | exact below_dr (by assumption)))) HX.out.1 HX.out.2.1 HX.out.2.2).mono ?_; rintro e w2 ⟨rfl, hb2⟩; have hS2 := below_ne2 (by first | assumption | exact (Below.refl _ _).drew | exact below_al (by assumption) _ | exact below_dr (by assumption)) hb2; obtain ⟨hc2, hf2⟩ := bcell hb2; have hz2 := hb2.size; have hy2 := hS2.size; (try have hq2 : W1.heap.size < w2.heap.size := by (have := hb2.size; simp at this; omega)); (try have hp2 : W1.heap.size + 1 < w2.heap.size := by (have := hb2.size; simp at this; omega)))
        | (go_at_call 70; refine (rPick_any b.length (widN b 256) 9 _ (by have := HX.out.2.2; omega) (by have := widN_le b 256; omega)).mono ?_; rw [(firstR_ok b).1]; rintro e w3 ⟨rfl, hb3⟩; have hS3 := below_ne2 (by first | assumption | exact below_al (by assumption) _ | exact below_dr (by assumption)) hb3; obtain ⟨hc3, hf3⟩ := bcell hb3; have hz3 := hb3.size; have hy3 := hS3.size; (try have hq3 : w2.heap.size < w3.heap.size := by (have := hb3.size; simp at this; omega)); (try have hp3 : w2.heap.size + 1 < w3.heap.size := by (have := hb3.size; simp at this; omega)); (try have ho3 : W1.heap.size < w3.heap.size := by omega); (try have hn3 : W1.heap.size + 1 < w3.heap.size := by omega)))
    all_goals
      go_wp2_with fail
      go_meet
      refine' start_mk _ ?_ ?_ ?_ ?_ ?_ ?_
      rotate_left 1
      · repeat' (with_reducible (first | exact blk_new _ _ | exact blk_new1 _ _ _ | refine blk_set3 (a := .int .i64 0) (b := .bool false) (c := .slice none 0 0) ?_ _ _ _ | refine blk_dr ?_ | refine blk_below ?_ hb3 | refine blk_below ?_ hb2 | refine blk_alloc ?_ _))
      · repeat' (with_reducible (first | refine kq_made _ _ _ ?_ ?_ | refine kq_made1 _ _ _ _ ?_ ?_ | refine kq_made3 _ _ _ _ _ _ _ ?_ ?_ | refine R_far3 ?_ _ _ _ | refine Kd.R_drew ?_ | refine Kd.R_below ?_ hb3 | refine Kd.R_below ?_ hb2 | refine Kd.R_alloc ?_ _))
        all_goals omega
      · assumption
      all_goals omega
  case rest =>
    obtain ⟨mb, g, rfl, hmb, hg, hne, hblk, hrow, hbl⟩ := hcut
    have HP := Lib.hid (And.intro hmb (And.intro hg hne))
    have HF : Hid (FirstRel b W1 mb g 0 wc) := ⟨hblk, by rw [firstTo_zero]; exact hrow, hbl⟩
    clear hmb hg hne hblk hrow hbl
    go_wp2_with fail
    refine (rPres_any A cp b wc (Kd.C_below HR.out (below_tr HB1.out HF.out.below)) HX.out.1 HX.out.2.1 HX.out.2.2).mono ?_
    rintro e w4 ⟨vp, rfl, hvp, hb4⟩
    obtain ⟨Ap, cpp, rfl⟩ := Kd.R_slice hvp
    have hgw : g < wc.heap.size := ((Kd.R_bound HF.out.row).1 g rfl).2.2.1
    have HV := Lib.hid (And.intro hvp (And.intro hgw (blk_lt HF.out.blk)))
    have H4 : Hid (FirstRel b W1 mb g 0 w4) := ⟨blk_below HF.out.blk hb4, Kd.R_below HF.out.row hb4, HF.out.below.trans (hb4.mono HF.out.below.size)⟩
    have HN : Hid ((presN b 256).length ≤ 256) := presN_len b 256
    have hn256 := HN.out
    obtain ⟨Nb, hNb⟩ : ∃ Nb, Nb = wc.heap.size := ⟨_, rfl⟩
    rw [← hNb] at HV
    clear hvp hb4 HF hgw hNb
    go_wp2_with fail
    go_loopw [5] (fun kv wr => ∃ (i : Nat), kv = .int .i64 i ∧ i ≤ (presN b 256).length ∧ Hid (FirstRel b W1 mb g i wr ∧ (Kd.int .i64).R 3 wr Nb (fun _ => True) (.slice Ap (presN b 256).length cpp) (presN b 256))) (fun kv _ => (presN b 256).length - (intOf kv).toNat)
    case atStart => exact ⟨0, rfl, by omega, H4.out, HV.out.1⟩
    case round =>
      obtain ⟨i, rfl, hi, H⟩ := hrel
      by_cases hlt : i < (presN b 256).length
      · obtain ⟨ad, rfl, hcx⟩ := ints_get (Kd.R_reads' H.out.2).2.2 i hlt
        obtain ⟨c, hc, hc256, hpk⟩ := presN_get b hlt
        rw [hc] at hcx
        obtain ⟨⟨m0, m1, m2⟩, _⟩ := cell3 H.out.1.blk
        have HC := Lib.hid (And.intro hc (And.intro hc256 (And.intro hpk hlt)))
        have hiI : (i : Int) < ((presN b 256).length : Int) := by omega
        clear hc hpk
        go_wp2_with fail
        go_region_held3 (fun w' => w'.cell? (ad.add i) = some (.int .i64 c) ∧ w'.cell? ⟨mb, 0, none⟩ = some (.int .i64 (firstR b)) ∧ w'.cell? ⟨mb, 2, none⟩ = some (.slice (some ⟨g, 0, none⟩) 256 256)) ((repeat' apply And.intro) <;> first | assumption)
          (first
            | (go_at_call 75; refine (rFor_any A cp b _ (Kd.C_below HR.out (below_tr HB1.out H.out.1.below.drew)) HX.out.1 HX.out.2.1 HX.out.2.2 (c : Int)).mono ?_; rintro e w5 ⟨vf, rfl, hvf, hb5⟩; obtain ⟨Af, cf, rfl⟩ := Kd.R_slice hvf; have h1 := pw_cell_below (w := wr) ⟨hb5.os, hb5.tape, hb5.output, hb5.size, hb5.block⟩ hcx; have h2 := pw_cell_below (w := wr) ⟨hb5.os, hb5.tape, hb5.output, hb5.size, hb5.block⟩ m0; have h3 := pw_cell_below (w := wr) ⟨hb5.os, hb5.tape, hb5.output, hb5.size, hb5.block⟩ m2; have HVF := Lib.hid (And.intro (Kd.R_reads' hvf).2 hb5); clear hvf hb5)
            | (go_at_call 72; refine (rCounts_any Af cf (histL (pickedL b (c : Int))) (firstR b) w5 HVF.out.1.2 HVF.out.1.1 (first_can HX.out.2.1 HX.out.2.2 hc256 HC.out.2.2.1)).mono ?_; rintro e w6 ⟨vq, rfl, hvq, hb6⟩; obtain ⟨Aq, cq, rfl⟩ := Kd.R_slice hvq; have k1 := pw_cell_below hb6 h1; have k2 := pw_cell_below hb6 h2; have k3 := pw_cell_below hb6 h3; have HVQ := Lib.hid (And.intro hvq hb6); clear hvq hb6))
        have hb16 : Below wr.heap.size wr w6 := below_tr (w1 := w5) (by have hb := HVF.out.2; exact ⟨hb.os, hb.tape, hb.output, hb.size, hb.block⟩) HVQ.out.2
        have H6 : Hid (FirstRel b W1 mb g i w6 ∧ (Kd.int .i64).R 3 w6 Nb (fun _ => True) (.slice (some ad) (presN b 256).length cpp) (presN b 256)) := ⟨⟨blk_below H.out.1.blk hb16, Kd.R_below H.out.1.row hb16, H.out.1.below.trans (hb16.mono H.out.1.below.size)⟩, Kd.R_below H.out.2 hb16⟩
        have hs5 : Hid (mb < w5.heap.size ∧ g < w5.heap.size) := by
          have h1 := blk_lt H.out.1.blk
          have h2 := ((Kd.R_bound H.out.1.row).1 g rfl).2.2.1
          have h3 : wr.heap.size ≤ w5.heap.size := HVF.out.2.size
          exact ⟨by omega, by omega⟩
        obtain ⟨⟨gv, g1⟩, g2⟩ := kq_cell H6.out.1.row c hc256
        have hcI : (c : Int) < 256 := by omega
        have HE := Lib.hid (first_step HC.out.2.2.2 HC.out.1 hc256 HC.out.2.2.1 HP.out.2.2 H6.out.1 H6.out.2 HV.out.2 HVQ.out.1 hs5.out (Nat.le_trans (H.out.1.below.size) HVF.out.2.size))
        clear hb16
        go_wp2_with fail
        go_region
        all_goals
          go_wp2_with fail
          go_roundw
          case rel => exact ⟨i + 1, by go_num, by omega, HE.out⟩
          case measure => simp [intOf]; omega
      · obtain rfl : i = (presN b 256).length := by omega
        obtain ⟨⟨m0, m1, m2⟩, ⟨f0, f1, f2⟩⟩ := cell3 H.out.1.blk
        have hkw := blk_below (blk_below HK1.out (Below.refl _ _)) H.out.1.below
        obtain ⟨⟨n0, n1, n2⟩, ⟨e0, e1, e2⟩⟩ := cell3 hkw
        have HKW := Lib.hid hkw
        clear hkw
        have HE := Lib.hid (first_end HB1.out (blk_lt HK1.out) HKW.out H.out.1)
        go_wp2_with fail
        refine bodyPost_ret ?_ rfl HE.out.2
        exact results_cell_row (fn := Try.f43) (p := 2) (ty := 24) rfl _ _ _ _ _ _ _ rfl HE.out.1 Try.underlying24 rfl sizeModel
end Go.Proofs.Ytfnobinenolhhaa
namespace Go.Proofs.Ytfnobinenolhhaa
open Go.RowKit Go.IntWalk Go.Proofs.YtfnobinenolhhaaW.PrintWords
def ofR (b : List Int) (one : Bool) : Nat := if one then zeroR b else firstR b
def ofQ (b : List Int) (one : Bool) : List (List Int) := if one then [zeroQ b] else firstL b
theorem ofM_end {w W1 wr : World} {lg : Int} {one : Bool} {qs : List (List Int)} {v : Value} (hb : Below w.heap.size w W1) (hlt : w.heap.size < W1.heap.size) (hk : W1.heap[w.heap.size]? = some (.cells #[.int .i64 0, .bool false, .slice none 0 0] 24 (0, 0))) (hv : kq.R 42 wr W1.heap.size (fun _ => True) v qs) (hw : Below W1.heap.size W1 wr) :
    (((wr.setCell ⟨w.heap.size, 0, none⟩ (.int .i64 lg)).setCell ⟨w.heap.size, 1, none⟩ (.bool one)).setCell ⟨w.heap.size, 2, none⟩ v).heap[w.heap.size]? = some (.cells #[.int .i64 lg, .bool one, v] 24 (0, 0)) ∧
    MadeM lg one qs w (.returned (.agg #[.int .i64 lg, .bool one, v])) (((wr.setCell ⟨w.heap.size, 0, none⟩ (.int .i64 lg)).setCell ⟨w.heap.size, 1, none⟩ (.bool one)).setCell ⟨w.heap.size, 2, none⟩ v) := by
  refine ⟨blk_set3 (blk_below hk hw) _ _ _, _, rfl, ?_, ?_⟩
  · have h1 : kq.R 42 wr w.heap.size (fun k => k ≠ w.heap.size) v qs :=
      Kd.R_mono (Kd.R_lower (Kd.R_bound hv) (Nat.le_of_lt hlt)) (fun k hk => by have := hk.2.1; omega)
    exact Kd.R_mono (R_far3 h1 _ _ _) (fun _ _ => trivial)
  · exact (((hb.trans (hw.mono hb.size)).setCell (Nat.le_refl _) _).setCell (Nat.le_refl _) _).setCell (Nat.le_refl _) _
set_option maxRecDepth 100000 in
set_option maxHeartbeats 1000000 in
theorem rOfM_any (A : Option Addr) (cp : Nat) (b : List Int) (one : Bool) (w : World) (hr : (Kd.int .u8).C w A b.length b) (hc : b.length ≤ cp) (hb : Bytes b) (hl : b.length ≤ 1000000) (h0 : 0 < b.length) :
    Calls Try.prog 19 #[.slice A b.length cp, .bool one] w (MadeM (ofR b one) one (ofQ b one) w) := by
  obtain ⟨W1, hW1⟩ : ∃ W1, W1 = w.alloc (.cells #[.int .i64 0, .bool false, .slice none 0 0] 24) := ⟨_, rfl⟩
  have hb1 : Below w.heap.size w W1 := by rw [hW1]; exact (Below.refl w.heap.size w).alloc (Nat.le_refl _) _
  have hk1 : W1.heap[w.heap.size]? = some (.cells #[.int .i64 0, .bool false, .slice none 0 0] 24 (0, 0)) := by rw [hW1]; exact blk_new _ _
  have HB1 := Lib.hid hb1
  have HK1 := Lib.hid hk1
  have HR := Lib.hid hr
  have HX := Lib.hid (And.intro hc (And.intro hb (And.intro hl h0)))
  have hz : ((b.length : Int) == 0) = false := by simp; intro e; subst e; simp at h0
  clear hb1 hk1 hr hc hb hl h0
  cases one with
  | true =>
    go_enter Try.func19, Try.ntmps19
    go_wp2_with fail
    rw [← hW1]
    clear hW1
    refine (rZero_any A cp b W1 (Kd.C_below HR.out HB1.out) HX.out.1 HX.out.2.1 HX.out.2.2.1 HX.out.2.2.2).mono ?_
    rintro e w2 ⟨v, rfl, hv, hb2⟩
    obtain ⟨Av, cv, rfl⟩ := Kd.R_slice hv
    obtain ⟨⟨m0, m1, m2⟩, ⟨f0, f1, f2⟩⟩ := cell3 (blk_below HK1.out hb2)
    have HE := Lib.hid (ofM_end (lg := (zeroR b : Nat)) (one := true) HB1.out (blk_lt HK1.out) HK1.out hv hb2)
    clear hv hb2
    go_wp2_with fail
    refine bodyPost_ret ?_ rfl HE.out.2
    exact results_cell_row (fn := Try.f19) (p := 4) (ty := 24) rfl _ _ _ _ _ _ _ rfl HE.out.1 Try.underlying24 rfl sizeModel
  | false =>
    go_enter Try.func19, Try.ntmps19
    go_wp2_with fail
    rw [← hW1]
    clear hW1
    refine (rFirst_any A cp b W1 (Kd.C_below HR.out HB1.out) HX.out.1 HX.out.2.1 HX.out.2.2.1).mono ?_
    rintro e w2 ⟨v, rfl, hv, hb2⟩
    obtain ⟨Av, cv, rfl⟩ := Kd.R_slice hv
    obtain ⟨⟨m0, m1, m2⟩, ⟨f0, f1, f2⟩⟩ := cell3 (blk_below HK1.out hb2)
    have HE := Lib.hid (ofM_end (lg := (firstR b : Nat)) (one := false) HB1.out (blk_lt HK1.out) HK1.out hv hb2)
    clear hv hb2
    go_wp2_with fail
    refine bodyPost_ret ?_ rfl HE.out.2
    exact results_cell_row (fn := Try.f19) (p := 4) (ty := 24) rfl _ _ _ _ _ _ _ rfl HE.out.1 Try.underlying24 rfl sizeModel
theorem of_can {b : List Int} {one : Bool} (hb : Bytes b) (hl : b.length ≤ 131072) (h0 : 0 < b.length) : canM (ofR b one) one (ofQ b one) b = true := by
  unfold canM
  rw [decide_eq_true hl, Bool.true_and]
  cases one with
  | true => exact zero_fits hb (by omega) h0
  | false => exact first_fits hb (by omega)
end Go.Proofs.Ytfnobinenolhhaa
namespace Go.Proofs.Ytfnobinenolhhaa
open Go.RowKit Go.IntWalk Go.Proofs.YtfnobinenolhhaaW.PrintWords
/-- a row that is written out -/
theorem row_lit (κ : IntKind) (e : TypeId) (W : World) (base : Nat) (ok : Nat → Prop) (hok : ok W.heap.size) (hb : base ≤ W.heap.size) (xs : List Int) (hl : xs.length ≤ 1000000) : (Kd.int κ).R e (W.alloc (.cells (xs.map (Value.int κ)).toArray e)) base ok (.slice (some ⟨W.heap.size, 0, none⟩) xs.length xs.length) xs := by
  refine Kd.R_of_own (h1 := fun _ => rfl) ⟨by simp [encs], .inr ⟨W.heap.size, xs.length, _, rfl, hb, blk_new W _, Nat.le_refl _, by unfold maxLen; omega, by simp, ?_⟩⟩ (fun k hk => by cases hk; exact hok)
  rw [Nat.mul_one, show (xs.map (Value.int κ)).toArray.toList = encs (Value.int κ) xs from rfl, List.take_of_length_le (by rw [encs_length]; exact Nat.le_refl _)]
/-- two lists of bytes, as strings -/
theorem strs_inj {a b : List Int} (ha : Bytes a) (hb : Bytes b) : ((strOfNums a).toList == (strOfNums b).toList) = decide (a = b) := by
  have e : ∀ l : List Int, (strOfNums l).toList = l.map (fun x => UInt8.ofNat x.toNat) := by
    intro l; unfold strOfNums; simp
  rw [e a, e b]
  by_cases h : a = b
  · subst h; simp
  · rw [decide_eq_false h]
    simp only [beq_eq_false_iff_ne, ne_eq]
    intro he
    apply h
    have inj : ∀ (a b : List Int), Bytes a → Bytes b → a.map (fun x => UInt8.ofNat x.toNat) = b.map (fun x => UInt8.ofNat x.toNat) → a = b := by
      intro a
      induction a with
      | nil => intro b _ _ h; cases b with
        | nil => rfl
        | cons y b => simp at h
      | cons x a ih =>
        intro b hxa hyb h
        cases b with
        | nil => simp at h
        | cons y b =>
          rw [List.map_cons, List.map_cons, List.cons.injEq] at h
          have hx := hxa x (by simp)
          have hy := hyb y (by simp)
          have h1 := congrArg UInt8.toNat h.1
          simp only [UInt8.toNat_ofNat'] at h1
          have : x = y := by omega
          rw [this, ih b (fun z hz => hxa z (by simp [hz])) (fun z hz => hyb z (by simp [hz])) h.2]
    exact inj a b ha hb he
theorem aw_facts (w : World) : Hid (
    kq.C ((((w.alloc (.cells ((madeCells #[.int .i64 0] 256).setIfInBounds 7 (.int .i64 32)) 3)).alloc (.cells #[.slice (some ⟨w.heap.size, 0, none⟩) 256 256] 42)).alloc (.cells #[.int .i64 5, .bool true, .slice (some ⟨w.heap.size + 1, 0, none⟩) 1 1] 24)).alloc (.cells #[.int .u8 7, .int .u8 7, .int .u8 7] 5)) (some ⟨w.heap.size + 1, 0, none⟩) 1 [awQ] ∧
    (Kd.int .u8).C ((((w.alloc (.cells ((madeCells #[.int .i64 0] 256).setIfInBounds 7 (.int .i64 32)) 3)).alloc (.cells #[.slice (some ⟨w.heap.size, 0, none⟩) 256 256] 42)).alloc (.cells #[.int .i64 5, .bool true, .slice (some ⟨w.heap.size + 1, 0, none⟩) 1 1] 24)).alloc (.cells #[.int .u8 7, .int .u8 7, .int .u8 7] 5)) (some ⟨w.heap.size + 1 + 1 + 1, 0, none⟩) 3 [7, 7, 7] ∧
    ((((w.alloc (.cells ((madeCells #[.int .i64 0] 256).setIfInBounds 7 (.int .i64 32)) 3)).alloc (.cells #[.slice (some ⟨w.heap.size, 0, none⟩) 256 256] 42)).alloc (.cells #[.int .i64 5, .bool true, .slice (some ⟨w.heap.size + 1, 0, none⟩) 1 1] 24)).alloc (.cells #[.int .u8 7, .int .u8 7, .int .u8 7] 5)).heap[w.heap.size + 1 + 1]? = some (.cells #[.int .i64 5, .bool true, .slice (some ⟨w.heap.size + 1, 0, none⟩) 1 1] 24 (0, 0)) ∧
    Below w.heap.size w ((((w.alloc (.cells ((madeCells #[.int .i64 0] 256).setIfInBounds 7 (.int .i64 32)) 3)).alloc (.cells #[.slice (some ⟨w.heap.size, 0, none⟩) 256 256] 42)).alloc (.cells #[.int .i64 5, .bool true, .slice (some ⟨w.heap.size + 1, 0, none⟩) 1 1] 24)).alloc (.cells #[.int .u8 7, .int .u8 7, .int .u8 7] 5))) := by
  obtain ⟨w1, h1⟩ : ∃ w1, w1 = w.alloc (.cells ((madeCells #[.int .i64 0] 256).setIfInBounds 7 (.int .i64 32)) 3) := ⟨_, rfl⟩
  have s1 : w1.heap.size = w.heap.size + 1 := by rw [h1]; simp
  have hq := made_rowK (enc := Value.int .i64) (h1 := fun _ => rfl) (0 : Int) 3 rfl 256 (by omega) w (fun _ => True) trivial w.heap.size (Nat.le_refl _)
  have hq2 := Kd.R_putn hq (7 : Int) (32 : Int)
  rw [show ((7 : Int)).toNat = 7 from rfl, World.setCell_alloc_new, ← h1, show (List.replicate 256 (0 : Int)).set 7 32 = awQ by decide +kernel] at hq2
  have hb1 : Below w.heap.size w w1 := by rw [h1]; exact (Below.refl _ _).alloc (Nat.le_refl _) _
  have hk := kq_one hq2 hb1.size
  rw [← h1]
  obtain ⟨w2, h2⟩ : ∃ w2, w2 = w1.alloc (.cells #[.slice (some ⟨w.heap.size, 0, none⟩) 256 256] 42) := ⟨_, rfl⟩
  have s2 : w2.heap.size = w.heap.size + 1 + 1 := by rw [h2]; simp [s1]
  rw [← h2] at hk ⊢
  have hb2 : Below w.heap.size w w2 := by rw [h2]; exact hb1.alloc hb1.size _
  rw [s1] at hk
  obtain ⟨w3, h3⟩ : ∃ w3, w3 = w2.alloc (.cells #[.int .i64 5, .bool true, .slice (some ⟨w.heap.size + 1, 0, none⟩) 1 1] 24) := ⟨_, rfl⟩
  have s3 : w3.heap.size = w.heap.size + 1 + 1 + 1 := by rw [h3]; simp [s2]
  have hb3 : Below w.heap.size w w3 := by rw [h3]; exact hb2.alloc hb2.size _
  have hm := blk_new w2 (.cells #[.int .i64 5, .bool true, .slice (some ⟨w.heap.size + 1, 0, none⟩) 1 1] 24)
  have hk3 := Kd.R_alloc hk (.cells #[.int .i64 5, .bool true, .slice (some ⟨w.heap.size + 1, 0, none⟩) 1 1] 24)
  rw [← h3] at hm hk3 ⊢
  rw [s2] at hm
  have hr := row_lit .u8 5 w3 w3.heap.size (fun _ => True) trivial (Nat.le_refl _) [7, 7, 7] (by decide)
  rw [s3] at hr
  exact ⟨(Kd.R_reads' (Kd.R_alloc hk3 _)).2.2, (Kd.R_reads' hr).2.2, blk_alloc hm _, hb3.alloc hb3.size _⟩
set_option maxRecDepth 100000 in
set_option maxHeartbeats 1000000 in
theorem awake_any (w : World) : Calls Try.prog 10 #[] w (Ret (.bool true) w) := by
  have hmi : ∀ w : World, (Instr.makeSlice 42 (.int .i64 256) (.int .i64 256)).run Try.prog w = .ok (.slice (some ⟨w.heap.size, 0, none⟩) 256 256) (w.alloc (.cells (madeCells #[.int .i64 0] 256) 3)) := fun w => made_i64 256 (by omega) w
  have hq := made_rowK (enc := Value.int .i64) (h1 := fun _ => rfl) (0 : Int) 3 rfl 256 (by omega) w (fun _ => True) trivial w.heap.size (Nat.le_refl _)
  obtain ⟨c1, f1⟩ := ints_cells hq 7 (by omega)
  have H := aw_facts w
  clear hq
  go_enter Try.func10, Try.ntmps10
  go_wp2_with fail
  obtain ⟨W, hW⟩ : ∃ W, W = ((((w.alloc (.cells ((madeCells #[.int .i64 0] 256).setIfInBounds 7 (.int .i64 32)) 3)).alloc (.cells #[.slice (some ⟨w.heap.size, 0, none⟩) 256 256] 42)).alloc (.cells #[.int .i64 5, .bool true, .slice (some ⟨w.heap.size + 1, 0, none⟩) 1 1] 24)).alloc (.cells #[.int .u8 7, .int .u8 7, .int .u8 7] 5)) := ⟨_, rfl⟩
  rw [← hW] at H ⊢
  clear hW c1 f1 hmi
  refine (encodeL_any 5 true (some ⟨w.heap.size + 1, 0, none⟩) 1 [awQ] (some ⟨w.heap.size + 1 + 1 + 1, 0, none⟩) 3 [7, 7, 7] W H.out.1 (by decide) H.out.2.1 (by intro x hx; simp at hx; omega) (by decide)).mono ?_
  rintro e w2 ⟨_, h2, hb2⟩
  obtain ⟨v, rfl, hv⟩ := h2 aw_can
  rw [aw_enc] at hv
  obtain ⟨Av, cv, rfl⟩ := Kd.R_slice hv
  have H2 := Lib.hid (And.intro (Kd.R_reads' hv).2 hb2)
  have hk2 := blk_below H.out.2.2.1 hb2
  obtain ⟨⟨m0, m1, m2⟩, _⟩ := cell3 hk2
  have HK2 := Lib.hid hk2
  clear h2 hv hb2 hk2
  go_wp2_with fail
  refine (decodeL_any 5 true (some ⟨w.heap.size + 1, 0, none⟩) 1 [awQ] Av cv [0, 4] 3 w2 (Kd.C_below H.out.1 H2.out.2) (by decide) H2.out.1.2 (by intro x hx; simp at hx; omega) (by decide)).mono ?_
  rw [aw_dec]
  rintro e w3 ⟨⟨v3, rfl, hv3⟩, hb3⟩
  obtain ⟨A3, c3, rfl⟩ := Kd.R_slice hv3
  have H3 := Lib.hid (And.intro (Kd.R_reads' hv3).2 hb3)
  have hk3 := blk_below HK2.out hb3
  obtain ⟨⟨n0, n1, n2⟩, _⟩ := cell3 hk3
  have hcv1 : (convert 25 9 (.slice Av 2 cv)).run Try.prog w3 = .ok (.string ⟨#[0, 4]⟩) w3 := Kd.C_string (xs := [0, 4]) Try.underlying25 Try.underlying5 Try.underlying9 (Kd.C_below H2.out.1.2 hb3)
  have hcv2 : (convert 25 9 (.slice A3 3 c3)).run Try.prog w3 = .ok (.string ⟨#[7, 7, 7]⟩) w3 := Kd.C_string (xs := [7, 7, 7]) Try.underlying25 Try.underlying5 Try.underlying9 H3.out.1.2
  have hcv3 : (convert 25 9 (.slice (some ⟨w.heap.size + 1 + 1 + 1, 0, none⟩) 3 3)).run Try.prog w3 = .ok (.string ⟨#[7, 7, 7]⟩) w3 := Kd.C_string (xs := [7, 7, 7]) Try.underlying25 Try.underlying5 Try.underlying9 (Kd.C_below (Kd.C_below H.out.2.1 H2.out.2) hb3)
  clear hv3 hb3 hk3 m0 m1 m2
  go_wp2_with fail
  refine (bitsL_any 5 true (some ⟨w.heap.size + 1, 0, none⟩) 1 [awQ] (some ⟨w.heap.size + 1 + 1 + 1, 0, none⟩) 3 [7, 7, 7] w3 (Kd.C_below (Kd.C_below H.out.1 H2.out.2) H3.out.2) (by decide) (Kd.C_below (Kd.C_below H.out.2.1 H2.out.2) H3.out.2) (by intro x hx; simp at hx; omega) (by decide)).mono ?_
  rw [aw_bits]
  rintro e w4 ⟨rfl, hb4⟩
  have H4 := Lib.hid hb4
  clear hb4
  go_wp2_with fail
  go_ret
  exact ⟨rfl, (((H.out.2.2.2.trans (H2.out.2.mono H.out.2.2.2.size))).trans (H3.out.2.mono (below_tr H.out.2.2.2 H2.out.2).size)).trans (H4.out.mono (below_tr (below_tr H.out.2.2.2 H2.out.2) H3.out.2).size)⟩
end Go.Proofs.Ytfnobinenolhhaa
namespace Go.Proofs.Ytfnobinenolhhaa
open Go.RowKit Go.IntWalk Go.Proofs.YtfnobinenolhhaaW.PrintWords
set_option maxRecDepth 100000 in
theorem same_any (A B : Option Addr) (ca cb : Nat) (a b : List Int) (w : World) (ha : (Kd.int .u8).C w A a.length a) (hb : (Kd.int .u8).C w B b.length b) (hya : Bytes a) (hyb : Bytes b) :
    Calls Try.prog 15 #[.slice A a.length ca, .slice B b.length cb] w fun e w' => e = .returned (.bool (decide (a = b))) ∧ w = w' := by
  have h1 := Kd.C_string (P := Try.prog) (c := ca) Try.underlying25 Try.underlying5 Try.underlying9 ha
  have h2 := Kd.C_string (P := Try.prog) (c := cb) Try.underlying25 Try.underlying5 Try.underlying9 hb
  rw [← strs_inj hya hyb]
  obtain ⟨x, hx⟩ : ∃ x, x = strOfNums a := ⟨_, rfl⟩
  obtain ⟨y, hy⟩ : ∃ y, y = strOfNums b := ⟨_, rfl⟩
  rw [← hx] at h1 ⊢
  rw [← hy] at h2 ⊢
  clear hx hy ha hb hya hyb
  go_enter Try.func15, Try.ntmps15
  go_wp2_with fail
  go_ret
  exact ⟨rfl, rfl⟩
theorem decGo_err {one : Bool} {qs : List (List Int)} {ps : List Int} : ∀ (n i : Nat) (la x0 x1 : Int) (left : Nat) (out : List Int), (decGo one qs ps n i la x0 x1 left out).1 ≠ 0 → (decGo one qs ps n i la x0 x1 left out).2 = []
  | 0, i, la, x0, x1, left, out => by
    simp only [decGo]; split
    · intro h; exact absurd rfl h
    · intro _; rfl
  | n + 1, i, la, x0, x1, left, out => by
    simp only [decGo]; split
    · intro _; rfl
    · split
      · intro _; rfl
      · exact decGo_err n (i + 1) _ _ _ _ _
theorem decM_err {lg : Int} {one : Bool} {qs : List (List Int)} {ps : List Int} {n : Int} (h : (decM lg one qs ps n).1 ≠ 0) : (decM lg one qs ps n).2 = [] := by
  revert h
  unfold decM
  split
  · intro _; rfl
  · split
    · intro _; rfl
    · split
      · intro _; rfl
      · exact decGo_err _ _ _ _ _ _ _
/-- a model in a variable of the call's own -/
structure MAt (mb : Nat) (lg : Int) (one : Bool) (A : Option Addr) (c : Nat) (qs : List (List Int)) (w : World) : Prop where
  blk : w.heap[mb]? = some (.cells #[.int .i64 lg, .bool one, .slice A qs.length c] 24 (0, 0))
  row : kq.C w A qs.length qs
theorem MAt.later {mb : Nat} {lg : Int} {one : Bool} {A : Option Addr} {c : Nat} {qs : List (List Int)} {w w' : World} (h : MAt mb lg one A c qs w) (hb : Below w.heap.size w w') : MAt mb lg one A c qs w' := ⟨blk_below h.blk hb, Kd.C_below h.row hb⟩
theorem MAt.new {lg : Int} {one : Bool} {A : Option Addr} {c : Nat} {qs : List (List Int)} {w w0 : World} (h : kq.R 42 w w0.heap.size (fun _ => True) (.slice A qs.length c) qs) : MAt w.heap.size lg one A c qs (w.alloc (.cells #[.int .i64 lg, .bool one, .slice A qs.length c] 24)) :=
  ⟨blk_new _ _, Kd.C_alloc (Kd.R_reads' h).2.2 _⟩
theorem ofQ_len (b : List Int) (one : Bool) : (ofQ b one).length ≤ 256 := by
  cases one with
  | true => simp [ofQ]
  | false => simp [ofQ, firstL]
set_option maxRecDepth 100000 in
set_option maxHeartbeats 2000000 in
theorem lanesOne_any (A B : Option Addr) (ca cb n : Nat) (b p : List Int) (one : Bool) (w : World) (hr : (Kd.int .u8).C w A b.length b) (hc : b.length ≤ ca) (hby : Bytes b) (hp : (Kd.int .u8).C w B p.length p) (hpy : Bytes p) (hn : n < 256) :
    Calls Try.prog 6 #[.slice A b.length ca, .bool one, .slice B p.length cb, .int .u8 n] w (Ret (.bool true) w) := by
  have HR := Lib.hid hr
  have HP := Lib.hid hp
  have HX := Lib.hid (And.intro hc (And.intro hby (And.intro hpy hn)))
  clear hr hp hc hby hpy
  by_cases h1 : b.length ≤ 60 ∧ 0 < b.length ∧ p.length ≤ 100 ∧ n ≤ 60
  · obtain ⟨h1a, h1b, h1c, h1d⟩ := h1
    have d1 : decide (60 < (b.length : Int)) = false := decide_eq_false (by omega)
    have d2 : ((b.length : Int) == 0) = false := by simp; intro e; subst e; simp at h1b
    have d3 : decide (100 < (p.length : Int)) = false := decide_eq_false (by omega)
    have d4 : decide (60 < (n : Int)) = false := decide_eq_false (by omega)
    have HL := Lib.hid (And.intro h1a (And.intro h1b (And.intro h1c h1d)))
    clear h1a h1b h1c h1d
    go_enter Try.func6, Try.ntmps6
    go_wp2_with fail
    refine (awake_any w).mono ?_
    rintro e w1 ⟨rfl, hb1⟩
    have HB1 := Lib.hid hb1
    clear hb1
    go_wp2_with fail
    refine (rOfM_any A ca b one w1 (Kd.C_below HR.out HB1.out) HX.out.1 HX.out.2.1 (by have := HL.out.1; omega) HL.out.2.1).mono ?_
    rintro e w2 ⟨v, rfl, hv, hb2⟩
    obtain ⟨Aq, cq, rfl⟩ := Kd.R_slice hv
    have HB2 := Lib.hid (below_tr HB1.out hb2)
    have HM := Lib.hid (MAt.new (lg := (ofR b one : Nat)) (one := one) hv)
    have HB3 := Lib.hid (HB2.out.alloc HB2.out.size (.cells #[.int .i64 (ofR b one), .bool one, .slice Aq (ofQ b one).length cq] 24))
    obtain ⟨mb, hmb⟩ : ∃ mb, mb = w2.heap.size := ⟨_, rfl⟩
    clear hv hb2
    go_wp2_with fail
    rw [← hmb] at HM ⊢
    obtain ⟨w3, hw3⟩ : ∃ w3, w3 = w2.alloc (.cells #[.int .i64 (ofR b one), .bool one, .slice Aq (ofQ b one).length cq] 24) := ⟨_, rfl⟩
    rw [← hw3] at HM HB3 ⊢
    clear hw3 hmb
    refine (decodeL_any (ofR b one) one Aq cq (ofQ b one) B cb p n w3 HM.out.row (by have := ofQ_len b one; omega) (Kd.C_below HP.out HB3.out) HX.out.2.2.1 (by have := HL.out.2.2.1; omega)).mono ?_
    rintro e w4 ⟨⟨v4, rfl, hv4⟩, hb4⟩
    obtain ⟨A4, c4, rfl⟩ := Kd.R_slice hv4
    have HB4 := Lib.hid (below_tr HB3.out hb4)
    have HM4 := Lib.hid (HM.out.later hb4)
    have HV4 := Lib.hid (Kd.R_reads' hv4).2
    clear hv4 hb4
    obtain ⟨k, hk⟩ : ∃ k, k = (decM (ofR b one) one (ofQ b one) p n).1 := ⟨_, rfl⟩
    obtain ⟨y, hy⟩ : ∃ y, y = (decM (ofR b one) one (ofQ b one) p n).2 := ⟨_, rfl⟩
    rw [← hk]
    rw [← hy] at HV4 ⊢
    obtain ⟨⟨m0, m1, m2⟩, _⟩ := cell3 HM4.out.blk
    by_cases hz : k = 0
    · have hD : decM (ofR b one) one (ofQ b one) p n = (0, y) := by rw [hy, ← hz, hk]
      obtain ⟨e1, e2, e3, e4⟩ := enc_of_dec HX.out.2.2.1 hD
      have HE := Lib.hid (And.intro e1 (And.intro e2 (And.intro e3 e4)))
      have hzb : (k == 0) = true := by rw [hz]; rfl
      have hlb : ((y.length : Int) == (n : Int)) = true := by rw [e3]; simp
      subst hz
      clear hk hy hD e1 e2 e3 e4
      go_wp2_with fail
      refine (encodeL_any (ofR b one) one Aq cq (ofQ b one) A4 c4 y w4 HM4.out.row (by have := ofQ_len b one; omega) HV4.out.2 HE.out.2.1 (by have := HE.out.2.2.1; have := HX.out.2.2.2; omega)).mono ?_
      rintro e w5 ⟨_, h5, hb5⟩
      obtain ⟨v5, rfl, hv5⟩ := h5 HE.out.1
      rw [← HE.out.2.2.2] at hv5
      obtain ⟨A5, c5, rfl⟩ := Kd.R_slice hv5
      have HB5 := Lib.hid (below_tr HB4.out hb5)
      have HV5 := Lib.hid (Kd.R_reads' hv5).2
      clear hv5 hb5 h5
      go_wp2_with fail
      refine (same_any A5 B c5 cb p p w5 HV5.out.2 (Kd.C_below HP.out HB5.out) HX.out.2.2.1 HX.out.2.2.1).mono ?_
      rw [decide_eq_true rfl]
      rintro e w6 ⟨rfl, rfl⟩
      go_wp2_with fail
      go_ret
      exact ⟨rfl, HB5.out⟩
    · have hy0 : y = [] := by rw [hy]; exact decM_err (by rw [← hk]; exact hz)
      have hzb : (k == 0) = false := by simpa using hz
      clear hy
      subst hy0
      clear hk hz
      go_wp2_with fail
      go_ret
      exact ⟨rfl, HB4.out⟩
  · have tail : ∀ d1 d2 d3 d4 : Bool, decide (60 < (b.length : Int)) = d1 → ((b.length : Int) == 0) = d2 → decide (100 < (p.length : Int)) = d3 → decide (60 < (n : Int)) = d4 → (d1 || d2 || d3 || d4) = true →
        Calls Try.prog 6 #[.slice A b.length ca, .bool one, .slice B p.length cb, .int .u8 n] w (Ret (.bool true) w) := by
      intro d1 d2 d3 d4 e1 e2 e3 e4 h
      clear h1
      cases d1 <;> cases d2 <;> cases d3 <;> cases d4 <;> first
        | (exfalso; revert h; decide)
        | (clear h
           go_enter Try.func6, Try.ntmps6
           go_wp2_with fail
           refine (awake_any w).mono ?_
           rintro e w1 ⟨rfl, hb1⟩
           have HB1 := Lib.hid hb1
           clear hb1
           go_wp2_with fail
           go_ret
           exact ⟨rfl, HB1.out⟩)
    refine tail _ _ _ _ rfl rfl rfl rfl ?_
    by_cases a1 : 60 < b.length
    · rw [decide_eq_true (by omega)]; rfl
    · by_cases a2 : b.length = 0
      · rw [show ((b.length : Int) == 0) = true by rw [a2]; rfl]; simp
      · by_cases a3 : 100 < p.length
        · rw [decide_eq_true (p := 100 < (p.length : Int)) (by omega)]; simp
        · rw [decide_eq_true (p := 60 < (n : Int)) (by omega)]; simp
theorem u8_of {n : Int} (h : (Lit.int .u8 n).wf = true) : ∃ k : Nat, n = k ∧ k < 256 := by
  have a : IntKind.u8.min = 0 := rfl
  have b : IntKind.u8.max = 255 := rfl
  simp only [Lit.wf, a, b, Bool.and_eq_true, decide_eq_true_eq] at h
  exact ⟨n.toNat, by omega, by omega⟩
theorem lanesOne_law (A : Option Addr) (ca : Nat) (b : List Int) (one : Bool) (B : Option Addr) (cb : Nat) (p : List Int) (n : Int) (w : World) (hr : (Kd.int .u8).C w A b.length b) (hc : b.length ≤ ca) (hby : Bytes b) (_ : b.length * 1 ≤ 140737488351232) (hp : (Kd.int .u8).C w B p.length p) (_ : p.length ≤ cb) (hpy : Bytes p) (_ : p.length * 1 ≤ 140737488351232) (hn : (Lit.int .u8 n).wf = true) :
    Calls Try.prog 6 #[.slice A b.length ca, .bool one, .slice B p.length cb, .int .u8 n] w (Ret (.bool true) w) := by
  obtain ⟨k, rfl, hk⟩ := u8_of hn
  exact lanesOne_any A B ca cb k b p one w hr hc hby hp hpy hk
end Go.Proofs.Ytfnobinenolhhaa
namespace Go.Proofs.Ytfnobinenolhhaa
open Go.RowKit Go.IntWalk Go.Proofs.YtfnobinenolhhaaW.PrintWords
theorem ints_take {κ : IntKind} {w : World} {A : Option Addr} {xs : List Int} (h : (Kd.int κ).C w A xs.length xs) (k : Nat) (hk : k ≤ xs.length) : (Kd.int κ).C w A k (xs.take k) := by
  obtain ⟨h1, h2, h3⟩ := h
  refine ⟨by rw [List.length_take]; omega, by omega, fun h0 => ?_⟩
  obtain ⟨ad, e, hc⟩ := h3 (by omega)
  refine ⟨ad, e, fun j p hj => hc j p ?_⟩
  rw [List.getElem?_take] at hj
  split at hj
  · exact hj
  · cases hj
/-- cut off, a payload is none of the same bytes -/
theorem cut_not {lg : Int} {one : Bool} {qs : List (List Int)} {b : List Int} {k : Nat} (hk : k < (packB (encBits lg one qs b ++ [true])).length) : decM lg one qs ((packB (encBits lg one qs b ++ [true])).take k) b.length ≠ (0, b) := by
  intro h
  obtain ⟨_, _, _, e⟩ := enc_of_dec (fun x hx => packB_bytes _ x (List.mem_of_mem_take hx)) h
  have := congrArg List.length e
  rw [List.length_take] at this; omega
theorem dec_bytes {lg : Int} {one : Bool} {qs : List (List Int)} {ps : List Int} {n : Int} (hps : ∀ x ∈ ps, 0 ≤ x ∧ x < 256) : Bytes (decM lg one qs ps n).2 := by
  by_cases h : (decM lg one qs ps n).1 = 0
  · exact (enc_of_dec (z := (decM lg one qs ps n).2) hps (by rw [← h])).2.1
  · rw [decM_err h]; intro x hx; cases hx
set_option maxRecDepth 100000 in
set_option maxHeartbeats 2000000 in
theorem lanesCuts_any (A : Option Addr) (ca n : Nat) (b : List Int) (one : Bool) (w : World) (hr : (Kd.int .u8).C w A b.length b) (hc : b.length ≤ ca) (hby : Bytes b) (hn : n < 256) :
    Calls Try.prog 8 #[.slice A b.length ca, .bool one, .int .u8 n] w (Ret (.bool true) w) := by
  have HR := Lib.hid hr
  have HX := Lib.hid (And.intro hc (And.intro hby hn))
  clear hr hc hby
  by_cases h1 : b.length ≤ 60 ∧ 0 < b.length
  · obtain ⟨h1a, h1b⟩ := h1
    have d1 : decide (60 < (b.length : Int)) = false := decide_eq_false (by omega)
    have d2 : ((b.length : Int) == 0) = false := by simp; intro e; subst e; simp at h1b
    have HL := Lib.hid (And.intro h1a h1b)
    clear h1a h1b
    go_enter Try.func8, Try.ntmps8
    go_wp2_with fail
    refine (awake_any w).mono ?_
    rintro e w1 ⟨rfl, hb1⟩
    have HB1 := Lib.hid hb1
    clear hb1
    go_wp2_with fail
    refine (rOfM_any A ca b one w1 (Kd.C_below HR.out HB1.out) HX.out.1 HX.out.2.1 (by have := HL.out.1; omega) HL.out.2).mono ?_
    rintro e w2 ⟨v, rfl, hv, hb2⟩
    obtain ⟨Aq, cq, rfl⟩ := Kd.R_slice hv
    have HB2 := Lib.hid (below_tr HB1.out hb2)
    have HM := Lib.hid (MAt.new (lg := (ofR b one : Nat)) (one := one) hv)
    have HB3 := Lib.hid (HB2.out.alloc HB2.out.size (.cells #[.int .i64 (ofR b one), .bool one, .slice Aq (ofQ b one).length cq] 24))
    obtain ⟨mb, hmb⟩ : ∃ mb, mb = w2.heap.size := ⟨_, rfl⟩
    clear hv hb2
    go_wp2_with fail
    rw [← hmb] at HM ⊢
    obtain ⟨w3, hw3⟩ : ∃ w3, w3 = w2.alloc (.cells #[.int .i64 (ofR b one), .bool one, .slice Aq (ofQ b one).length cq] 24) := ⟨_, rfl⟩
    rw [← hw3] at HM HB3 ⊢
    clear hw3 hmb
    have HCan := Lib.hid (of_can (one := one) HX.out.2.1 (by have := HL.out.1; omega) HL.out.2)
    refine (encodeL_any (ofR b one) one Aq cq (ofQ b one) A ca b w3 HM.out.row (by have := ofQ_len b one; omega) (Kd.C_below HR.out HB3.out) HX.out.2.1 (by have := HL.out.1; omega)).mono ?_
    rintro e w4 ⟨_, h4, hb4⟩
    obtain ⟨v4, rfl, hv4⟩ := h4 HCan.out
    obtain ⟨p, hp⟩ : ∃ p, p = packB (encBits (ofR b one) one (ofQ b one) b ++ [true]) := ⟨_, rfl⟩
    rw [← hp] at hv4
    obtain ⟨A4, c4, rfl⟩ := Kd.R_slice hv4
    have HB4 := Lib.hid (below_tr HB3.out hb4)
    have HM4 := Lib.hid (HM.out.later hb4)
    have HV4 := Lib.hid (Kd.R_reads' hv4).2
    have HPP := Lib.hid hp
    have hpl : 0 < p.length ∧ p.length ≤ 1000000 := by
      have h2 := (pack_closed (encBits (ofR b one) one (ofQ b one) b)).1
      have h3 := encBits_len (can_log HCan.out).1 HX.out.2.1
      rw [← hp] at h2
      have := HL.out.1; omega
    obtain ⟨hpl0, hplm⟩ := hpl
    have d3 : ((p.length : Int) == 0) = false := by simp; intro e; subst e; simp at hpl0
    clear hv4 hb4 h4 hp
    obtain ⟨ad4, rfl⟩ : ∃ ad4, A4 = some ad4 := by obtain ⟨ad, e, _⟩ := HV4.out.2.2.2 hpl0; exact ⟨ad, e⟩
    obtain ⟨⟨m0, m1, m2⟩, _⟩ := cell3 HM4.out.blk
    have hcap := HV4.out.1
    obtain ⟨k, hk⟩ : ∃ k, k = n % p.length := ⟨_, rfl⟩
    have hkl : k < p.length := by rw [hk]; exact Nat.mod_lt _ hpl0
    have hkI : (n : Int) % (p.length : Int) = (k : Int) := by rw [hk]; simp
    have hpn : ¬ (p.length : Int) = 0 := by omega
    have hkc : k ≤ c4 := by omega
    have hcut : ∀ W : World, (Instr.slice 25 (.slice (some ad4) p.length c4) none (some (.int .i64 (k : Int))) none).run Try.prog W = .ok (.slice (some ad4) k c4) W := by
      obtain ⟨i0, hi0, _⟩ := Option.map_eq_some_iff.1 infoU8
      have := cut_to (P := Try.prog) 25 5 .i64 Try.underlying25 hi0 (some ad4) p.length c4 (k : Int) (by omega) (by omega) hcap
      simpa using this
    have hkcI : (k : Int) ≤ (c4 : Int) := by omega
    have hpe : ¬ p = [] := by intro e; subst e; simp at hpl0
    have hwn : IntKind.i64.wrap (n : Int) = n := i64_in _ (by omega)
    have hwk : IntKind.i64.wrap (k : Int) = k := i64_in _ (by omega)
    have hkT : (n : Int).tmod (p.length : Int) = (k : Int) := by rw [Int.tmod_eq_emod_of_nonneg (by omega)]; exact hkI
    have HK := Lib.hid hk
    obtain ⟨ps, hps⟩ : ∃ ps, ps = p.take k := ⟨_, rfl⟩
    have hpsl : ps.length = k := by rw [hps, List.length_take]; omega
    have HPS := Lib.hid (And.intro hps hpsl)
    have HDec : Hid (∀ W : World, Below w4.heap.size w4 W → Calls Try.prog 17 #[.agg #[.int .i64 (ofR b one), .bool one, .slice Aq (ofQ b one).length cq], .slice (some ad4) k c4, .int .i64 b.length] W (ReadPost (decM (ofR b one) one (ofQ b one) ps b.length) W)) := fun W hbW => by
      have := decodeL_any (ofR b one) one Aq cq (ofQ b one) (some ad4) c4 ps b.length W (Kd.C_below HM4.out.row hbW) (by have := ofQ_len b one; omega) (by rw [hps, List.length_take, Nat.min_eq_left (by omega)]; exact Kd.C_below (ints_take HV4.out.2 k (by omega)) hbW) (fun x hx => by rw [hps, HPP.out] at hx; exact packB_bytes _ x (List.mem_of_mem_take hx)) (by omega)
      rw [hpsl] at this; exact this
    clear hk hps hpsl
    go_wp2_with fail
    go_region_held3 (fun w' => w'.cell? ⟨mb, 0, none⟩ = some (.int .i64 (ofR b one)) ∧ w'.cell? ⟨mb, 1, none⟩ = some (.bool one) ∧ w'.cell? ⟨mb, 2, none⟩ = some (.slice Aq (ofQ b one).length cq)) ((repeat' apply And.intro) <;> first | assumption)
      (first | (go_at_call 17; refine (HDec.out _ (by first | exact (Below.refl _ _).drew | exact Below.refl _ _)).mono ?_; rintro e w5 ⟨⟨v5, rfl, hv5⟩, hb5⟩; obtain ⟨A5, c5, rfl⟩ := Kd.R_slice hv5; obtain ⟨n0, n1, n2⟩ := mcells (w := w4) ⟨hb5.os, hb5.tape, hb5.output, hb5.size, hb5.block⟩ (blk_lt HM4.out.blk) m0 m1 m2; have HV5 := Lib.hid (And.intro (Kd.R_reads' hv5).2 (show Below w4.heap.size w4 w5 from ⟨hb5.os, hb5.tape, hb5.output, hb5.size, hb5.block⟩)); clear hv5 hb5))
    all_goals
      obtain ⟨k5, hk5⟩ : ∃ k5, k5 = (decM (ofR b one) one (ofQ b one) ps b.length).1 := ⟨_, rfl⟩
      obtain ⟨y, hy⟩ : ∃ y, y = (decM (ofR b one) one (ofQ b one) ps b.length).2 := ⟨_, rfl⟩
      have HY : Hid (Bytes y) := Lib.hid (by rw [hy]; exact dec_bytes (fun x hx => by rw [HPS.out.1, HPP.out] at hx; exact packB_bytes _ x (List.mem_of_mem_take hx)))
      rw [← hk5]
      rw [← hy] at HV5 ⊢
      by_cases hz : k5 = 0
      · have hne : ¬ y = b := by
          intro e
          apply cut_not (lg := (ofR b one : Nat)) (one := one) (qs := ofQ b one) (b := b) (k := k) (by rw [← HPP.out]; exact hkl)
          rw [← HPP.out, ← HPS.out.1]
          exact Prod.ext (by rw [← hk5]; exact hz) (by rw [← hy]; exact e)
        have HNE := Lib.hid hne
        subst hz
        clear hk5 hy hne
        go_wp2_with fail
        refine (same_any A5 A c5 ca y b w5 HV5.out.1.2 (Kd.C_below HR.out (below_tr HB4.out HV5.out.2)) HY.out HX.out.2.1).mono ?_
        rw [decide_eq_false HNE.out]
        rintro e w6 ⟨rfl, rfl⟩
        go_wp2_with fail
        go_ret
        exact ⟨rfl, below_tr HB4.out HV5.out.2⟩
      · have hzb : (k5 == 0) = false := by simpa using hz
        have hy0 : y = [] := by rw [hy]; exact decM_err (by rw [← hk5]; exact hz)
        clear hk5 hy
        subst hy0
        go_wp2_with fail
        go_ret
        exact ⟨rfl, below_tr HB4.out HV5.out.2⟩
  · have tail : ∀ d1 d2 : Bool, decide (60 < (b.length : Int)) = d1 → ((b.length : Int) == 0) = d2 → (d1 || d2) = true →
        Calls Try.prog 8 #[.slice A b.length ca, .bool one, .int .u8 n] w (Ret (.bool true) w) := by
      intro d1 d2 e1 e2 h
      clear h1
      cases d1 <;> cases d2 <;> first
        | (exfalso; revert h; decide)
        | (clear h
           go_enter Try.func8, Try.ntmps8
           go_wp2_with fail
           refine (awake_any w).mono ?_
           rintro e w1 ⟨rfl, hb1⟩
           have HB1 := Lib.hid hb1
           clear hb1
           go_wp2_with fail
           go_ret
           exact ⟨rfl, HB1.out⟩)
    refine tail _ _ rfl rfl ?_
    by_cases a1 : 60 < b.length
    · rw [decide_eq_true (by omega)]; rfl
    · rw [show ((b.length : Int) == 0) = true by rw [show b.length = 0 by omega]; rfl]; simp
theorem lanesCuts_law (A : Option Addr) (ca : Nat) (b : List Int) (one : Bool) (n : Int) (w : World) (hr : (Kd.int .u8).C w A b.length b) (hc : b.length ≤ ca) (hby : Bytes b) (_ : b.length * 1 ≤ 140737488351232) (hn : (Lit.int .u8 n).wf = true) :
    Calls Try.prog 8 #[.slice A b.length ca, .bool one, .int .u8 n] w (Ret (.bool true) w) := by
  obtain ⟨k, rfl, hk⟩ := u8_of hn
  exact lanesCuts_any A ca k b one w hr hc hby hk
end Go.Proofs.Ytfnobinenolhhaa
namespace Go.Proofs.Ytfnobinenolhhaa
open Go.RowKit Go.IntWalk Go.Proofs.YtfnobinenolhhaaW.PrintWords
set_option maxRecDepth 100000 in
set_option maxHeartbeats 2000000 in
theorem lanesBack_any (A : Option Addr) (ca n : Nat) (b : List Int) (one : Bool) (w : World) (hr : (Kd.int .u8).C w A b.length b) (hc : b.length ≤ ca) (hby : Bytes b) (hn : n < 256) :
    Calls Try.prog 5 #[.slice A b.length ca, .bool one, .int .u8 n] w (Ret (.bool true) w) := by
  have HR := Lib.hid hr
  have HX := Lib.hid (And.intro hc (And.intro hby hn))
  clear hr hc hby
  by_cases h1 : b.length ≤ 60 ∧ 0 < b.length
  · obtain ⟨h1a, h1b⟩ := h1
    have d1 : decide (60 < (b.length : Int)) = false := decide_eq_false (by omega)
    have d2 : ((b.length : Int) == 0) = false := by simp; intro e; subst e; simp at h1b
    have HL := Lib.hid (And.intro h1a h1b)
    clear h1a h1b
    go_enter Try.func5, Try.ntmps5
    go_wp2_with fail
    refine (awake_any w).mono ?_
    rintro e w1 ⟨rfl, hb1⟩
    have HB1 := Lib.hid hb1
    clear hb1
    go_wp2_with fail
    refine (rOfM_any A ca b one w1 (Kd.C_below HR.out HB1.out) HX.out.1 HX.out.2.1 (by have := HL.out.1; omega) HL.out.2).mono ?_
    rintro e w2 ⟨v, rfl, hv, hb2⟩
    obtain ⟨Aq, cq, rfl⟩ := Kd.R_slice hv
    have HB2 := Lib.hid (below_tr HB1.out hb2)
    have HM := Lib.hid (MAt.new (lg := (ofR b one : Nat)) (one := one) hv)
    have HB3 := Lib.hid (HB2.out.alloc HB2.out.size (.cells #[.int .i64 (ofR b one), .bool one, .slice Aq (ofQ b one).length cq] 24))
    obtain ⟨mb, hmb⟩ : ∃ mb, mb = w2.heap.size := ⟨_, rfl⟩
    clear hv hb2
    go_wp2_with fail
    rw [← hmb] at HM ⊢
    obtain ⟨w3, hw3⟩ : ∃ w3, w3 = w2.alloc (.cells #[.int .i64 (ofR b one), .bool one, .slice Aq (ofQ b one).length cq] 24) := ⟨_, rfl⟩
    rw [← hw3] at HM HB3 ⊢
    clear hw3 hmb
    have HCan := Lib.hid (of_can (one := one) HX.out.2.1 (by have := HL.out.1; omega) HL.out.2)
    refine (encodeL_any (ofR b one) one Aq cq (ofQ b one) A ca b w3 HM.out.row (by have := ofQ_len b one; omega) (Kd.C_below HR.out HB3.out) HX.out.2.1 (by have := HL.out.1; omega)).mono ?_
    rintro e w4 ⟨_, h4, hb4⟩
    obtain ⟨v4, rfl, hv4⟩ := h4 HCan.out
    obtain ⟨p, hp⟩ : ∃ p, p = packB (encBits (ofR b one) one (ofQ b one) b ++ [true]) := ⟨_, rfl⟩
    rw [← hp] at hv4
    obtain ⟨A4, c4, rfl⟩ := Kd.R_slice hv4
    have HB4 := Lib.hid (below_tr HB3.out hb4)
    have HM4 := Lib.hid (HM.out.later hb4)
    have HV4 := Lib.hid (Kd.R_reads' hv4).2
    have HPP := Lib.hid hp
    have hpl : 0 < p.length ∧ p.length ≤ 1000000 := by
      have h2 := (pack_closed (encBits (ofR b one) one (ofQ b one) b)).1
      have h3 := encBits_len (can_log HCan.out).1 HX.out.2.1
      rw [← hp] at h2
      have := HL.out.1; omega
    obtain ⟨hpl0, hplm⟩ := hpl
    have d3 : ((p.length : Int) == 0) = false := by simp; intro e; subst e; simp at hpl0
    clear hv4 hb4 h4 hp
    obtain ⟨ad4, rfl⟩ : ∃ ad4, A4 = some ad4 := by obtain ⟨ad, e, _⟩ := HV4.out.2.2.2 hpl0; exact ⟨ad, e⟩
    obtain ⟨⟨m0, m1, m2⟩, _⟩ := cell3 HM4.out.blk
    have HD := Lib.hid (dec_of_enc HCan.out HX.out.2.1)
    rw [← HPP.out] at HD
    have HPB : Hid (∀ x ∈ p, 0 ≤ x ∧ x < 256) := Lib.hid (by rw [HPP.out]; exact packB_bytes _)
    go_wp2_with fail
    refine (decodeL_any (ofR b one) one Aq cq (ofQ b one) (some ad4) c4 p b.length w4 HM4.out.row (by have := ofQ_len b one; omega) HV4.out.2 HPB.out (by omega)).mono ?_
    rintro e w5 ⟨⟨v5, rfl, hv5⟩, hb5⟩
    rw [HD.out] at hv5 ⊢
    obtain ⟨A5, c5, rfl⟩ := Kd.R_slice hv5
    have HB5 := Lib.hid (below_tr HB4.out hb5)
    have HM5 := Lib.hid (HM4.out.later hb5)
    have HV5 := Lib.hid (Kd.R_reads' hv5).2
    have HV45 := Lib.hid (Kd.C_below HV4.out.2 hb5)
    obtain ⟨⟨o0, o1, o2⟩, _⟩ := cell3 HM5.out.blk
    clear hv5 hb5
    dsimp only
    have hwn : IntKind.i64.wrap (n : Int) = n := i64_in _ (by omega)
    go_wp2_with fail
    refine (decodeL_any (ofR b one) one Aq cq (ofQ b one) (some ad4) c4 p n w5 HM5.out.row (by have := ofQ_len b one; omega) HV45.out HPB.out (by omega)).mono ?_
    rintro e w6 ⟨⟨v6, rfl, hv6⟩, hb6⟩
    obtain ⟨A6, c6, rfl⟩ := Kd.R_slice hv6
    have HB6 := Lib.hid (below_tr HB5.out hb6)
    have HM6 := Lib.hid (HM5.out.later hb6)
    have HV6 := Lib.hid (Kd.R_reads' hv6).2
    have HV56 := Lib.hid (Kd.C_below HV5.out.2 hb6)
    obtain ⟨⟨q0, q1, q2⟩, _⟩ := cell3 HM6.out.blk
    clear hv6 hb6
    obtain ⟨g, hg⟩ : ∃ g, g = (decM (ofR b one) one (ofQ b one) p n).1 := ⟨_, rfl⟩
    obtain ⟨z, hz⟩ : ∃ z, z = (decM (ofR b one) one (ofQ b one) p n).2 := ⟨_, rfl⟩
    rw [← hg]
    rw [← hz] at HV6 ⊢
    have HZ : Hid (g = 0 → canM (ofR b one) one (ofQ b one) z = true ∧ Bytes z ∧ z.length = n ∧ bitsM (ofR b one) one (ofQ b one) z = bitsM (ofR b one) one (ofQ b one) b) := Lib.hid (by
      intro h0
      have hD : decM (ofR b one) one (ofQ b one) p n = (0, z) := by rw [hz, ← h0, hg]
      obtain ⟨e1, e2, e3, e4⟩ := enc_of_dec HPB.out hD
      refine ⟨e1, e2, by omega, ?_⟩
      unfold bitsM
      rw [if_pos e1, if_pos HCan.out]
      have t1 := (pack_closed (encBits (ofR b one) one (ofQ b one) z)).2.2.1
      have t2 := (pack_closed (encBits (ofR b one) one (ofQ b one) b)).2.2.1
      rw [← e4] at t1; rw [← HPP.out] at t2
      omega)
    clear hg hz
    obtain ⟨L, hL⟩ : ∃ L, L = bitsM (ofR b one) one (ofQ b one) b := ⟨_, rfl⟩
    have HBB : Hid (∀ W : World, Below w6.heap.size w6 W → Calls Try.prog 16 #[.agg #[.int .i64 (ofR b one), .bool one, .slice Aq (ofQ b one).length cq], .slice A b.length ca] W fun e W' => e = .returned (.int .i64 L) ∧ Below w6.heap.size w6 W') := Lib.hid fun W hbW => by
      refine (bitsL_any (ofR b one) one Aq cq (ofQ b one) A ca b W (Kd.C_below HM6.out.row hbW) (by have := ofQ_len b one; omega) (Kd.C_below HR.out (below_tr HB6.out hbW)) HX.out.2.1 (by have := HL.out.1; omega)).mono ?_
      rw [← hL]
      rintro e W' ⟨rfl, h⟩
      exact ⟨rfl, below_tr hbW h⟩
    have HBZ : Hid (g = 0 → ∀ W : World, Below w6.heap.size w6 W → Calls Try.prog 16 #[.agg #[.int .i64 (ofR b one), .bool one, .slice Aq (ofQ b one).length cq], .slice A6 z.length c6] W fun e W' => e = .returned (.int .i64 L) ∧ Below w6.heap.size w6 W') := Lib.hid fun h0 W hbW => by
      obtain ⟨_, e2, e3, e5⟩ := HZ.out h0
      refine (bitsL_any (ofR b one) one Aq cq (ofQ b one) A6 c6 z W (Kd.C_below HM6.out.row hbW) (by have := ofQ_len b one; omega) (Kd.C_below HV6.out.2 hbW) e2 (by have := HX.out.2.2; omega)).mono ?_
      rw [e5, ← hL]
      rintro e W' ⟨rfl, h⟩
      exact ⟨rfl, below_tr hbW h⟩
    clear hL
    have HS : Hid (∀ W : World, Below w6.heap.size w6 W → Calls Try.prog 15 #[.slice A5 b.length c5, .slice A b.length ca] W fun e w' => e = .returned (.bool true) ∧ W = w') := Lib.hid fun W hbW => by
      have := same_any A5 A c5 ca b b W (Kd.C_below HV56.out hbW) (Kd.C_below HR.out (below_tr HB6.out hbW)) HX.out.2.1 HX.out.2.1
      rw [decide_eq_true rfl] at this; exact this
    by_cases h0 : g = 0
    · by_cases hn : n = b.length
      · have hq : ((n : Int) != (b.length : Int)) = false := by rw [hn]; simp
        clear hn
        subst h0
        go_wp2_with fail
        go_quiet (fail)
        all_goals
          go_wp2_with fail
          refine (HS.out _ (by first | assumption | exact (Below.refl _ _).drew | exact below_drewN (Below.refl _ _) _ | exact Below.refl _ _)).mono ?_
          rintro e w8 ⟨rfl, rfl⟩
          go_wp2_with fail
          go_ret
          exact ⟨rfl, below_tr HB6.out (by first | assumption | exact (Below.refl _ _).drew | exact below_drewN (Below.refl _ _) _ | exact Below.refl _ _)⟩
      · have HZ0 := Lib.hid (HZ.out h0)
        have HBZ0 := Lib.hid (HBZ.out h0)
        have hq : ((n : Int) != (b.length : Int)) = true := by simp; omega
        have hzn : ((z.length : Int) != (n : Int)) = false := by rw [HZ0.out.2.2.1]; simp
        clear hn
        subst h0
        go_wp2_with fail
        go_region_held3 (fun w' => w'.cell? ⟨mb, 0, none⟩ = some (.int .i64 (ofR b one)) ∧ w'.cell? ⟨mb, 1, none⟩ = some (.bool one) ∧ w'.cell? ⟨mb, 2, none⟩ = some (.slice Aq (ofQ b one).length cq)) ((repeat' apply And.intro) <;> first | assumption)
          (first | (go_at_call 16; (first | with_reducible refine (HBB.out _ ?_).mono ?_ | with_reducible refine (HBZ0.out _ ?_).mono ?_); (first | assumption | exact (Below.refl _ _).drew | exact below_drewN (Below.refl _ _) _ | exact Below.refl _ _); rintro e w7 ⟨rfl, hb7⟩; obtain ⟨n0, n1, n2⟩ := mcells (w := w6) hb7 (blk_lt HM6.out.blk) q0 q1 q2))
        all_goals
          go_wp2_with fail
          refine (HS.out _ (by first | assumption | exact (Below.refl _ _).drew | exact below_drewN (Below.refl _ _) _ | exact Below.refl _ _)).mono ?_
          rintro e w8 ⟨rfl, rfl⟩
          go_wp2_with fail
          go_ret
          exact ⟨rfl, below_tr HB6.out (by first | assumption | exact (Below.refl _ _).drew | exact below_drewN (Below.refl _ _) _ | exact Below.refl _ _)⟩
    · have hz0 : (g == 0) = false := by simpa using h0
      go_wp2_with fail
      go_quiet (fail)
      go_wp2_with fail
      refine (HS.out _ (by first | assumption | exact (Below.refl _ _).drew | exact below_drewN (Below.refl _ _) _ | exact Below.refl _ _)).mono ?_
      rintro e w8 ⟨rfl, rfl⟩
      go_wp2_with fail
      go_ret
      exact ⟨rfl, below_tr HB6.out (by first | assumption | exact (Below.refl _ _).drew | exact below_drewN (Below.refl _ _) _ | exact Below.refl _ _)⟩
  · have tail : ∀ d1 d2 : Bool, decide (60 < (b.length : Int)) = d1 → ((b.length : Int) == 0) = d2 → (d1 || d2) = true →
        Calls Try.prog 5 #[.slice A b.length ca, .bool one, .int .u8 n] w (Ret (.bool true) w) := by
      intro d1 d2 e1 e2 h
      clear h1
      cases d1 <;> cases d2 <;> first
        | (exfalso; revert h; decide)
        | (clear h
           go_enter Try.func5, Try.ntmps5
           go_wp2_with fail
           refine (awake_any w).mono ?_
           rintro e w1 ⟨rfl, hb1⟩
           have HB1 := Lib.hid hb1
           clear hb1
           go_wp2_with fail
           go_ret
           exact ⟨rfl, HB1.out⟩)
    refine tail _ _ rfl rfl ?_
    by_cases a1 : 60 < b.length
    · rw [decide_eq_true (by omega)]; rfl
    · rw [show ((b.length : Int) == 0) = true by rw [show b.length = 0 by omega]; rfl]; simp
theorem lanesBack_law (A : Option Addr) (ca : Nat) (b : List Int) (one : Bool) (n : Int) (w : World) (hr : (Kd.int .u8).C w A b.length b) (hc : b.length ≤ ca) (hby : Bytes b) (_ : b.length * 1 ≤ 140737488351232) (hn : (Lit.int .u8 n).wf = true) :
    Calls Try.prog 5 #[.slice A b.length ca, .bool one, .int .u8 n] w (Ret (.bool true) w) := by
  obtain ⟨k, rfl, hk⟩ := u8_of hn
  exact lanesBack_any A ca k b one w hr hc hby hk
end Go.Proofs.Ytfnobinenolhhaa
namespace Go.Proofs.Ytfnobinenolhhaa
open Go.RowKit Go.IntWalk Go.Proofs.YtfnobinenolhhaaW.PrintWords
def listsTo (q : List Int) (i : Nat) : List (List Int) := (List.range 256).map fun c => if c < i then q else []
theorem listsTo_len (q : List Int) (i : Nat) : (listsTo q i).length = 256 := by unfold listsTo; rw [List.length_map, List.length_range]
theorem listsTo_get (q : List Int) (i k : Nat) (h : k < (listsTo q i).length) : (listsTo q i)[k] = if k < i then q else [] := by simp [listsTo]
theorem listsTo_zero (q : List Int) : listsTo q 0 = List.replicate 256 [] := by
  refine List.ext_getElem (by rw [listsTo_len, List.length_replicate]) fun k h1 h2 => ?_
  rw [listsTo_get, List.getElem_replicate, if_neg (by omega)]
theorem listsTo_succ (q : List Int) (i : Nat) (_ : i < 256) : (listsTo q i).set i q = listsTo q (i + 1) := by
  refine List.ext_getElem (by rw [List.length_set, listsTo_len, listsTo_len]) fun k h1 h2 => ?_
  rw [List.getElem_set, listsTo_get, listsTo_get]
  by_cases h : i = k
  · rw [if_pos h, if_pos (by omega)]
  · rw [if_neg h]
    by_cases h3 : k < i
    · rw [if_pos h3, if_pos (by omega)]
    · rw [if_neg h3, if_neg (by omega)]
theorem lists_get (q : List Int) {c : Nat} (h : c < 256) : (listsTo q 256).getD c [] = q := by
  rw [List.getD_eq_getElem?_getD, List.getElem?_eq_getElem (by rw [listsTo_len]; exact h), Option.getD_some]
  rw [listsTo_get, if_pos h]
theorem lists_qAt (q b : List Int) (hb : Bytes b) (i : Nat) (hi : i < b.length) : qAt false (listsTo q 256) b i = qAt true [q] b i := by
  obtain ⟨h1, h2⟩ := ctx_range hb i hi
  have e1 : qAt true [q] b i = q := rfl
  rw [e1]
  have e2 : listI false (ctxI b i) = (ctxI b i).toNat := rfl
  exact lists_get q (by rw [e2]; omega)
theorem lists_encN (q b : List Int) (hb : Bytes b) : ∀ k, k ≤ b.length → encN false (listsTo q 256) b k = encN true [q] b k := by
  intro k
  induction k with
  | zero => intro _; rfl
  | succ k ih =>
    intro h
    simp only [encN]
    rw [ih (by omega), lists_qAt q b hb _ (by omega)]
theorem lists_encBits (lg : Int) (q b : List Int) (hb : Bytes b) : encBits lg false (listsTo q 256) b = encBits lg true [q] b := by
  unfold encBits
  rw [lists_encN q b hb _ (Nat.le_refl _)]
theorem lists_can {lg : Int} {q b : List Int} (hb : Bytes b) (h : canM lg true [q] b = true) : canM lg false (listsTo q 256) b = true := by
  unfold canM at h ⊢
  rw [Bool.and_eq_true] at h ⊢
  refine ⟨h.1, ?_⟩
  have h2 := h.2
  unfold fitsM at h2 ⊢
  rw [Bool.and_eq_true] at h2 ⊢
  constructor
  · have h3 := h2.1
    unfold rightM at h3 ⊢
    split at h3
    · cases h3
    · rename_i a1
      rw [if_neg a1]
      split at h3
      · cases h3
      · rename_i a2
        rw [if_neg, if_neg (by decide), listsTo_len]
        · decide
        · intro h4
          apply a2
          rw [List.any_eq_true] at h4 ⊢
          obtain ⟨x, hx, hbad⟩ := h4
          unfold listsTo at hx
          rw [List.mem_map] at hx
          obtain ⟨c, hc, rfl⟩ := hx
          rw [if_pos (by rw [List.mem_range] at hc; exact hc)] at hbad
          exact ⟨q, by simp, hbad⟩
  · have h3 := h2.2
    rw [List.all_eq_true] at h3 ⊢
    intro i hi
    have := h3 i hi
    rw [List.mem_range] at hi
    unfold fitAt at this ⊢
    have e := lists_qAt q b hb i hi
    unfold qAt at e
    rw [e]; exact this
theorem lists_bits {lg : Int} {q b : List Int} (hb : Bytes b) (h : canM lg true [q] b = true) : bitsM lg false (listsTo q 256) b = bitsM lg true [q] b := by
  unfold bitsM
  rw [if_pos h, if_pos (lists_can hb h), lists_encBits lg q b hb]
structure ListsRel (w3 : World) (B0 mb g : Nat) (lg : Int) (q : List Int) (i : Nat) (wr : World) : Prop where
  blk : wr.heap[mb]? = some (.cells #[.int .i64 lg, .bool false, .slice (some ⟨g, 0, none⟩) 256 256] 24 (0, 0))
  row : kq.R 42 wr B0 (fun k => k ≠ mb) (.slice (some ⟨g, 0, none⟩) 256 256) (listsTo q i)
  below : Below w3.heap.size w3 wr
theorem lists_step {w3 wr : World} {B0 mb g i : Nat} {lg : Int} {q : List Int} {v : Value} (hi : i < 256) (hne : mb ≠ g) (hm : w3.heap.size ≤ mb) (hg : w3.heap.size ≤ g) (H : ListsRel w3 B0 mb g lg q i wr) (hq : (Kd.int .i64).R 3 w3 B0 (fun _ => True) v q) :
    ListsRel w3 B0 mb g lg q (i + 1) (wr.setCell ⟨g, i, none⟩ v).drew := by
  have hq2 : (Kd.int .i64).R 3 wr B0 (fun k => k ≠ mb ∧ k ≠ g) v q :=
    Kd.R_below (Kd.R_mono (Kd.R_bound hq) (ok' := fun k => k ≠ mb ∧ k ≠ g) (fun k hk => by have := hk.2.2.1; omega)) H.below
  refine ⟨?_, ?_, ?_⟩
  · exact blk_far H.blk (p := ⟨g, i, none⟩) hne _
  · rw [← listsTo_succ q i hi]
    exact Kd.R_drew (kq_put H.row i hi hq2 (fun k hk => hk))
  · exact (H.below.setCell hg _).drew
end Go.Proofs.Ytfnobinenolhhaa
namespace Go.Proofs.Ytfnobinenolhhaa
open Go.RowKit Go.IntWalk Go.Proofs.YtfnobinenolhhaaW.PrintWords
theorem one_elem {w : World} {base g0 cq : Nat} {q : List Int} (h : kq.R 42 w base (fun _ => True) (.slice (some ⟨g0, 0, none⟩) 1 cq) [q]) : ∃ (Av : Option Addr) (cv : Nat), w.cell? ⟨g0, 0, none⟩ = some (.slice Av q.length cv) ∧ (Kd.int .i64).R 3 w base (fun _ => True) (.slice Av q.length cv) q := by
  obtain ⟨c, hcl, hm, hcc, _⟩ := Kd.R_elem h [] 0 (by omega) (by omega)
  obtain ⟨v, rfl, hv⟩ := hm
  have hv2 : (Kd.int .i64).R 3 w base (fun _ => True) v q := Kd.R_mono hv (fun _ _ => trivial)
  obtain ⟨Av, cv, rfl⟩ := Kd.R_slice hv2
  exact ⟨Av, cv, hcc 0 _ rfl, hv2⟩
set_option maxRecDepth 100000 in
set_option maxHeartbeats 4000000 in
theorem lanesLists_any (A : Option Addr) (ca : Nat) (b : List Int) (w : World) (hr : (Kd.int .u8).C w A b.length b) (hc : b.length ≤ ca) (hby : Bytes b) :
    Calls Try.prog 9 #[.slice A b.length ca] w (Ret (.bool true) w) := by
  have HR := Lib.hid hr
  have HX := Lib.hid (And.intro hc hby)
  clear hr hc hby
  by_cases h1 : b.length ≤ 60 ∧ 0 < b.length
  · obtain ⟨h1a, h1b⟩ := h1
    have d1 : decide (60 < (b.length : Int)) = false := decide_eq_false (by omega)
    have d2 : ((b.length : Int) == 0) = false := by simp; intro e; subst e; simp at h1b
    have HL := Lib.hid (And.intro h1a h1b)
    have hmk : ∀ w : World, (Instr.makeSlice 22 (.int .i64 256) (.int .i64 256)).run Try.prog w = .ok (.slice (some ⟨w.heap.size, 0, none⟩) 256 256) (w.alloc (.cells (madeCells #[.slice none 0 0] 256) 42)) := fun w => made_ints 256 (by omega) w
    clear h1a h1b
    go_enter Try.func9, Try.ntmps9
    go_wp2_with fail
    refine (awake_any w).mono ?_
    rintro e w1 ⟨rfl, hb1⟩
    have HB1 := Lib.hid hb1
    clear hb1
    go_wp2_with fail
    refine (rOfM_any A ca b true w1 (Kd.C_below HR.out HB1.out) HX.out.1 HX.out.2 (by have := HL.out.1; omega) HL.out.2).mono ?_
    rintro e w2 ⟨v, rfl, hv, hb2⟩
    have HCan := Lib.hid (of_can (one := true) HX.out.2 (by have := HL.out.1; omega) HL.out.2)
    obtain ⟨lg, hlg⟩ : ∃ lg : Int, lg = (ofR b true : Nat) := ⟨_, rfl⟩
    obtain ⟨q, hq⟩ : ∃ q, ofQ b true = [q] := ⟨_, rfl⟩
    rw [hq] at hv HCan
    rw [← hlg] at HCan ⊢
    clear hlg hq
    obtain ⟨g0, cq, e0, _, hg0, _⟩ := Kd.R_form hv (by simp)
    have e1 : v = .slice (some ⟨g0, 0, none⟩) 1 cq := e0
    subst e1
    clear e0
    obtain ⟨Av, cv, hc0, hvq⟩ := one_elem hv
    have HB2 := Lib.hid (below_tr HB1.out hb2)
    have HM : Hid (MAt w2.heap.size lg true (some ⟨g0, 0, none⟩) cq [q] (w2.alloc (.cells #[.int .i64 lg, .bool true, .slice (some ⟨g0, 0, none⟩) 1 cq] 24))) := Lib.hid (MAt.new (lg := lg) (one := true) (qs := [q]) hv)
    have HB3 := Lib.hid (HB2.out.alloc HB2.out.size (.cells #[.int .i64 lg, .bool true, .slice (some ⟨g0, 0, none⟩) 1 cq] 24))
    have HQ := Lib.hid (Kd.R_alloc hvq (.cells #[.int .i64 lg, .bool true, .slice (some ⟨g0, 0, none⟩) 1 cq] 24))
    have HC0 := Lib.hid ((((Below.refl w2.heap.size w2).alloc (Nat.le_refl _) (.cells #[.int .i64 lg, .bool true, .slice (some ⟨g0, 0, none⟩) 1 cq] 24)).cell (p := ⟨g0, 0, none⟩) hg0).trans hc0)
    have HZ : Hid (g0 < (w2.alloc (.cells #[.int .i64 lg, .bool true, .slice (some ⟨g0, 0, none⟩) 1 cq] 24)).heap.size ∧ w1.heap.size ≤ (w2.alloc (.cells #[.int .i64 lg, .bool true, .slice (some ⟨g0, 0, none⟩) 1 cq] 24)).heap.size) := by
      have := hb2.size
      have e : (w2.alloc (.cells #[.int .i64 lg, .bool true, .slice (some ⟨g0, 0, none⟩) 1 cq] 24)).heap.size = w2.heap.size + 1 := by simp
      exact ⟨by omega, by omega⟩
    obtain ⟨mb0, hmb⟩ : ∃ mb0, mb0 = w2.heap.size := ⟨_, rfl⟩
    obtain ⟨B0, hB0⟩ : ∃ B0, B0 = w1.heap.size := ⟨_, rfl⟩
    clear hv hb2 hvq hc0 hg0
    go_wp2_with fail
    rw [← hmb] at HM ⊢
    rw [← hB0] at HQ HZ
    obtain ⟨w3, hw3⟩ : ∃ w3, w3 = w2.alloc (.cells #[.int .i64 lg, .bool true, .slice (some ⟨g0, 0, none⟩) 1 cq] 24) := ⟨_, rfl⟩
    have HM' : Hid (MAt mb0 lg true (some ⟨g0, 0, none⟩) cq [q] w3) := by rw [hw3]; exact HM
    clear HM
    rw [← hw3] at HB3 HQ HC0 HZ ⊢
    clear hw3 hmb hB0
    obtain ⟨⟨m0, m1, m2⟩, _⟩ := cell3 HM'.out.blk
    have hlt0 := blk_lt HM'.out.blk
    go_cut [5] (fun s5 wx => StartM lg w3 s5 wx)
    case first =>
      go_region_held3 (fun w' => Below w3.heap.size w3 w' ∧ w'.cell? ⟨mb0, 0, none⟩ = some (.int .i64 lg)) ((apply And.intro <;> first | ((repeat' (first | assumption | exact Below.refl _ _ | refine below_al ?_ _ | refine below_dr ?_ | refine below_st ?_ ?_ _)) <;> first | omega | (simp; done) | (simp; omega)) | (refine (Below.cell (w := w3) (p := ⟨mb0, 0, none⟩) ?_ hlt0).trans m0; (repeat' (first | assumption | exact Below.refl _ _ | refine below_al ?_ _ | refine below_dr ?_ | refine below_st ?_ ?_ _)) <;> first | omega | (simp; done) | (simp; omega))))
        (fail)
      all_goals
        go_wp2_with fail
        go_meet
        refine' start_mk _ ?_ ?_ ?_ ?_ ?_ ?_
        rotate_left 1
        · repeat' (with_reducible (first | exact blk_new _ _ | exact blk_new1 _ _ _ | refine blk_dr ?_ | refine blk_alloc ?_ _))
        · repeat' (with_reducible (first | refine kq_made _ _ _ ?_ ?_ | refine kq_made1 _ _ _ _ ?_ ?_ | refine Kd.R_drew ?_ | refine Kd.R_alloc ?_ _))
          all_goals omega
        · repeat' (first | assumption | exact Below.refl _ _ | refine below_al ?_ _ | refine below_dr ?_)
        all_goals omega
    case rest =>
      obtain ⟨mb, g, rfl, hmb, hg, hne, hblk, hrow, hbl⟩ := hcut
      have HP := Lib.hid (And.intro hmb (And.intro hg hne))
      have H0 : Hid (ListsRel w3 B0 mb g lg q 0 wc) := ⟨hblk, by rw [listsTo_zero]; exact Kd.R_lower hrow HZ.out.2, hbl⟩
      clear hmb hg hne hblk hrow hbl m0 m1 m2
      go_wp2_with fail
      go_loopw [6] (fun kv wr => ∃ (i : Nat), kv = .int .i64 i ∧ i ≤ 256 ∧ Hid (ListsRel w3 B0 mb g lg q i wr)) (fun kv _ => 256 - (intOf kv).toNat)
      case atStart => exact ⟨0, rfl, by omega, H0.out⟩
      case round =>
        obtain ⟨i, rfl, hi, H⟩ := hrel
        by_cases hlt : i < 256
        · obtain ⟨⟨n0, n1, n2⟩, _⟩ := cell3 H.out.blk
          obtain ⟨⟨m0, m1, m2⟩, _⟩ := cell3 (blk_below HM'.out.blk H.out.below)
          have m2' : wr.cell? ⟨mb0, 2, none⟩ = some (.slice (some ⟨g0, 0, none⟩) 1 cq) := m2
          have c0 : wr.cell? ⟨g0, 0, none⟩ = some (.slice Av q.length cv) := (H.out.below.cell (p := ⟨g0, 0, none⟩) HZ.out.1).trans HC0.out
          obtain ⟨⟨gv, g1⟩, g2⟩ := kq_cell H.out.row i hlt
          have hiI : (i : Int) < 256 := by omega
          have HE := Lib.hid (lists_step hlt HP.out.2.2 HP.out.1 HP.out.2.1 H.out HQ.out)
          clear m2
          go_wp2_with fail
          go_region
          all_goals
            go_wp2_with fail
            go_roundw
            case rel => exact ⟨i + 1, by go_num, by omega, HE.out⟩
            case measure => simp [intOf]; omega
        · obtain rfl : i = 256 := by omega
          have HMm := Lib.hid (HM'.out.later H.out.below)
          obtain ⟨qn, hqn⟩ : ∃ qn, qn = listsTo q 256 := ⟨_, rfl⟩
          have hql : qn.length = 256 := by rw [hqn, listsTo_len]
          have HMn : Hid (MAt mb lg false (some ⟨g, 0, none⟩) 256 qn wr) := ⟨by rw [hql]; exact H.out.blk, by rw [hqn]; have := (Kd.R_reads' H.out.row).2.2; exact this⟩
          have HCn : Hid (canM lg false qn b = true) := Lib.hid (by rw [hqn]; exact lists_can HX.out.2 HCan.out)
          have HEn : Hid (encBits lg false qn b = encBits lg true [q] b) := Lib.hid (by rw [hqn]; exact lists_encBits lg q b HX.out.2)
          have HTn : Hid (bitsM lg false qn b = bitsM lg true [q] b) := Lib.hid (by rw [hqn]; exact lists_bits HX.out.2 HCan.out)
          have HBr := Lib.hid (below_tr HB3.out H.out.below)
          have HQL := Lib.hid hql
          clear hqn hql H hi hlt
          obtain ⟨⟨m0, m1, m2⟩, _⟩ := cell3 HMm.out.blk
          have m2' : wr.cell? ⟨mb0, 2, none⟩ = some (.slice (some ⟨g0, 0, none⟩) 1 cq) := m2
          clear m2
          go_wp2_with fail
          refine (encodeL_any lg true (some ⟨g0, 0, none⟩) cq [q] A ca b wr HMm.out.row (by simp) (Kd.C_below HR.out HBr.out) HX.out.2 (by have := HL.out.1; omega)).mono ?_
          rintro e w4 ⟨_, h4, hb4⟩
          obtain ⟨v4, rfl, hv4⟩ := h4 HCan.out
          obtain ⟨p, hp⟩ : ∃ p, p = packB (encBits lg true [q] b ++ [true]) := ⟨_, rfl⟩
          rw [← hp] at hv4
          obtain ⟨A4, c4, rfl⟩ := Kd.R_slice hv4
          have HB4 := Lib.hid (below_tr HBr.out hb4)
          have HMm4 := Lib.hid (HMm.out.later hb4)
          have HMn4 := Lib.hid (HMn.out.later hb4)
          have HV4 := Lib.hid (Kd.R_reads' hv4).2
          have HPP := Lib.hid hp
          have hplm : p.length ≤ 1000000 := by
            have h2 := (pack_closed (encBits lg true [q] b)).1
            have h3 := encBits_len (can_log HCan.out).1 HX.out.2
            rw [← hp] at h2
            have := HL.out.1; omega
          have HPB : Hid (∀ x ∈ p, 0 ≤ x ∧ x < 256) := Lib.hid (by rw [HPP.out]; exact packB_bytes _)
          clear hv4 hb4 h4 hp m0 m1 m2'
          obtain ⟨⟨n0, n1, n2⟩, _⟩ := cell3 HMn4.out.blk
          rw [HQL.out] at n2
          go_wp2_with fail
          have hE := encodeL_any lg false (some ⟨g, 0, none⟩) 256 qn A ca b w4 HMn4.out.row (by have := HQL.out; omega) (Kd.C_below HR.out HB4.out) HX.out.2 (by have := HL.out.1; omega)
          rw [HQL.out] at hE
          refine hE.mono ?_
          clear hE
          rintro e w5 ⟨_, h5, hb5⟩
          obtain ⟨v5, rfl, hv5⟩ := h5 HCn.out
          rw [HEn.out, ← HPP.out] at hv5
          obtain ⟨A5, c5, rfl⟩ := Kd.R_slice hv5
          have HB5 := Lib.hid (below_tr HB4.out hb5)
          have HMm5 := Lib.hid (HMm4.out.later hb5)
          have HMn5 := Lib.hid (HMn4.out.later hb5)
          have HV5 := Lib.hid (Kd.R_reads' hv5).2
          have HV45 := Lib.hid (Kd.C_below HV4.out.2 hb5)
          clear hv5 hb5 h5 n0 n1 n2
          obtain ⟨⟨n0, n1, n2⟩, _⟩ := cell3 HMn5.out.blk
          rw [HQL.out] at n2
          have HD : Hid (decM lg false qn p b.length = (0, b)) := Lib.hid (by rw [HPP.out, ← HEn.out]; exact dec_of_enc HCn.out HX.out.2)
          go_wp2_with fail
          have hE := decodeL_any lg false (some ⟨g, 0, none⟩) 256 qn A4 c4 p b.length w5 HMn5.out.row (by have := HQL.out; omega) HV45.out HPB.out (by omega)
          rw [HQL.out] at hE
          refine hE.mono ?_
          clear hE
          rintro e w6 ⟨⟨v6, rfl, hv6⟩, hb6⟩
          rw [HD.out] at hv6 ⊢
          obtain ⟨A6, c6, rfl⟩ := Kd.R_slice hv6
          have HB6 := Lib.hid (below_tr HB5.out hb6)
          have HMm6 := Lib.hid (HMm5.out.later hb6)
          have HMn6 := Lib.hid (HMn5.out.later hb6)
          have HV6 := Lib.hid (Kd.R_reads' hv6).2
          have HV46 := Lib.hid (Kd.C_below HV45.out hb6)
          have HV56 := Lib.hid (Kd.C_below HV5.out.2 hb6)
          clear hv6 hb6 n0 n1 n2
          dsimp only
          obtain ⟨⟨n0, n1, n2⟩, _⟩ := cell3 HMn6.out.blk
          rw [HQL.out] at n2
          obtain ⟨⟨m0, m1, m2x⟩, _⟩ := cell3 HMm6.out.blk
          have m2 : w6.cell? ⟨mb0, 2, none⟩ = some (.slice (some ⟨g0, 0, none⟩) 1 cq) := m2x
          clear m2x
          obtain ⟨L, hL⟩ : ∃ L, L = bitsM lg true [q] b := ⟨_, rfl⟩
          have HBm : Hid (∀ W : World, Below w6.heap.size w6 W → Calls Try.prog 16 #[.agg #[.int .i64 lg, .bool true, .slice (some ⟨g0, 0, none⟩) 1 cq], .slice A b.length ca] W fun e W' => e = .returned (.int .i64 L) ∧ Below w6.heap.size w6 W') := Lib.hid fun W hbW => by
            refine (bitsL_any lg true (some ⟨g0, 0, none⟩) cq [q] A ca b W (Kd.C_below HMm6.out.row hbW) (by simp) (Kd.C_below HR.out (below_tr HB6.out hbW)) HX.out.2 (by have := HL.out.1; omega)).mono ?_
            rw [← hL]
            rintro e W' ⟨rfl, h⟩
            exact ⟨rfl, below_tr hbW h⟩
          have HBn : Hid (∀ W : World, Below w6.heap.size w6 W → Calls Try.prog 16 #[.agg #[.int .i64 lg, .bool false, .slice (some ⟨g, 0, none⟩) 256 256], .slice A b.length ca] W fun e W' => e = .returned (.int .i64 L) ∧ Below w6.heap.size w6 W') := Lib.hid fun W hbW => by
            have hE := bitsL_any lg false (some ⟨g, 0, none⟩) 256 qn A ca b W (Kd.C_below HMn6.out.row hbW) (by have := HQL.out; omega) (Kd.C_below HR.out (below_tr HB6.out hbW)) HX.out.2 (by have := HL.out.1; omega)
            rw [HQL.out, HTn.out, ← hL] at hE
            refine hE.mono ?_
            rintro e W' ⟨rfl, h⟩
            exact ⟨rfl, below_tr hbW h⟩
          clear hL
          have HS1 : Hid (∀ W : World, Below w6.heap.size w6 W → Calls Try.prog 15 #[.slice A4 p.length c4, .slice A5 p.length c5] W fun e w' => e = .returned (.bool true) ∧ W = w') := Lib.hid fun W hbW => by
            have := same_any A4 A5 c4 c5 p p W (Kd.C_below HV46.out hbW) (Kd.C_below HV56.out hbW) HPB.out HPB.out
            rw [decide_eq_true rfl] at this; exact this
          have HS2 : Hid (∀ W : World, Below w6.heap.size w6 W → Calls Try.prog 15 #[.slice A6 b.length c6, .slice A b.length ca] W fun e w' => e = .returned (.bool true) ∧ W = w') := Lib.hid fun W hbW => by
            have := same_any A6 A c6 ca b b W (Kd.C_below HV6.out.2 hbW) (Kd.C_below HR.out (below_tr HB6.out hbW)) HX.out.2 HX.out.2
            rw [decide_eq_true rfl] at this; exact this
          go_wp2_with fail
          go_region_held3 (fun w' => w'.cell? ⟨mb0, 0, none⟩ = some (.int .i64 lg) ∧ w'.cell? ⟨mb0, 1, none⟩ = some (.bool true) ∧ w'.cell? ⟨mb0, 2, none⟩ = some (.slice (some ⟨g0, 0, none⟩) 1 cq) ∧ w'.cell? ⟨mb, 0, none⟩ = some (.int .i64 lg) ∧ w'.cell? ⟨mb, 1, none⟩ = some (.bool false) ∧ w'.cell? ⟨mb, 2, none⟩ = some (.slice (some ⟨g, 0, none⟩) 256 256)) ((repeat' apply And.intro) <;> first | assumption)
            (first
              | (go_at_call 15; (first | with_reducible refine (HS1.out _ ?_).mono ?_ | with_reducible refine (HS2.out _ ?_).mono ?_); (first | assumption | exact (Below.refl _ _).drew | exact below_drewN (Below.refl _ _) _ | exact Below.refl _ _); rintro e w7 ⟨rfl, rfl⟩)
              | (go_at_call 16; (first | with_reducible refine (HBm.out _ ?_).mono ?_ | with_reducible refine (HBn.out _ ?_).mono ?_); (first | assumption | exact (Below.refl _ _).drew | exact below_drewN (Below.refl _ _) _ | exact Below.refl _ _); rintro e w7 ⟨rfl, hb7⟩; obtain ⟨k0, k1, k2⟩ := mcells (w := w6) hb7 (blk_lt HMm6.out.blk) m0 m1 m2; obtain ⟨l0, l1, l2⟩ := mcells (w := w6) hb7 (blk_lt HMn6.out.blk) n0 n1 n2))
          all_goals
            go_wp2_with fail
            go_ret
            exact ⟨rfl, below_tr HB6.out (by first | assumption | exact (Below.refl _ _).drew | exact below_drewN (Below.refl _ _) _ | exact Below.refl _ _)⟩
  · have tail : ∀ d1 d2 : Bool, decide (60 < (b.length : Int)) = d1 → ((b.length : Int) == 0) = d2 → (d1 || d2) = true →
        Calls Try.prog 9 #[.slice A b.length ca] w (Ret (.bool true) w) := by
      intro d1 d2 e1 e2 h
      clear h1
      cases d1 <;> cases d2 <;> first
        | (exfalso; revert h; decide)
        | (clear h
           go_enter Try.func9, Try.ntmps9
           go_wp2_with fail
           refine (awake_any w).mono ?_
           rintro e w1 ⟨rfl, hb1⟩
           have HB1 := Lib.hid hb1
           clear hb1
           go_wp2_with fail
           go_ret
           exact ⟨rfl, HB1.out⟩)
    refine tail _ _ rfl rfl ?_
    by_cases a1 : 60 < b.length
    · rw [decide_eq_true (by omega)]; rfl
    · rw [show ((b.length : Int) == 0) = true by rw [show b.length = 0 by omega]; rfl]; simp
theorem lanesLists_law (A : Option Addr) (ca : Nat) (b : List Int) (w : World) (hr : (Kd.int .u8).C w A b.length b) (hc : b.length ≤ ca) (hby : Bytes b) (_ : b.length * 1 ≤ 140737488351232) :
    Calls Try.prog 9 #[.slice A b.length ca] w (Ret (.bool true) w) := lanesLists_any A ca b w hr hc hby
end Go.Proofs.Ytfnobinenolhhaa
