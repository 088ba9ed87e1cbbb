/- The walks of header.wrong, must, counts: what panics. -/
import Derived.Test.YtdkemdcflbadhaaGreatHS1
import Derived.Test.YtdkemdcflbadhaaGreatHM4
import Derived.Test.YtdkemdcflbadhaaGreatHM1
import Derived.Test.YtdkemdcflbadhaaGreatHM2
import Derived.Test.YtdkemdcflbadhaaGreatHR1
import Derived.Test.YtdkemdcflbadhaaGreatHR2
import Derived.Test.YtdkemdcflbadhaaGreatHM0
import Derived.BigQuiet
import Derived.Deep.QuietTactic
import Derived.Deep.MidRow
import Derived.Deep.RegionHeld3
import Derived.Deep.RegionLaw
import Derived.Laws.BitsAllLaws
import Derived.RangeFuncRecord
import Derived.RangeFuncSeq
import Derived.WalkKit
import Derived.OwnWalkIn
import Derived.TacticsInMore
import Derived.BigFrameIn
import Derived.LoopNIn
import Derived.LoopIn
import Derived.Maps.OwnIn
import Derived.Maps.AppendAt
import Derived.RangeFuncBox
import Derived.OwnWalk
import Derived.WalkMore
import Derived.Laws.EntriesVeiled
namespace Go.Proofs.YtdkemdcflbadhaaGreat
open Go.RowKit Go.IntWalk Go.Proofs.YtdkemdcflbadhaaGreatW.PrintWords
/-- what holds in the loop of counts -/
structure HcRel (base p g : Nat) (ps : List Int) (H : Int × List Int × Nat) (w : World) (left s : Nat) (again : Bool) (q : List Int) (at_ d : Nat) (wr : World) : Prop where
  rd : RfAt wr base p ps at_
  row : (Kd.int .i64).R 3 wr w.heap.size (fun _ => True) (.slice (some ⟨g, 0, none⟩) 256 256) q
  ql : q.length = 256
  at_le : at_ ≤ 8 * ps.length
  eq : hdrT ps (8 * ps.length) d q s left again at_ = H
  fuel : 257 ≤ s + d
  only : Only (fun k => k = p) w wr
  gt : p < g ∧ w.heap.size ≤ g
theorem HcRel.put {base p g : Nat} {ps : List Int} {H : Int × List Int × Nat} {w wr w1 : World} {left s : Nat} {again : Bool} {q : List Int} {at_ d : Nat} (h : HcRel base p g ps H w left s again q at_ d wr) {at2 : Nat} (hr : RfAt w1 base p ps at2) (ho : Only (fun k => k = p) wr w1) (x : Int) :
    RfAt (w1.setCell ⟨g, s, none⟩ (.int .i64 x)) base p ps at2 ∧ (Kd.int .i64).R 3 (w1.setCell ⟨g, s, none⟩ (.int .i64 x)) w.heap.size (fun _ => True) (.slice (some ⟨g, 0, none⟩) 256 256) (q.set s x) ∧ Only (fun k => k = p) w (w1.setCell ⟨g, s, none⟩ (.int .i64 x)) ∧
      (Kd.int .i64).R 3 w1 w.heap.size (fun _ => True) (.slice (some ⟨g, 0, none⟩) 256 256) q := by
  have hgp := h.gt
  have h1 : (Kd.int .i64).R 3 w1 w.heap.size (fun _ => True) (.slice (some ⟨g, 0, none⟩) 256 256) q := flat_only rfl h.row ho (fun k hk e => by
    have : g = k := by simpa [Value.ownBlock] using hk
    omega)
  have h2 := Kd.R_putn h1 (s : Int) x
  rw [Int.toNat_natCast] at h2
  refine ⟨hr.far hgp.1 s _, h2, ?_, h1⟩
  have h3 := h.only.trans ho
  exact ⟨h3.os, h3.tape, h3.output, by simp; exact h3.size, fun k hk hs => by rw [Below.heap_setCell _ _ _ _ (by show k ≠ g; omega)]; exact h3.block k hk hs⟩
end Go.Proofs.YtdkemdcflbadhaaGreat
namespace Go.Proofs.YtdkemdcflbadhaaGreat
open Go.RowKit Go.Proofs.YtdkemdcflbadhaaGreatW.PrintWords
open HeapL
def claimN (rest : List Int) (s : Nat) : K3 := ((s : Int), rest.getD s 0, 0)
def candN (rest : List Int) (had : List Bool) (k : Nat) : List K3 := ((List.range k).filter (fun s => !had.getD s false)).map (claimN rest)
def claimT (c q : List Int) (s : Nat) : K3 := ((s : Int), q.getD s 0, (1073741824 - c.getD s 0) * 256 + s)
def candT (c q : List Int) (k : Nat) : List K3 := ((List.range k).filter (fun s => decide (0 < c.getD s 0))).map (claimT c q)
theorem candN_succ (rest : List Int) (had : List Bool) (k : Nat) : candN rest had (k + 1) = if had.getD k false = false then candN rest had k ++ [claimN rest k] else candN rest had k := by
  unfold candN
  have e : [k].filter (fun s => !had.getD s false) = if had.getD k false = false then [k] else [] := by
    rw [List.filter_cons, List.filter_nil]; cases had.getD k false <;> rfl
  rw [List.range_succ, List.filter_append, List.map_append, e]
  split
  · rfl
  · rw [List.map_nil, List.append_nil]
theorem candT_succ (c q : List Int) (k : Nat) : candT c q (k + 1) = if 0 < c.getD k 0 then candT c q k ++ [claimT c q k] else candT c q k := by
  unfold candT
  rw [List.range_succ, List.filter_append, List.map_append, List.filter_cons, List.filter_nil]
  by_cases h : 0 < c.getD k 0
  · rw [if_pos h, if_pos (decide_eq_true h)]; rfl
  · rw [if_neg h, if_neg (by rw [decide_eq_false h]; decide), List.map_nil, List.append_nil]
theorem candN_len (rest : List Int) (had : List Bool) (k : Nat) : (candN rest had k).length ≤ k := by
  unfold candN; rw [List.length_map]; exact Nat.le_trans (List.length_filter_le _ _) (by simp)
theorem candT_len (c q : List Int) (k : Nat) : (candT c q k).length ≤ k := by
  unfold candT; rw [List.length_map]; exact Nat.le_trans (List.length_filter_le _ _) (by simp)
theorem part_at {p : Nat → Bool} {t : Nat} (ht : t < 256) (hp : p t = true) : ((List.range 256).filter p).Perm (t :: (List.range 256).filter (fun s => p s && decide (s ≠ t))) := by
  have hm : t ∈ (List.range 256).filter p := List.mem_filter.2 ⟨List.mem_range.2 ht, hp⟩
  have hn : ((List.range 256).filter p).Nodup := List.Pairwise.filter _ List.nodup_range
  have e : ((List.range 256).filter p).erase t = (List.range 256).filter (fun s => p s && decide (s ≠ t)) := by
    rw [hn.erase_eq_filter, List.filter_filter]
    refine List.filter_congr fun s _ => ?_
    rw [Bool.and_comm]
    congr 1
    by_cases h : s = t <;> simp [h]
  rw [← e]
  exact List.perm_cons_erase hm
theorem need_spec (rest : List Int) (had : List Bool) : ∀ k s, s < k → had.getD s false = false → 0 ≤ needN rest had k ∧ (rest.getD s 0 < rest.getD (needN rest had k).toNat 0 ∨ rest.getD s 0 = rest.getD (needN rest had k).toNat 0 ∧ needN rest had k ≤ s)
  | 0, s, h, _ => by omega
  | k + 1, s, h, hs => by
    have hl := needN_lt rest had k
    simp only [needN]
    by_cases e : s = k
    · subst e
      rw [if_neg (by rw [hs]; decide)]
      by_cases h1 : needN rest had s < 0
      · rw [if_pos h1, Int.toNat_natCast]; exact ⟨by omega, .inr ⟨rfl, Int.le_refl _⟩⟩
      · rw [if_neg h1]
        by_cases h2 : rest.getD s 0 > rest.getD (needN rest had s).toNat 0
        · rw [if_pos h2, Int.toNat_natCast]; exact ⟨by omega, .inr ⟨rfl, Int.le_refl _⟩⟩
        · rw [if_neg h2]; exact ⟨by omega, by omega⟩
    · obtain ⟨i1, i2⟩ := need_spec rest had k s (by omega) hs
      by_cases h0 : had.getD k false = true
      · rw [if_pos h0]; exact ⟨i1, i2⟩
      · rw [if_neg h0, if_neg (by omega)]
        by_cases h2 : rest.getD k 0 > rest.getD (needN rest had k).toNat 0
        · rw [if_pos h2, Int.toNat_natCast]; exact ⟨by omega, .inl (by omega)⟩
        · rw [if_neg h2]; exact ⟨i1, i2⟩
theorem rich_spec (q c : List Int) : ∀ k s, s < k → q.getD s 0 < q.getD (richN q c k) 0 ∨ q.getD s 0 = q.getD (richN q c k) 0 ∧ (c.getD (richN q c k) 0 < c.getD s 0 ∨ c.getD (richN q c k) 0 = c.getD s 0 ∧ s ≤ richN q c k)
  | 0, s, h => by omega
  | k + 1, s, h => by
    have hl := richN_lt q c k
    by_cases e : s = k
    · subst e
      simp only [richN]
      split
      · exact .inr ⟨rfl, .inr ⟨rfl, Nat.le_refl _⟩⟩
      · omega
    · have ih := rich_spec q c k s (by omega)
      simp only [richN]
      split
      · omega
      · exact ih
theorem mem_candN {rest : List Int} {had : List Bool} {x : K3} (h : x ∈ candN rest had 256) : ∃ s, s < 256 ∧ had.getD s false = false ∧ x = claimN rest s := by
  obtain ⟨s, hs, rfl⟩ := List.mem_map.1 h
  obtain ⟨h1, h2⟩ := List.mem_filter.1 hs
  exact ⟨s, List.mem_range.1 h1, by simpa using h2, rfl⟩
theorem candN_mem {rest : List Int} {had : List Bool} {s : Nat} (h : s < 256) (h2 : had.getD s false = false) : claimN rest s ∈ candN rest had 256 :=
  List.mem_map.2 ⟨s, List.mem_filter.2 ⟨List.mem_range.2 h, by show (!had.getD s false) = true; rw [h2]; rfl⟩, rfl⟩
theorem get_of_mem {ys : List K3} {x : K3} (h : x ∈ ys) : ∃ k, k < ys.length ∧ ys.getD k z3 = x := by
  obtain ⟨k, hk, rfl⟩ := List.getElem_of_mem h
  exact ⟨k, hk, by rw [List.getD_eq_getElem?_getD, List.getElem?_eq_getElem hk]; rfl⟩
theorem mem_get {ys : List K3} {k : Nat} (h : k < ys.length) : ys.getD k z3 ∈ ys := by
  rw [List.getD_eq_getElem?_getD, List.getElem?_eq_getElem h]; exact List.getElem_mem _
theorem give_root {rest : List Int} {had : List Bool} {ys : List K3} (hp : ys.Perm (candN rest had 256)) (hh : From lessC z3 ys 0 ys.length) (h0 : 0 < ys.length) :
    ∃ t : Nat, needN rest had 256 = t ∧ t < 256 ∧ had.getD t false = false ∧ ys.getD 0 z3 = claimN rest t := by
  obtain ⟨s, hs, hsf, e⟩ := mem_candN (hp.subset (mem_get h0))
  obtain ⟨n1, n2⟩ := need_spec rest had 256 s hs hsf
  obtain ⟨l1, l2, l3⟩ := needN_lt rest had 256
  obtain ⟨t, ht⟩ : ∃ t : Nat, needN rest had 256 = t := ⟨_, (Int.toNat_of_nonneg n1).symm⟩
  rw [ht] at n1 n2 l2 l3
  rw [Int.toNat_natCast] at n2 l3
  have hf := l3 (by omega)
  obtain ⟨k, hk, ek⟩ := get_of_mem (hp.symm.subset (candN_mem (rest := rest) (show t < 256 by omega) hf))
  have hr := From.root ordC hh (Nat.le_refl _) (fun _ _ => trivial) k hk
  rw [ek, e, lessC_false] at hr
  simp only [claimN, true_and, Int.lt_irrefl, false_or] at hr
  have est : s = t := by omega
  subst est
  exact ⟨s, ht, hs, hf, e⟩
theorem give_rest {rest : List Int} {had : List Bool} {ys zs : List K3} {t : Nat} (hl : had.length = 256) (ht : t < 256) (hf : had.getD t false = false) (hp : ys.Perm (candN rest had 256)) (h : (claimN rest t :: zs).Perm ys) : zs.Perm (candN rest (had.set t true) 256) := by
  have h1 := (part_at (p := fun s => !had.getD s false) ht (by show (!had.getD t false) = true; rw [hf]; rfl)).map (claimN rest)
  have h2 : (claimN rest t :: zs).Perm (claimN rest t :: ((List.range 256).filter (fun s => (!had.getD s false) && decide (s ≠ t))).map (claimN rest)) := (h.trans hp).trans h1
  have h3 := h2.cons_inv
  have e : candN rest (had.set t true) 256 = ((List.range 256).filter (fun s => (!had.getD s false) && decide (s ≠ t))).map (claimN rest) := by
    unfold candN
    congr 1
    refine List.filter_congr fun s hs => ?_
    rw [List.getD_eq_getElem?_getD, List.getElem?_set]
    by_cases e : t = s
    · subst e; rw [if_pos rfl, if_pos (by omega)]; simp
    · rw [if_neg e, ← List.getD_eq_getElem?_getD]
      have : ¬ s = t := fun x => e x.symm
      simp [this]
  rw [e]; exact h3
theorem mem_candT {c q : List Int} {x : K3} (h : x ∈ candT c q 256) : ∃ s, s < 256 ∧ 0 < c.getD s 0 ∧ x = claimT c q s := by
  obtain ⟨s, hs, rfl⟩ := List.mem_map.1 h
  obtain ⟨h1, h2⟩ := List.mem_filter.1 hs
  exact ⟨s, List.mem_range.1 h1, by simpa using h2, rfl⟩
theorem candT_mem {c q : List Int} {s : Nat} (h : s < 256) (h2 : 0 < c.getD s 0) : claimT c q s ∈ candT c q 256 :=
  List.mem_map.2 ⟨s, List.mem_filter.2 ⟨List.mem_range.2 h, decide_eq_true h2⟩, rfl⟩
theorem take_root {c q : List Int} {ys : List K3} (hi : ∀ s, 0 < q.getD s 0 ↔ 0 < c.getD s 0) (hp : ys.Perm (candT c q 256)) (hh : From lessC z3 ys 0 ys.length) (h0 : 0 < ys.length) :
    richN q c 256 < 256 ∧ 0 < c.getD (richN q c 256) 0 ∧ ys.getD 0 z3 = claimT c q (richN q c 256) := by
  obtain ⟨s, hs, hsf, e⟩ := mem_candT (hp.subset (mem_get h0))
  have n2 := rich_spec q c 256 s hs
  have l2 := richN_lt q c 256
  obtain ⟨t, ht⟩ : ∃ t : Nat, t = richN q c 256 := ⟨_, rfl⟩
  rw [← ht] at n2 l2 ⊢
  have hqs := (hi s).2 hsf
  have hct : 0 < c.getD t 0 := (hi t).1 (by omega)
  obtain ⟨k, hk, ek⟩ := get_of_mem (hp.symm.subset (candT_mem (q := q) (show t < 256 by omega) hct))
  have hr := From.root ordC hh (Nat.le_refl _) (fun _ _ => trivial) k hk
  rw [ek, e, lessC_false] at hr
  simp only [claimT] at hr
  have est : s = t := by omega
  subst est
  exact ⟨hs, hct, e⟩
theorem take_rest {c q : List Int} {ys zs us : List K3} {t : Nat} (hl : q.length = 256) (ht : t < 256) (hf : 0 < c.getD t 0) (hp : ys.Perm (candT c q 256)) (h : (claimT c q t :: zs).Perm ys)
    (hu : us.Perm (((t : Int), q.getD t 0 - 1, (1073741824 - c.getD t 0) * 256 + t) :: zs)) : us.Perm (candT c (q.set t (q.getD t 0 - 1)) 256) := by
  have hpa := part_at (p := fun s => decide (0 < c.getD s 0)) ht (decide_eq_true hf)
  have h2 : (claimT c q t :: zs).Perm (claimT c q t :: ((List.range 256).filter (fun s => (decide (0 < c.getD s 0)) && decide (s ≠ t))).map (claimT c q)) := (h.trans hp).trans (hpa.map (claimT c q))
  have h3 := h2.cons_inv
  have h4 := hpa.map (claimT c (q.set t (q.getD t 0 - 1)))
  rw [List.map_cons] at h4
  have e1 : claimT c (q.set t (q.getD t 0 - 1)) t = ((t : Int), q.getD t 0 - 1, (1073741824 - c.getD t 0) * 256 + t) := by
    unfold claimT; rw [getD_set _ _ _ _ (by omega), if_pos rfl]
  have e2 : ((List.range 256).filter (fun s => (decide (0 < c.getD s 0)) && decide (s ≠ t))).map (claimT c (q.set t (q.getD t 0 - 1))) = ((List.range 256).filter (fun s => (decide (0 < c.getD s 0)) && decide (s ≠ t))).map (claimT c q) := by
    refine List.map_congr_left fun s hs => ?_
    have hs2 := (List.mem_filter.1 hs).2
    have : s ≠ t := by simp at hs2; exact hs2.2
    unfold claimT; rw [getD_set _ _ _ _ (by omega), if_neg this]
  rw [e1, e2] at h4
  exact (hu.trans (h3.cons _)).trans h4.symm
end Go.Proofs.YtdkemdcflbadhaaGreat
namespace Go.Proofs.YtdkemdcflbadhaaGreat
open Go.RowKit Go.IntWalk Go.Proofs.YtdkemdcflbadhaaGreatW.PrintWords
open HeapL
structure GvRel (gq c B : Nat) (w : World) (qs : List Int) (p : Nat) (v : Value) (ys : List K3) (wr : World) : Prop where
  q : (Kd.int .i64).R 3 wr B (fun _ => True) (.slice (some ⟨gq, 0, none⟩) 256 c) qs
  h : CKp p B wr v ys
  ne : p ≠ gq ∧ v.ownBlock ≠ some gq
  heap : From lessC z3 ys 0 ys.length
  below : Below B w wr
  pB : B ≤ p
theorem GvRel.start {gq c B : Nat} {w : World} {qs : List Int} {l : Value} {xs : List K3} (hq : (Kd.int .i64).R 3 w B (fun _ => True) (.slice (some ⟨gq, 0, none⟩) 256 c) qs)
    (hl : k3.R 214 w B (fun k => k ≠ gq) l xs) (hB : B ≤ w.heap.size) :
    CKp w.heap.size B (w.alloc (.cells #[l] 212)) l xs ∧ (Kd.int .i64).R 3 (w.alloc (.cells #[l] 212)) B (fun _ => True) (.slice (some ⟨gq, 0, none⟩) 256 c) qs ∧
      w.heap.size ≠ gq ∧ l.ownBlock ≠ some gq ∧ Below B w (w.alloc (.cells #[l] 212)) := by
  have h1 := Kd.R_lt hq gq rfl
  refine ⟨⟨blk_new _ _, Kd.R_alloc (Kd.R_mono (Kd.R_bound hl) (fun k hk => by have := hk.2.2.1; omega)) _⟩, Kd.R_alloc hq _, by omega, fun e => hl.1 gq e rfl, (Below.refl _ _).alloc hB _⟩
theorem GvRel.of_init {gq c B : Nat} {w w1 w2 : World} {qs : List Int} {p : Nat} {v : Value} {ys : List K3} (hq : (Kd.int .i64).R 3 w1 B (fun _ => True) (.slice (some ⟨gq, 0, none⟩) 256 c) qs) (hp : p ≠ gq) (hv : v.ownBlock ≠ some gq) (hb : Below B w w1) (hB : B ≤ p) (hB1 : B ≤ w1.heap.size)
    (h : CKp p B w2 v ys) (hh : From lessC z3 ys 0 ys.length) (ho : Only (fun k => v.ownBlock = some k) w1 w2) : GvRel gq c B w qs p v ys w2 :=
  ⟨flat_only rfl hq ho (fun k hk e => hv (by rw [e, ← hk]; rfl)), h, ⟨hp, hv⟩, hh, hb.trans (ho.below hB1 (fun k e => Kd.R_base h.row k e)), hB⟩
theorem GvRel.popped {gq c B g n cap : Nat} {w w1 w2 : World} {qs : List Int} {p : Nat} {ys zs : List K3} (H : GvRel gq c B w qs p (.slice (some ⟨g, 0, none⟩) (n + 1) cap) ys w1) (hB1 : B ≤ w1.heap.size)
    (h : CKp p B w2 (.slice (some ⟨g, 0, none⟩) n cap) zs) (hh : From lessC z3 zs 0 n) (ho : Only (fun k => k = p ∨ k = g) w1 w2) : GvRel gq c B w qs p (.slice (some ⟨g, 0, none⟩) n cap) zs w2 := by
  have hg : g ≠ gq := fun e => H.ne.2 (by rw [e]; rfl)
  have hn := (Kd.R_reads' h.row).1
  exact ⟨flat_only rfl H.q ho (fun k hk e => by
    have hk' : gq = k := by simpa [Value.ownBlock] using hk
    subst hk'
    rcases e with e | e
    · exact H.ne.1 e.symm
    · exact hg e.symm), h, ⟨H.ne.1, fun e => hg (by simpa [Value.ownBlock] using e)⟩, by rw [← hn]; exact hh,
    H.below.trans (ho.below hB1 (fun k e => by rcases e with e | e; exact e ▸ H.pB; exact e ▸ Kd.R_base h.row g rfl)), H.pB⟩
theorem GvRel.put {gq c B : Nat} {w w1 : World} {qs : List Int} {p : Nat} {v : Value} {ys : List K3} (H : GvRel gq c B w qs p v ys w1) (t : Nat) (y : Int) : GvRel gq c B w (qs.set t y) p v ys (w1.setCell ⟨gq, t, none⟩ (.int .i64 y)) := by
  have ho : Only (fun k => k = gq) w1 (w1.setCell ⟨gq, t, none⟩ (.int .i64 y)) := (Only.refl _ _).set1 _ _
  have hr := Kd.R_putn H.q (t : Int) y
  rw [Int.toNat_natCast] at hr
  refine ⟨hr, ⟨blk_far H.h.blk (p := ⟨gq, t, none⟩) H.ne.1 _, ?_⟩, H.ne, H.heap, H.below.setCell (Kd.R_base H.q gq rfl) _, H.pB⟩
  exact Kd.R_mono (Kd.R_step (Kd.R_tight rfl H.h.row) (fun k hk hlt => ho.block k hlt (fun e => H.ne.2 (by rw [← e]; exact hk.symm)))) (fun k hk => H.h.row.1 k hk.symm)
theorem giveIt_succ {rest : List Int} {m : Nat} {st : List Int × List Bool} {t : Nat} (h : needN rest (giveIt rest m st).2 256 = t) : giveIt rest (m + 1) st = ((giveIt rest m st).1.set t ((giveIt rest m st).1.getD t 0 + 1), (giveIt rest m st).2.set t true) := by
  simp only [giveIt]; rw [h, Int.toNat_natCast]
/-- what holds after so many rounds -/
structure GvNum (rest : List Int) (had : List Bool) (ys : List K3) (k : Nat) (st : List Int × List Bool) : Prop where
  ql : st.1.length = 256
  hl : st.2.length = 256
  rng : ∀ s, 0 ≤ st.1.getD s 0 ∧ st.1.getD s 0 ≤ 8192 + k
  free : freeN st.2 + k = freeN had
  perm : ys.Perm (candN rest st.2 256)
theorem GvNum.some {rest : List Int} {had : List Bool} {ys : List K3} {k : Nat} {st : List Int × List Bool} (h : GvNum rest had ys k st) (hk : k < freeN had) : 0 < ys.length := by
  obtain ⟨s, hs, hf⟩ := free_exists h.hl (by have := h.free; omega)
  exact List.length_pos_of_mem (h.perm.symm.subset (candN_mem hs hf))
theorem GvNum.next {rest : List Int} {had : List Bool} {ys zs : List K3} {k t : Nat} {st : List Int × List Bool} (h : GvNum rest had ys k st) (ht : t < 256) (hf : st.2.getD t false = false) (hz : (claimN rest t :: zs).Perm ys) : GvNum rest had zs (k + 1) (st.1.set t (st.1.getD t 0 + 1), st.2.set t true) := by
  refine ⟨by simp [h.ql], by simp [h.hl], fun s => ?_, ?_, give_rest h.hl ht hf h.perm hz⟩
  · show 0 ≤ (st.1.set t (st.1.getD t 0 + 1)).getD s 0 ∧ (st.1.set t (st.1.getD t 0 + 1)).getD s 0 ≤ 8192 + ((k + 1 : Nat) : Int)
    rw [getD_set _ _ _ _ (by rw [h.ql]; exact ht)]
    have h1 := h.rng t; have h2 := h.rng s
    split <;> omega
  · have := free_set (s := t) (by rw [h.hl]; exact ht) hf
    have := h.free
    show freeN (st.2.set t true) + (k + 1) = _
    omega
theorem cfield0 (a b c : Value) (w : World) : (Instr.field 214 (.agg #[a, b, c]) 0).run Tryz.prog w = .ok a w := by kernel_rfl
def GivePost (gq c B : Nat) (qs' : List Int) (w : World) (e : Ending) (w' : World) : Prop := e = .returned (.tuple #[]) ∧ (Kd.int .i64).R 3 w' B (fun _ => True) (.slice (some ⟨gq, 0, none⟩) 256 c) qs' ∧ Below B w w'
set_option maxRecDepth 100000 in
set_option maxHeartbeats 1000000 in
theorem give_any (gq c B : Nat) (qs : List Int) (l : Value) (rest : List Int) (had : List Bool) (m : Nat) (w : World) (hq : (Kd.int .i64).R 3 w B (fun _ => True) (.slice (some ⟨gq, 0, none⟩) 256 c) qs)
    (hl : k3.R 214 w B (fun k => k ≠ gq) l (candN rest had 256)) (hB : B ≤ w.heap.size) (hqs : qs.length = 256) (hhl : had.length = 256) (hr : ∀ s, 0 ≤ qs.getD s 0 ∧ qs.getD s 0 ≤ 8192) (hm : m ≤ freeN had) (hm2 : m ≤ 4096) :
    Calls Tryz.prog 199 #[.slice (some ⟨gq, 0, none⟩) 256 c, l, .int .i64 m] w (GivePost gq c B (giveIt rest m (qs, had)).1 w) := by
  have HS := Lib.hid (GvRel.start hq hl hB)
  have HM := Lib.hid (And.intro hB (And.intro hqs (And.intro hhl (And.intro hr hm))))
  clear hq hl hB hqs hhl hr hm
  obtain ⟨A, cl, rfl⟩ := Kd.R_slice HS.out.1.row
  have ta := cassertKey
  go_enter Tryz.func199, Tryz.ntmps199
  go_wp2_with fail
  refine (cinit_any _ HS.out.1 (by have := candN_len rest had 256; omega)).mono ?_
  rintro e w2 ⟨rfl, ys, h1, h2, h3, h4⟩
  have HI : Hid (GvRel gq c B w qs w.heap.size (.slice A (candN rest had 256).length cl) ys w2 ∧ GvNum rest had ys 0 (qs, had)) :=
    ⟨GvRel.of_init HS.out.2.1 HS.out.2.2.1 HS.out.2.2.2.1 HS.out.2.2.2.2 HM.out.1 (by simp; have := HM.out.1; omega) h1 h3 h4, ⟨HM.out.2.1, HM.out.2.2.1, fun s => by have := HM.out.2.2.2.1 s; show 0 ≤ qs.getD s 0 ∧ qs.getD s 0 ≤ 8192 + ((0 : Nat) : Int); omega, rfl, h2⟩⟩
  clear h1 h2 h3 h4
  go_wp2_with fail
  go_loopw [9] (fun kv wr => ∃ (k : Nat) (v : Value) (ys : List K3), kv = .int .i64 k ∧ k ≤ m ∧ Hid (GvRel gq c B w (giveIt rest k (qs, had)).1 w.heap.size v ys wr ∧ GvNum rest had ys k (giveIt rest k (qs, had)))) (fun kv _ => m - (intOf kv).toNat)
  case atStart => exact ⟨0, _, ys, rfl, by omega, HI⟩
  case round =>
    obtain ⟨k, v, ys, rfl, hk, H⟩ := hrel
    by_cases hlt : k < m
    · have hpos := H.out.2.some (by have := HM.out.2.2.2.2; omega)
      obtain ⟨g, cap, rfl, -⟩ := Kd.R_form H.out.1.h.row hpos
      obtain ⟨t, ht1, ht2, ht3, ht4⟩ := give_root H.out.2.perm H.out.1.heap hpos
      obtain ⟨n, hn⟩ : ∃ n, ys.length = n + 1 := ⟨ys.length - 1, by omega⟩
      rw [hn] at H
      have hn6 : n ≤ 100000 := by have := H.out.2.perm.length_eq; have := candN_len rest (giveIt rest k (qs, had)).2 256; omega
      have HT := Lib.hid (And.intro ht1 (And.intro ht2 (And.intro ht3 (And.intro ht4 hn))))
      have HBr : Hid (B ≤ wr.heap.size) := Nat.le_trans HM.out.1 H.out.1.below.size
      clear ht1 ht3 ht4 hn hpos
      go_wp2_with fail
      refine (chpop_any ordC _ H.out.1.h hn6 (fun _ _ => trivial) (by have := H.out.1.heap; rw [HT.out.2.2.2.2] at this; exact this)).mono ?_
      rintro e w3 ⟨rfl, zs, h1, h2, h3, h4⟩
      have H3 : Hid (GvRel gq c B w (giveIt rest k (qs, had)).1 w.heap.size (.slice (some ⟨g, 0, none⟩) n cap) zs w3) := GvRel.popped H.out.1 HBr.out h1 h3 h4
      rw [HT.out.2.2.2.1] at h2 ⊢
      have HZ := Lib.hid (GvNum.next H.out.2 ht2 HT.out.2.2.1 h2)
      clear h1 h2 h3 h4
      obtain ⟨hc3, hf3⟩ := ints_cells H3.out.q t ht2
      obtain ⟨hy0, hy1⟩ := H.out.2.rng t
      obtain ⟨y, hy⟩ : ∃ y, y = (giveIt rest k (qs, had)).1.getD t 0 := ⟨_, rfl⟩
      rw [← hy] at hc3 hy0 hy1
      have HY := Lib.hid hy
      have ht256 : (t : Int) < 256 := by omega
      clear hy
      simp only [claimN]
      obtain ⟨z, hz⟩ : ∃ z, z = rest.getD t 0 := ⟨_, rfl⟩
      rw [← hz]
      have fd := cfield0 (.int .i64 t) (.int .i64 z) (.int .i64 0)
      clear hz
      go_wp2_with fail
      go_roundw
      case rel =>
        have hg := giveIt_succ (st := (qs, had)) HT.out.1
        refine ⟨k + 1, .slice (some ⟨g, 0, none⟩) n cap, zs, by go_num, by omega, ?_⟩
        rw [hg, ← HY.out]
        exact ⟨H3.out.put t (y + 1), by rw [HY.out]; exact HZ.out⟩
      case measure => simp [intOf]; omega
    · have hkm : k = m := by omega
      subst hkm
      go_wp2_with fail
      go_end0
      exact ⟨rfl, H.out.1.q, H.out.1.below⟩
end Go.Proofs.YtdkemdcflbadhaaGreat
namespace Go.Proofs.YtdkemdcflbadhaaGreat
open Go.RowKit Go.IntWalk Go.Proofs.YtdkemdcflbadhaaGreatW.PrintWords
open HeapL
structure TkRel (gq cq B : Nat) (W0 : World) (qs : List Int) (p : Nat) (v : Value) (ys : List K3) (wr : World) : Prop where
  q : (Kd.int .i64).R 3 wr B (fun _ => True) (.slice (some ⟨gq, 0, none⟩) 256 cq) qs
  h : CKp p B wr v ys
  ne : p ≠ gq ∧ v.ownBlock ≠ some gq
  below : Below B W0 wr
  pB : B ≤ p
theorem TkRel.gv {gq cq B : Nat} {W0 : World} {qs : List Int} {p : Nat} {v : Value} {ys : List K3} {wr : World} (h : TkRel gq cq B W0 qs p v ys wr) (hh : From lessC z3 ys 0 ys.length) : GvRel gq cq B W0 qs p v ys wr := ⟨h.q, h.h, h.ne, hh, h.below, h.pB⟩
theorem TkRel.start {gq cq B : Nat} {W0 w : World} {qs : List Int} (hq : (Kd.int .i64).R 3 w B (fun _ => True) (.slice (some ⟨gq, 0, none⟩) 256 cq) qs) (hb : Below B W0 w) (hB : B ≤ w.heap.size) :
    TkRel gq cq B W0 qs w.heap.size (.slice none 0 0) [] (w.alloc (.cells #[.slice none 0 0] 212)) := by
  have h1 := Kd.R_lt hq gq rfl
  exact ⟨Kd.R_alloc hq _, ⟨blk_new _ _, Kd.R_nil _ _ _ _ _⟩, ⟨by omega, by simp [Value.ownBlock]⟩, hb.alloc hB _, hB⟩
/-- one more is appended, and the cell is stored -/
theorem TkRel.app {gq cq B : Nat} {W0 W wa : World} {qs : List Int} {p : Nat} {v v1 : Value} {ys zs : List K3} (H : TkRel gq cq B W0 qs p v ys W) (hB : B ≤ W.heap.size) (hr : k3.R 214 wa B (fun k => k ≠ p) v1 zs) (hg : W.grownBy wa v.ownBlock)
    (hat : v1.ownBlock = v.ownBlock ∨ ∃ b, v1.ownBlock = some b ∧ W.heap.size ≤ b) : TkRel gq cq B W0 qs p v1 zs (wa.setCell ⟨p, 0, none⟩ v1) := by
  have hpv : some p ≠ v.ownBlock := fun e => H.h.row.1 p e.symm rfl
  have hgl := Kd.R_lt H.q gq rfl
  have hb1 := blk_grown H.h.blk hg hpv
  have hne1 : v1.ownBlock ≠ some gq := fun e => by
    rcases hat with h | ⟨b, h, hle⟩
    · exact H.ne.2 (by rw [← h]; exact e)
    · rw [h] at e; injection e with e; omega
  have h1 := Kd.R_grown1 H.q rfl hg H.ne.2
  have ho : Only (fun k => k = p) wa (wa.setCell ⟨p, 0, none⟩ v1) := (Only.refl _ _).set1 _ _
  refine ⟨flat_only rfl h1 ho (fun k hk e => H.ne.1 (by rw [← e]; simpa [Value.ownBlock] using hk.symm)), ⟨blk_set hb1 0 _, Kd.R_far (p := ⟨p, 0, none⟩) hr (fun k hk => hk) _⟩, ⟨H.ne.1, hne1⟩, ?_, H.pB⟩
  exact (below_of_grown H.below hg (fun k hk => Kd.R_base H.h.row k hk) hB).setCell H.pB _
theorem GvRel.alloc {gq c B : Nat} {w : World} {qs : List Int} {p : Nat} {v : Value} {ys : List K3} {wr : World} (H : GvRel gq c B w qs p v ys wr) (hB : B ≤ wr.heap.size) (o : Obj) : GvRel gq c B w qs p v ys (wr.alloc o) :=
  ⟨Kd.R_alloc H.q o, H.h.below ((Below.refl _ _).alloc (Nat.le_refl _) o), H.ne, H.heap, H.below.alloc hB o, H.pB⟩
theorem GvRel.far {gq c B : Nat} {w : World} {qs : List Int} {p : Nat} {v : Value} {ys : List K3} {wr : World} (H : GvRel gq c B w qs p v ys wr) {g : Nat} (h1 : g ≠ gq) (h2 : p ≠ g) (h3 : v.ownBlock ≠ some g) (hB : B ≤ g) (j : Nat) (u : Value) : GvRel gq c B w qs p v ys (wr.setCell ⟨g, j, none⟩ u) := by
  have ho : Only (fun k => k = g) wr (wr.setCell ⟨g, j, none⟩ u) := (Only.refl _ _).set1 _ _
  refine ⟨flat_only rfl H.q ho (fun k hk e => h1 (by rw [← e]; simpa [Value.ownBlock] using hk.symm)), ⟨blk_far H.h.blk (p := ⟨g, j, none⟩) h2 _, ?_⟩, H.ne, H.heap, H.below.setCell hB _, H.pB⟩
  exact Kd.R_mono (Kd.R_step (Kd.R_tight rfl H.h.row) (fun k hk hlt => ho.block k hlt (fun e => h3 (by rw [← e]; exact hk.symm)))) (fun k hk => H.h.row.1 k hk.symm)
theorem GvRel.pushed {gq c B : Nat} {w w1 w2 : World} {qs : List Int} {p : Nat} {v v' : Value} {ys zs : List K3} (H : GvRel gq c B w qs p v ys w1) (hB : B ≤ w1.heap.size) (h : CKp p B w2 v' zs) (hh : From lessC z3 zs 0 zs.length)
    (hat : v'.ownBlock = v.ownBlock ∨ ∃ b, v'.ownBlock = some b ∧ w1.heap.size ≤ b) (ho : Only (fun k => k = p ∨ v.ownBlock = some k) w1 w2) : GvRel gq c B w qs p v' zs w2 := by
  have hgl := Kd.R_lt H.q gq rfl
  refine ⟨flat_only rfl H.q ho (fun k hk e => ?_), h, ⟨H.ne.1, fun e => ?_⟩, hh, H.below.trans (ho.below hB (fun k e => ?_)), H.pB⟩
  · have hk' : gq = k := by simpa [Value.ownBlock] using hk
    subst hk'
    rcases e with e | e
    · exact H.ne.1 e.symm
    · exact H.ne.2 e
  · rcases hat with h | ⟨b, h, hle⟩
    · exact H.ne.2 (by rw [← h]; exact e)
    · rw [h] at e; injection e with e; omega
  · rcases e with e | e
    · exact e ▸ H.pB
    · exact Kd.R_base H.h.row k e
theorem takeIt_succ (c : List Int) (m : Nat) (q : List Int) : takeIt c (m + 1) q = (takeIt c m q).set (richN (takeIt c m q) c 256) ((takeIt c m q).getD (richN (takeIt c m q) c 256) 0 - 1) := rfl
def TakeOkay (c q : List Int) (m : Nat) : Prop := ∀ k, k ≤ m → (takeIt c k q).length = 256 ∧ (∀ s, 0 ≤ (takeIt c k q).getD s 0 ∧ (takeIt c k q).getD s 0 ≤ 100000) ∧ ∀ s, 0 < (takeIt c k q).getD s 0 ↔ 0 < c.getD s 0
def TkPost (gq cq B : Nat) (qs' : List Int) (W0 : World) (e : Ending) (w' : World) : Prop := e = .returned (.tuple #[]) ∧ (Kd.int .i64).R 3 w' B (fun _ => True) (.slice (some ⟨gq, 0, none⟩) 256 cq) qs' ∧ Below B W0 w'
set_option maxRecDepth 100000 in
set_option maxHeartbeats 2000000 in
theorem normTake_any (gq cq cc : Nat) (A : Option Addr) (W0 : World) (qs c : List Int) (m : Nat) (w : World) (hq : (Kd.int .i64).R 3 w W0.heap.size (fun _ => True) (.slice (some ⟨gq, 0, none⟩) 256 cq) qs)
    (hc : (Kd.int .i64).C W0 A 256 c) (hb : Below W0.heap.size W0 w) (hcl : c.length = 256) (hcr : ∀ s, 0 ≤ c.getD s 0 ∧ c.getD s 0 ≤ 1073741824) (hok : TakeOkay c qs m) (hm2 : m ≤ 2000000) (hpos : 0 < m → ∃ s, s < 256 ∧ 0 < c.getD s 0) :
    Calls Tryz.prog 200 #[.slice (some ⟨gq, 0, none⟩) 256 cq, .slice A 256 cc, .int .i64 m] w (TkPost gq cq W0.heap.size (takeIt c m qs) W0) := by
  have HQ := Lib.hid hq
  have HC := Lib.hid (And.intro hc (And.intro hcl hcr))
  have HO := Lib.hid hok
  have HP := Lib.hid hpos
  have HB := Lib.hid hb
  have HI : Hid (TkRel gq cq W0.heap.size W0 qs w.heap.size (.slice none 0 0) [] (w.alloc (.cells #[.slice none 0 0] 212))) := TkRel.start hq hb hb.size
  clear hq hc hb hcl hcr hok hpos
  go_enter Tryz.func200, Tryz.ntmps200
  go_wp2_with fail
  go_loopw [12] (fun kv wr => ∃ (k : Nat) (v : Value), kv = .int .i64 k ∧ k ≤ 256 ∧ Hid (TkRel gq cq W0.heap.size W0 qs w.heap.size v (candT c qs k) wr)) (fun kv _ => 256 - (intOf kv).toNat)
  case atStart => exact ⟨0, _, rfl, by omega, HI⟩
  case round =>
    obtain ⟨k, v, rfl, hk, H⟩ := hrel
    by_cases hlt : k < 256
    · obtain ⟨hqc, -⟩ := ints_cells H.out.q k hlt
      obtain ⟨y, hy⟩ : ∃ y, y = qs.getD k 0 := ⟨_, rfl⟩
      rw [← hy] at hqc
      have hy2 := (HO.out 0 (Nat.zero_le _)).2.1 k
      have hyc := (HO.out 0 (Nat.zero_le _)).2.2 k
      simp only [takeIt] at hy2 hyc
      rw [← hy] at hy2 hyc
      obtain ⟨hy0, hy1⟩ := hy2
      have HY := Lib.hid (And.intro hy hyc)
      clear hy hyc
      by_cases hpos : 0 < y
      · obtain ⟨ad, rfl, hcc⟩ := ints_get HC.out.1 k hlt
        obtain ⟨z, hz⟩ : ∃ z, z = c.getD k 0 := ⟨_, rfl⟩
        obtain ⟨hz0, hz1⟩ := HC.out.2.2 k
        rw [← hz] at hcc hz0 hz1
        have hcw := pw_cell_below H.out.below hcc
        have hcw2 : (wr.alloc (.cells #[.int .i64 k, .int .i64 y, .int .i64 (IntKind.i64.wrap (IntKind.i64.wrap (IntKind.i64.wrap (1073741824 - z) * 256) + (k : Int)))] 214)).cell? (ad.add k) = some (.int .i64 z) := pw_cell_below ((Below.refl _ _).alloc (Nat.le_refl _) _) hcw
        have HZ := Lib.hid hz
        have HE : Hid (IntKind.i64.wrap (IntKind.i64.wrap (IntKind.i64.wrap (1073741824 - z) * 256) + (k : Int)) = (1073741824 - z) * 256 + k) := by
          show _ = _
          rw [i64_in (1073741824 - z) (by omega), i64_in ((1073741824 - z) * 256) (by omega), i64_in ((1073741824 - z) * 256 + (k : Int)) (by omega)]
        clear hz hcc
        have hpc := H.out.h.cell
        have hpf := blk_frozen H.out.h.blk 0
        have hpl := blk_lt H.out.h.blk
        have hpn : ¬ w.heap.size = wr.heap.size := by omega
        have hpn' : ¬ wr.heap.size = w.heap.size := by omega
        have hfr : Hid (∀ k, wr.heap.size ≤ k → k ≠ w.heap.size) := fun k hk e => by omega
        have HL : Hid (((candT c qs k).length + 1) * 24 ≤ 140737488355328) := by show _ ≤ _; have := candT_len c qs k; omega
        have HN : Hid (some w.heap.size ≠ v.ownBlock) := fun e => H.out.h.row.1 _ e.symm rfl
        have HBr : Hid (W0.heap.size ≤ wr.heap.size) := H.out.below.size
        go_wp2_with fail
        go_region_law (first | (refine R_append_drew k3 (w0 := W0) (W := wr) W0.heap.size rfl (.tmp 19) (.tmp 31) 212 214 _ 24 rfl Tryz.underlying212 cinfoKey rfl (by decide) (by decide) v (candT c qs k) ((k : Int), y, IntKind.i64.wrap (IntKind.i64.wrap (IntKind.i64.wrap (1073741824 - z) * 256) + (k : Int))) [.int .i64 k, .int .i64 y, .int .i64 (IntKind.i64.wrap (IntKind.i64.wrap (IntKind.i64.wrap (1073741824 - z) * 256) + (k : Int)))] (fun k => k ≠ w.heap.size) (fun _ => False) rfl rfl (k3_mkM _ _ _ _) (fun _ h => h.elim) hfr.out H.out.h.row H.out.below HBr.out HL.out ?_; intro v1 w1 hr1 hb1 hg1 hat1; have hb2 := blk_grown H.out.h.blk hg1 HN.out; have hc2 : w1.cell? ⟨w.heap.size, 0, none⟩ = some v := (blk_cell hb2 0).trans rfl; have hf2 := blk_frozen hb2 0; have HT := Lib.hid (TkRel.app H.out HBr.out hr1 hg1 hat1); obtain ⟨A1, c1, rfl⟩ := Kd.R_slice hr1; simp only [List.length_append, List.length_singleton] at HT; clear hr1 hb1 hg1 hat1) | fail)
        all_goals
          go_wp2_with fail
          go_roundw
          case rel =>
            refine ⟨k + 1, .slice A1 ((candT c qs k).length + 1) c1, by go_num, by omega, ?_⟩
            rw [candT_succ, if_pos (HY.out.2.1 hpos)]
            unfold claimT
            rw [← HY.out.1, ← HZ.out, ← HE.out]
            exact HT.out
          case measure => simp [intOf]; omega
      · go_wp2_with fail
        go_roundw
        case rel =>
          refine ⟨k + 1, v, by go_num, by omega, ?_⟩
          rw [candT_succ, if_neg (fun h => hpos (HY.out.2.2 h))]
          exact H.out
        case measure => simp [intOf]; omega
    · obtain rfl : k = 256 := by omega
      obtain ⟨A1, c1, rfl⟩ := Kd.R_slice H.out.h.row
      have ta := cassertKey
      go_wp2_with fail
      refine (cinit_any _ H.out.h (by have := candT_len c qs 256; omega)).mono ?_
      rintro e w2 ⟨rfl, ys, h1, h2, h3, h4⟩
      have HI2 : Hid (GvRel gq cq W0.heap.size W0 qs w.heap.size (.slice A1 (candT c qs 256).length c1) ys w2 ∧ ys.Perm (candT c qs 256)) :=
        ⟨GvRel.of_init H.out.q H.out.ne.1 H.out.ne.2 H.out.below H.out.pB H.out.below.size h1 h3 h4, h2⟩
      clear h1 h2 h3 h4 H
      go_wp2_with fail
      go_loopw [37] (fun kv wr => ∃ (k : Nat) (v : Value) (ys : List K3), kv = .int .i64 k ∧ k ≤ m ∧ Hid (GvRel gq cq W0.heap.size W0 (takeIt c k qs) w.heap.size v ys wr ∧ ys.Perm (candT c (takeIt c k qs) 256))) (fun kv _ => m - (intOf kv).toNat)
      case atStart => exact ⟨0, _, ys, rfl, by omega, HI2⟩
      case round =>
        obtain ⟨k, v, ys, rfl, hk, H⟩ := hrel
        by_cases hlt : k < m
        · obtain ⟨hql, hqr, hqi⟩ := HO.out k hk
          have hpos : 0 < ys.length := by
            obtain ⟨s, hs, hsp⟩ := HP.out (by omega)
            exact List.length_pos_of_mem (H.out.2.symm.subset (candT_mem hs hsp))
          obtain ⟨g, cap, rfl, -⟩ := Kd.R_form H.out.1.h.row hpos
          obtain ⟨t, ht⟩ : ∃ t, t = richN (takeIt c k qs) c 256 := ⟨_, rfl⟩
          obtain ⟨ht1, ht2, ht3⟩ := take_root hqi H.out.2 H.out.1.heap hpos
          rw [← ht] at ht1 ht2 ht3
          obtain ⟨n, hn⟩ : ∃ n, ys.length = n + 1 := ⟨ys.length - 1, by omega⟩
          rw [hn] at H
          have hn6 : n ≤ 100000 := by have := H.out.2.length_eq; have := candT_len c (takeIt c k qs) 256; omega
          have HT := Lib.hid (And.intro ht (And.intro ht1 (And.intro ht2 (And.intro ht3 hn))))
          have HBr : Hid (W0.heap.size ≤ wr.heap.size) := H.out.1.below.size
          obtain ⟨hy0, hy1⟩ := hqr t
          have HQL := Lib.hid (And.intro hql hqi)
          have hct := (HC.out.2.2 t)
          clear ht ht2 ht3 hn hpos hqr hql hqi
          go_wp2_with fail
          refine (chpop_any ordC _ H.out.1.h hn6 (fun _ _ => trivial) (by have := H.out.1.heap; rw [HT.out.2.2.2.2] at this; exact this)).mono ?_
          rintro e w3 ⟨rfl, zs, h1, h2, h3, h4⟩
          have H3 : Hid (GvRel gq cq W0.heap.size W0 (takeIt c k qs) w.heap.size (.slice (some ⟨g, 0, none⟩) n cap) zs w3) := GvRel.popped H.out.1 HBr.out h1 h3 h4
          rw [HT.out.2.2.2.1] at h2 ⊢
          have HZ := Lib.hid h2
          clear h1 h2 h3 h4
          obtain ⟨hc3, hf3⟩ := ints_cells H3.out.q t ht1
          obtain ⟨y, hy⟩ : ∃ y, y = (takeIt c k qs).getD t 0 := ⟨_, rfl⟩
          have HY := Lib.hid hy
          simp only [claimT]
          rw [← hy] at hc3 hy0 hy1 ⊢
          obtain ⟨z, hz⟩ : ∃ z, z = (1073741824 - c.getD t 0) * 256 + (t : Int) := ⟨_, rfl⟩
          rw [← hz]
          have HZ2 := Lib.hid hz
          clear hy hz
          have hgl : gq < w3.heap.size := Kd.R_lt H3.out.q gq rfl
          have hg1 : ¬ gq = w3.heap.size := by omega
          have hg2 : ¬ w3.heap.size = gq := by omega
          have ht256 : (t : Int) < 256 := by omega
          go_wp2_with fail
          have H4 : Hid (GvRel gq cq W0.heap.size W0 ((takeIt c k qs).set t (y - 1)) w.heap.size (.slice (some ⟨g, 0, none⟩) n cap) zs ((w3.setCell ⟨gq, t, none⟩ (.int .i64 (y - 1))).alloc (.cells #[.int .i64 t, .int .i64 (y - 1), .int .i64 z] 214))) :=
            (H3.out.put t (y - 1)).alloc (H3.out.put t (y - 1)).below.size _
          have hzl : zs.length = n := by have := HZ.out.length_eq; rw [HT.out.2.2.2.2] at this; simpa using this
          refine (chpush_any ordC ((t : Int), y - 1, z) _ H4.out.h H4.out.below.size (by omega) (fun _ _ => trivial) trivial H4.out.heap).mono ?_
          rintro e w5 ⟨rfl, v', us, h1, h2, h3, h4, h5⟩
          have H5 : Hid (GvRel gq cq W0.heap.size W0 (takeIt c (k + 1) qs) w.heap.size v' us w5 ∧ us.Perm (candT c (takeIt c (k + 1) qs) 256)) := by
            have e := takeIt_succ c k qs
            rw [← HT.out.1, ← HY.out] at e
            refine ⟨by rw [e]; exact H4.out.pushed H4.out.below.size h1 h3 h4 h5, ?_⟩
            rw [e, HY.out]
            refine take_rest HQL.out.1 ht1 HT.out.2.2.1 H.out.2 HZ.out ?_
            rw [← HY.out, ← HZ2.out]
            exact h2
          clear h1 h2 h3 h4 h5
          go_wp2_with fail
          go_roundw
          case rel => exact ⟨k + 1, v', us, by go_num, by omega, H5⟩
          case measure => simp [intOf]; omega
        · have hkm : k = m := by omega
          subst hkm
          go_wp2_with fail
          go_end0
          exact ⟨rfl, H.out.1.q, H.out.1.below⟩
theorem normTake_at (gq cq cc : Nat) (A : Option Addr) (W0 : World) (B : Nat) (hB : B = W0.heap.size) (qs c : List Int) (m : Nat) (w : World) (hq : (Kd.int .i64).R 3 w B (fun _ => True) (.slice (some ⟨gq, 0, none⟩) 256 cq) qs)
    (hc : (Kd.int .i64).C W0 A 256 c) (hb : Below B W0 w) (hcl : c.length = 256) (hcr : ∀ s, 0 ≤ c.getD s 0 ∧ c.getD s 0 ≤ 1073741824) (hok : TakeOkay c qs m) (hm2 : m ≤ 2000000) (hpos : 0 < m → ∃ s, s < 256 ∧ 0 < c.getD s 0) :
    Calls Tryz.prog 200 #[.slice (some ⟨gq, 0, none⟩) 256 cq, .slice A 256 cc, .int .i64 m] w (TkPost gq cq B (takeIt c m qs) W0) := by
  subst hB; exact normTake_any gq cq cc A W0 qs c m w hq hc hb hcl hcr hok hm2 hpos
end Go.Proofs.YtdkemdcflbadhaaGreat
namespace Go.Proofs.YtdkemdcflbadhaaGreat
open Go.RowKit Go.IntWalk Go.Proofs.YtdkemdcflbadhaaGreatW.PrintWords Go.Proofs.YtdkemdcflbadhaaGreatW.PrintLast Go.Proofs.YtdkemdcflbadhaaGreatW.PrintMore
set_option maxRecDepth 100000 in
set_option maxHeartbeats 400000 in
theorem many_any (A : Option Addr) (cp : Nat) (c : List Int) (w : World) (hr : (Kd.int .i64).C w A c.length c) (hR : rightC c = true) :
    Calls Tryz.prog 142 #[.slice A c.length cp] w fun e w' => e = .returned (.int .i64 (manyC c)) ∧ w = w' := by
  have hm := hr.2.1
  have HR := Lib.hid (And.intro hr hR)
  clear hr hR
  go_enter Tryz.func142, Tryz.ntmps142
  go_wp2_with fail
  go_loop [3, 8] (fun mv kv => ∃ (k pc : Nat), mv = .int .i64 pc ∧ kv = .int .i64 k ∧ k ≤ c.length ∧ pc ≤ k ∧ Hid (pc = posC c k)) (fun _ kv => c.length - (intOf kv).toNat)
  case atStart => exact ⟨0, 0, rfl, rfl, by omega, by omega, by show _ = _; simp [posC]⟩
  case round =>
    obtain ⟨k, pc, rfl, rfl, hk, hpc, H⟩ := hrel
    by_cases hlt : k < c.length
    · obtain ⟨ad, rfl, hcell⟩ := ints_get HR.out.1 k hlt
      obtain ⟨x, hx⟩ : ∃ x, x = c.getD k 0 := ⟨_, rfl⟩
      rw [← hx] at hcell
      have HX := Lib.hid hx
      clear hx
      by_cases h0 : 0 < x
      · have HP : Hid (pc + 1 = posC c (k + 1)) := by show _ = _; rw [posC_succ _ _ hlt, ← HX.out, if_pos h0, ← H.out]
        go_wp2_with fail
        refine (histRight_any _ _ _ _ HR.out.1).mono ?_
        rintro e w' ⟨rfl, rfl⟩
        rw [HR.out.2]
        go_wp2_with fail
        go_round
        case rel => exact ⟨k + 1, pc + 1, by go_num, by go_num, by omega, by omega, HP⟩
        case measure => simp [intOf]; omega
      · have HP : Hid (pc = posC c (k + 1)) := by show _ = _; rw [posC_succ _ _ hlt, ← HX.out, if_neg h0, ← H.out]; rfl
        go_wp2_with fail
        go_round
        case rel => exact ⟨k + 1, pc, rfl, by go_num, by omega, by omega, HP⟩
        case measure => simp [intOf]; omega
    · obtain rfl : k = c.length := by omega
      have HE : Hid (pc = manyC c) := by
        show _ = _; rw [H.out]; unfold posC manyC; rw [if_pos HR.out.2, List.take_length]
      go_wp2_with fail
      go_ret
      exact ⟨ret_int (by rw [HE.out]), rfl⟩
set_option maxRecDepth 100000 in
theorem ceil_any (n : Nat) (w : World) (h : n ≤ 1000000) : Calls Tryz.prog 146 #[.int .i64 n] w fun e w' => e = .returned (.int .i64 (ceilI n)) ∧ w = w' := by
  by_cases h2 : n < 2
  · have HE : Hid (ceilI n = 0) := by
      show _ = _
      have : n = 0 ∨ n = 1 := by omega
      rcases this with rfl | rfl <;> rfl
    go_enter Tryz.func146, Tryz.ntmps146
    go_wp2_with fail
    go_ret
    exact ⟨ret_int (by rw [HE.out]; rfl), rfl⟩
  · go_enter Tryz.func146, Tryz.ntmps146
    go_wp2_with fail
    refine (width_any _ _ (by omega)).mono ?_
    rintro e w' ⟨rfl, rfl⟩
    go_wp2_with fail
    go_ret
    exact ⟨rfl, rfl⟩
theorem mx_max (a b : Int) : mx a b = max a b := by unfold mx; split <;> omega
theorem mn_min (a b : Int) : mn a b = min a b := by unfold mn; split <;> omega
set_option maxRecDepth 100000 in
theorem greatest_any (first x y : Int) (A : Option Addr) (cp : Nat) (w : World) (hr : (Kd.int .i64).C w A 2 [x, y]) :
    Calls Tryz.prog 144 #[.int .i64 first, .slice A 2 cp] w fun e w' => e = .returned (.int .i64 (mx (mx first x) y)) ∧ w = w' := by
  obtain ⟨ad, rfl, hc⟩ := ints_at hr (by decide)
  have h0 := hc 0 (by decide)
  have h1 := hc 1 (by decide)
  simp only [List.getD_cons_zero, List.getD_cons_succ] at h0 h1
  rw [show ad.add 0 = ad from rfl] at h0
  clear hc hr
  have h2 : w.cell? ⟨ad.block, ad.off + 1, none⟩ = some (.int .i64 y) := by rw [← h1]; simp [Addr.add]
  clear h1
  go_enter Tryz.func144, Tryz.ntmps144
  go_wp2_with fail
  go_loop [0, 9] (fun mv kv => (mv = .int .i64 first ∧ kv = .int .i64 0) ∨ (mv = .int .i64 (max first x) ∧ kv = .int .i64 1) ∨ (mv = .int .i64 (max (max first x) y) ∧ kv = .int .i64 2)) (fun _ kv => 2 - (intOf kv).toNat)
  case atStart => exact .inl ⟨rfl, rfl⟩
  case round =>
    rcases hrel with ⟨rfl, rfl⟩ | ⟨rfl, rfl⟩ | ⟨rfl, rfl⟩
    · go_wp2_with fail
      go_round
      case rel => exact .inr (.inl ⟨rfl, rfl⟩)
      case measure => simp [intOf]
    · go_wp2_with fail
      go_round
      case rel => exact .inr (.inr ⟨by rw [Int.max_assoc], rfl⟩)
      case measure => simp [intOf]
    · go_wp2_with fail
      go_ret
      exact ⟨ret_int (by rw [mx_max, mx_max, Int.max_assoc]), rfl⟩
theorem two_row {W : World} (x y : Int) {ok : Nat → Prop} (hok : ok W.heap.size) (base : Nat) (hb : base ≤ W.heap.size) : (Kd.int .i64).R 3 (W.alloc (.cells #[.int .i64 x, .int .i64 y] 3)) base ok (.slice (some ⟨W.heap.size, 0, none⟩) 2 2) [x, y] := by
  refine ⟨fun k hk => by cases hk; exact hok, [.int .i64 x, .int .i64 y], ⟨rfl, .inr ⟨W.heap.size, 2, #[.int .i64 x, .int .i64 y], by simp, hb, blk_new W _, by simp, by unfold maxLen; omega, rfl, rfl⟩⟩, ?_⟩
  refine Reps.snoc (ps := [x]) (cs := [.int .i64 x]) (p := y) (c := [.int .i64 y]) (Reps.snoc (ps := []) (cs := []) (p := x) (c := [.int .i64 x]) (Reps.none _ _) ?_ rfl) ?_ rfl
  · rfl
  · rfl
set_option maxRecDepth 100000 in
theorem pick_any (n m : Nat) (most : Int) (w : World) (hn : n ≤ 1000000) (hm : m ≤ 1000000) :
    Calls Tryz.prog 76 #[.int .i64 n, .int .i64 m, .int .i64 most] w fun e w' => e = .returned (.int .i64 (pickI n m most)) ∧ Below w.heap.size w w' := by
  have hf := floorI_le n (by omega)
  obtain ⟨f, hf1⟩ : ∃ f, f = floorI (n : Int) := ⟨_, rfl⟩
  rw [← hf1] at hf
  have H := Lib.hid hf1
  clear hf1
  have HC : Hid (∀ W : World, (Kd.int .i64).C (W.alloc (.cells #[.int .i64 5, .int .i64 (ceilI m)] 3)) (some ⟨W.heap.size, 0, none⟩) 2 [5, (ceilI m : Int)]) := fun W => by
    have := two_row (W := W) 5 (ceilI m : Int) (ok := fun _ => True) trivial W.heap.size (Nat.le_refl _)
    exact (Kd.R_reads' this).2.2
  go_enter Tryz.func76, Tryz.ntmps76
  go_wp2_with fail
  refine (floor_any _ _ (by omega)).mono ?_
  rintro e w' ⟨rfl, rfl⟩
  rw [← H.out]
  go_wp2_with fail
  refine (ceil_any _ _ hm).mono ?_
  rintro e w' ⟨rfl, rfl⟩
  go_wp2_with fail
  refine (greatest_any _ _ _ _ _ _ (HC.out _)).mono ?_
  rintro e w' ⟨rfl, rfl⟩
  go_wp2_with fail
  go_ret
  refine ⟨ret_int ?_, (Below.refl _ _).alloc (Nat.le_refl _) _⟩
  unfold pickI
  rw [← H.out, mn_min]
end Go.Proofs.YtdkemdcflbadhaaGreat
namespace Go.Proofs.YtdkemdcflbadhaaGreat
open Go.RowKit Go.IntWalk Go.Proofs.YtdkemdcflbadhaaGreatW.PrintWords
open HeapL
/-- what holds behind the first k symbols -/
structure CnRel (N : Nat) (w0 : World) (c : List Int) (P n : Int) (k : Nat) (v : Value) (S : Int) (w : World) : Prop where
  q : (Kd.int .i64).R 3 w N (fun _ => True) (.slice (some ⟨N, 0, none⟩) 256 256) (qTo c P n k)
  l : k3.R 214 w N (fun b => b ≠ N) v (candN (restL c P n) (hadL c P n) k)
  below : Below N w0 w
  sum : S = (qTo c P n k).sum
  rng : 0 ≤ S ∧ S ≤ 4096 * k
theorem hadL_get (c : List Int) (P n : Int) {k : Nat} (hk : k < 256) : (hadL c P n).getD k false = decide (c.getD k 0 * P / n = 0) := by
  unfold hadL; rw [List.getD_eq_getElem?_getD, List.getElem?_map, List.getElem?_range hk]; rfl
theorem qTo_succ (c : List Int) (P n : Int) {k : Nat} (hk : k < 256) : qTo c P n (k + 1) = (qTo c P n k).set k (q0F c P n k) := (mapR_to (q0F c P n) hk).symm
theorem qTo_at (c : List Int) (P n : Int) {k : Nat} (hk : k < 256) : (qTo c P n k).getD k 0 = 0 := by unfold qTo; rw [mapR_get _ hk, if_neg (by omega)]
theorem qTo_sum (c : List Int) (P n : Int) {k : Nat} (hk : k < 256) : (qTo c P n (k + 1)).sum = (qTo c P n k).sum + q0F c P n k := by
  rw [qTo_succ c P n hk, sum_set _ _ _ (by unfold qTo; rw [mapR_len]; exact hk)]
  have : (qTo c P n k).getD k 0 = 0 := by unfold qTo; rw [mapR_get _ hk, if_neg (by omega)]
  omega
theorem CnRel.next {N : Nat} {w0 wr wr' : World} {c : List Int} {P n : Int} {k : Nat} {v v' : Value} {S y : Int} (H : CnRel N w0 c P n k v S wr) (hk : k < 256) (hq : (Kd.int .i64).R 3 wr' N (fun _ => True) (.slice (some ⟨N, 0, none⟩) 256 256) ((qTo c P n k).set k y))
    (hl : k3.R 214 wr' N (fun b => b ≠ N) v' (candN (restL c P n) (hadL c P n) (k + 1))) (hb : Below N w0 wr') (hy : y = q0F c P n k) (hy2 : 0 ≤ y ∧ y ≤ 4096) : CnRel N w0 c P n (k + 1) v' (S + y) wr' := by
  have hs := H.sum; have hr := H.rng
  refine ⟨by rw [qTo_succ c P n hk, ← hy]; exact hq, hl, hb, by rw [qTo_sum c P n hk, ← hy, hs], by omega, by omega⟩
theorem CnRel.far {N : Nat} {w0 wr : World} {c : List Int} {P n : Int} {k : Nat} {v : Value} {S : Int} (H : CnRel N w0 c P n k v S wr) (j : Nat) (y : Int) :
    (Kd.int .i64).R 3 (wr.setCell ⟨N, j, none⟩ (.int .i64 y)) N (fun _ => True) (.slice (some ⟨N, 0, none⟩) 256 256) ((qTo c P n k).set j y) ∧ k3.R 214 (wr.setCell ⟨N, j, none⟩ (.int .i64 y)) N (fun b => b ≠ N) v (candN (restL c P n) (hadL c P n) k) ∧ Below N w0 (wr.setCell ⟨N, j, none⟩ (.int .i64 y)) := by
  have := Kd.R_putn H.q (j : Int) y
  rw [Int.toNat_natCast] at this
  exact ⟨this, Kd.R_far (p := ⟨N, j, none⟩) H.l (fun k hk => hk) _, H.below.setCell (Nat.le_refl _) _⟩
theorem sum_zero : ∀ {l : List Int}, (∀ x ∈ l, x = 0) → l.sum = 0
  | [], _ => rfl
  | a :: l, h => by rw [List.sum_cons, h a (by simp), sum_zero (fun x hx => h x (by simp [hx]))]; rfl
theorem can_some {c : List Int} {r : Nat} (h : Can c r) : ∃ s, s < 256 ∧ 0 < c.getD s 0 := by
  refine Classical.byContradiction fun hn => ?_
  have : c.sum = 0 := sum_zero (fun x hx => by
    obtain ⟨s, hs, rfl⟩ := List.getElem_of_mem hx
    have h1 := h.nonneg _ hx
    have h2 : ¬ 0 < c.getD s 0 := fun hp => hn ⟨s, by have := h.len; omega, hp⟩
    rw [List.getD_eq_getElem?_getD, List.getElem?_eq_getElem hs] at h2
    simp only [Option.getD_some] at h2
    omega)
  have := h.pos
  omega
set_option maxRecDepth 100000 in
set_option maxHeartbeats 2000000 in
theorem counts_any (A : Option Addr) (cp : Nat) (c : List Int) (r : Nat) (w : World) (hr : (Kd.int .i64).C w A 256 c) (h : Can c r) :
    Calls Tryz.prog 143 #[.slice A 256 cp, .int .i64 r] w (CountsPost c r w) := by
  have HR := Lib.hid hr
  have HC := Lib.hid h
  have hR : rightC c = true := rightC_iff.2 ⟨h.len, h.nonneg, h.le⟩
  have hT : totalC c = c.sum := by unfold totalC; rw [if_pos hR]
  have hM : manyC c ≤ 2 ^ r := by unfold manyC; rw [if_pos hR]; exact h.many
  obtain ⟨n, hn⟩ : ∃ n : Nat, c.sum = n := ⟨c.sum.toNat, by have := h.pos; omega⟩
  have hr' : (Kd.int .i64).C w A c.length c := by rw [h.len]; exact hr
  have HTot := Lib.hid (total_any A cp c w hr')
  rw [hT, hn, h.len] at HTot
  obtain ⟨P, hP⟩ : ∃ P : Nat, 2 ^ r = P := ⟨_, rfl⟩
  have hPI : (2 : Int) ^ r = (P : Int) := by rw [← hP]; simp
  have hPb : 1 ≤ P ∧ P ≤ 4096 := by have := pow_le12 h.r12; rw [hPI] at this; omega
  have HM2 : Hid (∀ W, Below w.heap.size w W → Calls Tryz.prog 142 #[.slice A 256 cp] W fun e w' => e = .returned (.int .i64 (manyC c)) ∧ W = w') := fun W hb => by
    have := many_any A cp c W (Kd.C_below hr' hb) hR
    rw [h.len] at this; exact this
  have HN : Hid (c.sum = n ∧ 2 ^ r = P ∧ (2 : Int) ^ r = (P : Int) ∧ manyC c ≤ P) := ⟨hn, hP, hPI, by omega⟩
  have hn0 : ((n : Int) == 0) = false := by have := h.pos; simp; omega
  have hn1 : 1 ≤ n ∧ n ≤ 1073741824 := by have := h.pos; have := h.le; omega
  have hr1 : decide ((r : Int) < 1) = false := decide_eq_false (by have := h.r1; omega)
  have hr2 : decide (12 < (r : Int)) = false := decide_eq_false (by have := h.r12; omega)
  have hr0 : (0 : Int) ≤ r := by omega
  have hr12 : (r : Int) ≤ 12 := by have := h.r12; omega
  have hw1 : IntKind.i64.wrap (2 ^ r) = (P : Int) := by rw [hPI]; exact i64_in _ (by omega)
  have hmp : decide (P < manyC c) = false := decide_eq_false (by have := HN.out.2.2.2; omega)
  clear hr hr' h hR hT hM hn hP hPI
  have hmi : ∀ w : World, (Instr.makeSlice 39 (.int .i64 256) (.int .i64 256)).run Tryz.prog w = .ok (.slice (some ⟨w.heap.size, 0, none⟩) 256 256) (w.alloc (.cells (madeCells #[.int .i64 0] 256) 3)) := fun w => made_i64 256 (by omega) w
  go_enter Tryz.func143, Tryz.ntmps143
  go_wp2_with fail
  refine HTot.out.mono ?_
  rintro e w1 ⟨rfl, rfl⟩
  go_wp2_with fail
  go_quiet ((go_at_call 142; refine Calls.quiet_of_same ((HM2.out _ (pw_below_drewN (Below.refl _ _) _)).mono fun e w' h => ⟨h.1, h.2.symm⟩)))
  have HB0 : Hid (Below w.heap.size w (w.drewN nq)) := pw_below_drewN (Below.refl _ _) _
  obtain ⟨w1, hw1'⟩ : ∃ w1, w1 = w.drewN nq := ⟨_, rfl⟩
  rw [← hw1'] at HB0 ⊢
  clear hw1'
  obtain ⟨N, hNs⟩ : ∃ N, N = w1.heap.size := ⟨_, rfl⟩
  have HNs := Lib.hid hNs
  have HI : Hid (CnRel N w1 c P n 0 (.slice none 0 0) 0 (w1.alloc (.cells (madeCells #[.int .i64 0] 256) 3))) := by
    refine ⟨?_, ?_, ?_, ?_, by omega⟩
    · rw [(to_zero c P n).1, hNs]; exact arr_row 256 3 w1 _ trivial _ (Nat.le_refl _) (by omega)
    · exact Kd.R_nil _ _ _ _ _
    · rw [hNs]; exact (Below.refl _ _).alloc (Nat.le_refl _) _
    · rw [(to_zero c P n).1]; decide
  go_wp2_with fail
  rw [← hNs]
  obtain ⟨W, hW⟩ : ∃ W, W = w1.alloc (.cells (madeCells #[.int .i64 0] 256) 3) := ⟨_, rfl⟩
  rw [← hW] at HI ⊢
  clear hW hNs hmi hmp
  go_loopw [8, 9, 34] (fun lv sv kv wr => ∃ (k : Nat) (S : Int), sv = .int .i64 S ∧ kv = .int .i64 k ∧ k ≤ 256 ∧ 0 ≤ S ∧ S ≤ 4096 * k ∧ Hid (CnRel N w1 c P n k lv S wr)) (fun _ _ kv _ => 256 - (intOf kv).toNat)
  case atStart => exact ⟨0, 0, rfl, rfl, by omega, by omega, by omega, HI⟩
  case round =>
    obtain ⟨k, S, rfl, rfl, hk, hS0, hS1, H⟩ := hrel
    by_cases hlt : k < 256
    · have hC := Kd.C_below HR.out (HB0.out.trans (H.out.below.mono (by have := HB0.out.size; have := HNs.out; omega)))
      obtain ⟨ad, rfl, hcx⟩ := ints_get hC k (by omega)
      have hcg := HC.out.get k
      have hq0 := HC.out.q0 k
      rw [HN.out.2.2.1, HN.out.1] at hq0
      obtain ⟨x, hx⟩ : ∃ x : Nat, c.getD k 0 = x := ⟨(c.getD k 0).toNat, by omega⟩
      rw [hx] at hcx hcg
      obtain ⟨hq1, hq2⟩ := ints_cells H.out.q k hlt
      rw [qTo_at c P n hlt] at hq1
      obtain ⟨m, hm⟩ : ∃ m : Nat, m = x * P := ⟨_, rfl⟩
      have hxn : x ≤ n := by have := HN.out.1; omega
      have hm42 : m ≤ 4398046511104 := by
        rw [hm]
        calc x * P ≤ 1073741824 * 4096 := Nat.mul_le_mul (by omega) (by omega)
          _ = 4398046511104 := by decide
      have hmI : (x : Int) * (P : Int) = (m : Int) := by rw [hm]; simp
      have hmR : (x : Int) * 2 ^ r = (m : Int) := by rw [HN.out.2.2.1]; exact hmI
      have hdq : (m : Int) / (n : Int) = ((m / n : Nat) : Int) := by simp
      have hrm : (m : Int) % (n : Int) = ((m % n : Nat) : Int) := by simp
      obtain ⟨dq, hdqe⟩ : ∃ dq, dq = m / n := ⟨_, rfl⟩
      obtain ⟨rm, hrme⟩ : ∃ rm, rm = m % n := ⟨_, rfl⟩
      rw [← hdqe] at hdq
      rw [← hrme] at hrm
      have hdb : dq ≤ 4398046511104 := by rw [hdqe]; exact Nat.le_trans (Nat.div_le_self _ _) hm42
      have hn00 : ¬ (n : Int) = 0 := by omega
      have HX := Lib.hid (And.intro hx (And.intro hm (And.intro hdqe (And.intro hrme hq0))))
      have hwm : IntKind.i64.wrap ((x : Int) * 2 ^ r) = (m : Int) := by rw [hmR]; exact i64_in _ (by omega)
      clear hx hm hdqe hrme hC hmR hq0
      obtain ⟨A1, c1, rfl⟩ := Kd.R_slice H.out.l
      have HL0 := Lib.hid (H.out.far k (dq : Int))
      have HQF : Hid (q0F c P n k = if dq = 0 then min (x : Int) 1 else dq) := by
        show _ = _
        unfold q0F
        rw [HX.out.1, hmI, hdq]
        by_cases e : dq = 0
        · rw [if_pos e, if_pos (by omega)]
        · rw [if_neg e, if_neg (by omega)]
      have HHD : Hid ((hadL c P n).getD k false = decide (dq = 0)) := by
        show _ = _
        rw [hadL_get c P n hlt, HX.out.1, hmI, hdq]
        by_cases e : dq = 0
        · rw [decide_eq_true (by omega), decide_eq_true e]
        · rw [decide_eq_false (by omega), decide_eq_false e]
      by_cases hz : 0 < dq
      · have hdq4 : dq ≤ 4096 := by
          have := HX.out.2.2.2.2.2.1
          rw [HQF.out, if_neg (by omega)] at this; omega
        have HSz : Hid (N ≤ (wr.setCell ⟨N, k, none⟩ (.int .i64 (dq : Int))).heap.size) := by show _ ≤ _; have := Kd.R_lt HL0.out.1 N rfl; omega
        have HLn : Hid (((candN (restL c P n) (hadL c P n) k).length + 1) * 24 ≤ 140737488355328) := by show _ ≤ _; have := candN_len (restL c P n) (hadL c P n) k; omega
        have HFr : Hid (∀ j, (wr.setCell ⟨N, k, none⟩ (.int .i64 (dq : Int))).heap.size ≤ j → j ≠ N) := fun j hj e => by have := Kd.R_lt HL0.out.1 N rfl; omega
        have HNe : Hid ((Value.slice A1 (candN (restL c P n) (hadL c P n) k).length c1).ownBlock ≠ some N) := fun e => HL0.out.2.1.1 N e rfl
        have hqg : ((qTo c P n k).set k (dq : Int)).getD k 0 = (dq : Int) := by rw [getD_set _ _ _ _ (by unfold qTo; rw [mapR_len]; omega), if_pos rfl]
        obtain ⟨L, hL⟩ : ∃ L, L = candN (restL c P n) (hadL c P n) k := ⟨_, rfl⟩
        obtain ⟨Q, hQ⟩ : ∃ Q, Q = (qTo c P n k).set k (dq : Int) := ⟨_, rfl⟩
        rw [← hL] at HLn HNe
        have HL1 : Hid (k3.R 214 (wr.setCell ⟨N, k, none⟩ (.int .i64 (dq : Int))) N (fun b => b ≠ N) (.slice A1 L.length c1) L) := by rw [hL]; exact HL0.out.2.1
        have HQ1 : Hid ((Kd.int .i64).R 3 (wr.setCell ⟨N, k, none⟩ (.int .i64 (dq : Int))) N (fun _ => True) (.slice (some ⟨N, 0, none⟩) 256 256) Q) := by rw [hQ]; exact HL0.out.1
        rw [← hQ] at hqg
        have HQG := Lib.hid (And.intro hqg (And.intro hL hQ))
        have HB1 := Lib.hid HL0.out.2.2
        have HH := Lib.hid H.out
        rw [← hL]
        clear hqg hL hQ HL0 H
        go_wp2_with (at_builtin; refine Kd.R_append k3 (w0 := w1) (W := wr.setCell ⟨N, k, none⟩ (.int .i64 (dq : Int))) N rfl (.tmp 53) (.tmp 61) 212 214 _ 24 rfl Tryz.underlying212 cinfoKey rfl (by decide) (by decide) (.slice A1 L.length c1) L ((k : Int), (rm : Int), 0) [.int .i64 k, .int .i64 rm, .int .i64 0] (fun b => b ≠ N) (fun _ => False) rfl (by simp [go_sem]) (k3_mkM _ _ _ _) (fun _ h => h.elim) HFr.out HL1.out HB1.out HSz.out HLn.out ?_; intro v2 w2 hr2 hb2 hg2 hat2; have HQ2 := Lib.hid (Kd.R_grown1 HQ1.out rfl hg2 HNe.out); have hq5 := (ints_cells HQ2.out k hlt).1; rw [HQG.out.1] at hq5; have HR2 := Lib.hid hr2; have HB2 := Lib.hid hb2; clear hr2 hb2 hg2 hat2)
        go_roundw
        case rel =>
          refine ⟨k + 1, S + dq, rfl, by go_num, by omega, by omega, by omega, ?_⟩
          have hq2 := HQ2.out
          rw [HQG.out.2.2] at hq2
          refine HH.out.next hlt hq2 ?_ HB2.out (by rw [HQF.out, if_neg (by omega)]) (by omega)
          rw [candN_succ, if_pos (by rw [HHD.out]; exact decide_eq_false (by omega))]
          have e : claimN (restL c P n) k = ((k : Int), (rm : Int), 0) := by
            unfold claimN restL
            rw [mapR_get _ hlt, HX.out.1, hmI, hrm]
          rw [e, ← HQG.out.2.1]; exact HR2.out
        case measure => simp [intOf]; omega
      · have hz0 : dq = 0 := by omega
        subst hz0
        by_cases hx0 : 0 < x
        · go_wp2_with fail
          go_roundw
          case rel =>
            refine ⟨k + 1, S + 1, by go_num, by go_num, by omega, by omega, by omega, ?_⟩
            have hqq := Kd.R_putn HL0.out.1 (k : Int) (1 : Int)
            rw [Int.toNat_natCast, set_set_same] at hqq
            refine H.out.next hlt hqq ?_ (HL0.out.2.2.setCell (Nat.le_refl _) _) (by rw [HQF.out, if_pos rfl]; omega) (by omega)
            rw [candN_succ, if_neg (by rw [HHD.out]; simp)]
            exact Kd.R_far (p := ⟨N, k, none⟩) HL0.out.2.1 (fun k hk => hk) _
          case measure => simp [intOf]; omega
        · go_wp2_with fail
          go_roundw
          case rel =>
            refine ⟨k + 1, S + 0, by go_num, by go_num, by omega, by omega, by omega, ?_⟩
            refine H.out.next hlt HL0.out.1 ?_ HL0.out.2.2 (by rw [HQF.out, if_pos rfl]; omega) (by omega)
            rw [candN_succ, if_neg (by rw [HHD.out]; simp)]
            exact HL0.out.2.1
          case measure => simp [intOf]; omega
    · obtain rfl : k = 256 := by omega
      obtain ⟨A1, c1, rfl⟩ := Kd.R_slice H.out.l
      have HQ0 : Hid ((Kd.int .i64).R 3 wr N (fun _ => True) (.slice (some ⟨N, 0, none⟩) 256 256) (q0L c P n)) := by rw [← (to_all c P n).1]; exact H.out.q
      have HS : Hid (S = (q0L c P n).sum) := by rw [← (to_all c P n).1]; exact H.out.sum
      have HPP : Hid ((P : Int) = 2 ^ r ∧ (n : Int) = c.sum) := ⟨HN.out.2.2.1.symm, HN.out.1.symm⟩
      have HB1 := Lib.hid H.out.below
      have HL1 := Lib.hid H.out.l
      obtain ⟨M, hM⟩ : ∃ M : Nat, M = giveM c (2 ^ r) c.sum := ⟨_, rfl⟩
      have hMv : max (0 : Int) ((P : Int) - S) = (M : Int) := by
        rw [hM]; unfold giveM; rw [← HPP.out.1, ← HPP.out.2, ← HS.out]; omega
      have hM4 : M ≤ 4096 := by omega
      obtain ⟨T, hT⟩ : ∃ T : Nat, T = (S - P).toNat := ⟨_, rfl⟩
      have hTv : max (0 : Int) (S - (P : Int)) = (T : Int) := by rw [hT]; omega
      have HMT := Lib.hid (And.intro hM hT)
      have hTb : T ≤ 2000000 := by omega
      obtain ⟨L, hL⟩ : ∃ L, L = candN (restL c P n) (hadL c P n) 256 := ⟨_, rfl⟩
      rw [← hL]
      have HLE := Lib.hid hL
      clear hM hT hL H
      go_wp2_with fail
      have hgw0 := give_way HC.out 0 (Nat.zero_le _)
      have hen := HC.out.enough
      rw [← HPP.out.1, ← HPP.out.2] at hgw0 hen
      refine (give_any N 256 N (q0L c P n) (.slice A1 L.length c1) (restL c P n) (hadL c P n) M wr HQ0.out (by rw [HLE.out]; exact HL1.out) (by have := Kd.R_lt HQ0.out N rfl; omega) (mapR_len _) (by simp [hadL])
        (fun s => ⟨(hgw0.2.2.1 s).1, by have := (hgw0.2.2.1 s).2; simp only [giveIt] at this; omega⟩) (by rw [← HS.out] at hen; omega) hM4).mono ?_
      clear hgw0 hen
      rintro e w3 ⟨rfl, hq3, hb3⟩
      obtain ⟨G, hG⟩ : ∃ G, G = (giveIt (restL c P n) M (q0L c P n, hadL c P n)).1 := ⟨_, rfl⟩
      rw [← hG] at hq3
      have H3 := Lib.hid (And.intro hq3 (And.intro hb3 hG))
      clear hq3 hb3 hG hMv
      go_wp2_with fail
      have hge := give_end HC.out
      have hgw := (give_way HC.out M (by rw [← HMT.out.1]; exact Nat.le_refl _)).2.2.2.2.1
      rw [← HMT.out.1, ← HPP.out.1, ← HPP.out.2, ← H3.out.2.2] at hge
      rw [← HPP.out.1, ← HPP.out.2, ← H3.out.2.2, ← HS.out] at hgw
      have hTe : (G.sum - 2 ^ r).toNat = T := by
        rw [← HPP.out.1, hgw]
        have h1 : M = ((P : Int) - S).toNat := by
          have := HMT.out.1; unfold giveM at this; rw [← HPP.out.1, ← HPP.out.2, ← HS.out] at this; exact this
        have h2 := HMT.out.2
        omega
      have HT2 : Hid (TakeOkay c G T) := fun k hk => by
        have := (take_way HC.out hge.1 k (by rw [hTe]; exact hk)).1
        exact ⟨this.len, this.rng, this.iff⟩
      have HNL : Hid (takeIt c T G = normL c r) := by
        show _ = _
        unfold normL
        simp only []
        rw [← HMT.out.1, ← HPP.out.1, ← HPP.out.2, ← H3.out.2.2, HPP.out.1, hTe]
      have HB3 : Hid (Below N w1 w3) := HB1.out.trans H3.out.2.1
      have hcs := HC.out.le
      clear hge hgw
      refine (normTake_at N 256 cp A w1 N HNs.out G c T w3 H3.out.1 (Kd.C_below HR.out HB0.out) HB3.out HC.out.len (fun s => ⟨(HC.out.get s).1, by have := (HC.out.get s).2; omega⟩) HT2.out hTb (fun _ => can_some HC.out)).mono ?_
      rintro e w4 ⟨rfl, hq4, hb4⟩
      have H4 := Lib.hid (And.intro hq4 hb4)
      clear hq4 hb4 hTe
      go_wp2_with fail
      go_ret2
      have hNl : w.heap.size ≤ N := by rw [HNs.out]; exact HB0.out.size
      refine ⟨_, rfl, ?_, HB0.out.trans (H4.out.2.mono hNl)⟩
      rw [← HNL.out]
      exact Kd.R_lower H4.out.1 hNl
end Go.Proofs.YtdkemdcflbadhaaGreat
namespace Go.Proofs.YtdkemdcflbadhaaGreat
open Go.RowKit Go.IntWalk Go.Proofs.YtdkemdcflbadhaaGreatW.PrintWords
set_option maxRecDepth 100000 in
theorem zero1_any (i : Int) (p : Nat) (v : Value) (w : World) (h : w.cell? ⟨p, 0, none⟩ = some v) :
    Calls Tryz.prog 154 #[.int .i64 i, .pointer (some ⟨p, 0, none⟩)] w fun e w' => e = .returned v ∧ w = w' := by
  go_enter Tryz.func154, Tryz.ntmps154
  go_wp2_with fail
  go_ret
  exact ⟨rfl, rfl⟩
set_option maxRecDepth 100000 in
set_option maxHeartbeats 2000000 in
theorem made1_any (p ch r : Nat) (Ah : Option Addr) (h : List Int) (w : World) (hp : w.heap[p]? = some (.cells #[.slice Ah 256 ch] 39 (0, 0))) (hv : (Kd.int .i64).C w Ah 256 h) (hc : Can h r) (hm : 0 < manyC h) :
    Calls Tryz.prog 75 #[.int .i64 r, .int .i64 1, .func (Fn.func 154) #[] #[.pointer (some ⟨p, 0, none⟩)]] w (MadeM r true [normL h r] w) := by
  obtain ⟨W2, hW2⟩ : ∃ W2, W2 = (w.alloc (.cells #[.int .i64 0, .bool false, .slice none 0 0] 31)).alloc (.cells #[.int .i64 r, .bool true, .slice none 0 0] 31) := ⟨_, rfl⟩
  have hb2 : Below w.heap.size w W2 := by rw [hW2]; exact ((Below.refl w.heap.size w).alloc (Nat.le_refl _) _).alloc (by simp) _
  have hs2 : W2.heap.size = w.heap.size + 2 := by rw [hW2]; simp
  have hm1 : W2.heap[w.heap.size + 1]? = some (.cells #[.int .i64 r, .bool true, .slice none 0 0] 31 (0, 0)) := by rw [hW2]; exact blk_new1 _ _ _
  have hm0 : W2.heap[w.heap.size]? = some (.cells #[.int .i64 0, .bool false, .slice none 0 0] 31 (0, 0)) := by rw [hW2]; exact blk_alloc (blk_new _ _) _
  have HP2 := Lib.hid (blk_below hp hb2)
  have HV2 := Lib.hid (Kd.C_below hv hb2)
  have H2 := Lib.hid (And.intro hb2 (And.intro hs2 (And.intro hm1 hm0)))
  have HC := Lib.hid (And.intro hc hm)
  clear hp hv hb2 hs2 hm1 hm0 hc hm
  go_enter Tryz.func75, Tryz.ntmps75
  go_wp2_with fail
  rw [← hW2]
  clear hW2
  obtain ⟨m0, hm0⟩ : ∃ m0, m0 = w.heap.size := ⟨_, rfl⟩
  have HM0 := Lib.hid hm0
  rw [← hm0] at H2 ⊢
  clear hm0
  obtain ⟨m1, hm1⟩ : ∃ m1, m1 = m0 + 1 := ⟨_, rfl⟩
  have HM1 := Lib.hid hm1
  rw [← hm1] at H2 ⊢
  clear hm1
  go_loopw [16] (fun kv wr => (kv = .int .i64 0 ∧ wr = W2) ∨ (kv = .int .i64 1 ∧ Hid (∃ A1 c1, wr.heap[m1]? = some (.cells #[.int .i64 r, .bool true, .slice A1 1 c1] 31 (0, 0)) ∧ wr.heap[m0]? = some (.cells #[.int .i64 0, .bool false, .slice none 0 0] 31 (0, 0)) ∧ kq.R 39 wr W2.heap.size (fun _ => True) (.slice A1 1 c1) [normL h r] ∧ Below m0 w wr))) (fun kv _ => 1 - (intOf kv).toNat)
  case atStart => exact .inl ⟨rfl, rfl⟩
  case round =>
    rcases hrel with ⟨rfl, rfl⟩ | ⟨rfl, H⟩
    · have hpc : wr.cell? ⟨p, 0, none⟩ = some (.slice Ah 256 ch) := (blk_cell HP2.out 0).trans rfl
      go_wp2_with fail
      refine (zero1_any 0 p (.slice Ah 256 ch) wr hpc).mono ?_
      rintro e w' ⟨rfl, rfl⟩
      go_wp2_with fail
      have hmany := many_any Ah ch h wr (by rw [HC.out.1.len]; exact HV2.out) (rightC_iff.2 ⟨HC.out.1.len, HC.out.1.nonneg, HC.out.1.le⟩)
      rw [HC.out.1.len] at hmany
      refine hmany.mono ?_
      rintro e w' ⟨rfl, rfl⟩
      have hmp : 0 < manyC h := HC.out.2
      clear hmany
      go_wp2_with fail
      refine (counts_any Ah ch h r wr HV2.out HC.out.1).mono ?_
      rintro e w5 ⟨vq, rfl, hq, hb5⟩
      obtain ⟨Aq, cq, rfl⟩ := Kd.R_slice hq
      obtain ⟨ql, hql⟩ : ∃ ql, ql = (normL h r).length := ⟨_, rfl⟩
      have HQ := Lib.hid hq
      rw [← hql] at HQ ⊢
      have HB5 := Lib.hid hb5
      have h15 : w5.heap[m1]? = some (.cells #[.int .i64 r, .bool true, .slice none 0 0] 31 (0, 0)) := blk_below H2.out.2.2.1 hb5
      have H05 := Lib.hid (blk_below H2.out.2.2.2 hb5)
      obtain ⟨⟨ca, cb, cc⟩, fa, fb, fc⟩ := cell3 h15
      have H15 := Lib.hid h15
      have HBB : Hid (Below wr.heap.size wr w5) := hb5
      have HS5 : Hid (wr.heap.size ≤ w5.heap.size) := hb5.size
      have hm1l := blk_lt h15
      have hm1n : ¬ m1 = w5.heap.size := by omega
      have hm1n' : ¬ w5.heap.size = m1 := by omega
      have HL : Hid ((([] : List (List Int)).length + 1) * 24 ≤ 140737488355328) := by show _ ≤ _; simp
      clear hq hb5 h15 hql
      go_wp2_with (at_builtin; refine Kd.R_append kq (w0 := wr) (W := w5) wr.heap.size rfl (.tmp 32) (.tmp 34) 29 39 (.slice none 0 0) 24 rfl Tryz.underlying29 infoInts rfl (by decide) (by decide) (.slice none 0 0) [] (normL h r) [.slice Aq ql cq] (fun _ => True) (fun _ => True) rfl (by simp [go_sem]) ⟨_, rfl, HQ.out⟩ (fun _ _ => ⟨trivial, by simp [Value.ownBlock]⟩) (fun _ _ => trivial) (Kd.R_nil _ _ _ _ _) HBB.out HS5.out HL.out ?_; intro v1 w6 hr6 hb6 hg6 hat6; have h16 := blk_grown H15.out hg6 (by simp [Value.ownBlock]); have H16 := Lib.hid h16; have H06 := Lib.hid (blk_grown H05.out hg6 (by simp [Value.ownBlock])); obtain ⟨⟨da, db, dc⟩, ga, gb, gc⟩ := cell3 h16; obtain ⟨A1, c1, rfl⟩ := Kd.R_slice hr6; have HR6 := Lib.hid hr6; have HB6 := Lib.hid hb6; clear hr6 hb6 hg6 hat6 h16)
      go_roundw
      case rel =>
        have hmm : m0 ≤ wr.heap.size ∧ m1 < wr.heap.size ∧ m0 ≠ m1 := by have := blk_lt H2.out.2.2.1; have := blk_lt H2.out.2.2.2; have := HM1.out; omega
        have h1 := H16.out
        have h0 := H06.out
        refine .inr ⟨rfl, A1, c1, ?_, ?_, ?_, ?_⟩
        · exact blk_set h1 2 _
        · exact blk_far h0 (p := ⟨m1, 2, none⟩) hmm.2.2 _
        · refine Kd.R_mono (Kd.R_far (p := ⟨m1, 2, none⟩) (Kd.R_bound HR6.out) (fun k hk => ?_) _) (fun _ _ => trivial)
          show k ≠ m1
          have := hk.2.1
          omega
        · refine (H2.out.1.trans (HB6.out.mono hmm.1)).setCell ?_ _
          show m0 ≤ m1
          have := HM1.out; omega
      case measure => simp [intOf]
    · obtain ⟨A1, c1, h1, h2, h3, h4⟩ := H.out
      obtain ⟨⟨ca, cb, cc⟩, fa, fb, fc⟩ := cell3 h1
      obtain ⟨⟨da, db, dc⟩, ga, gb, gc⟩ := cell3 h2
      have HH := Lib.hid (And.intro h2 (And.intro h3 h4))
      clear h1 h2 h3 h4 H
      go_wp2_with fail
      have hmm : m0 < W2.heap.size := blk_lt H2.out.2.2.2
      refine bodyPost_ret (results_cell_row (fn := Tryz.f75) (p := 6) (ty := 31) rfl _ _ _ _ _ _ _ rfl (blk_set3 HH.out.1 _ _ _) Tryz.underlying31 rfl sizeModel) rfl ?_
      have hw0 := HM0.out
      subst hw0
      refine ⟨_, rfl, ?_, ((HH.out.2.2.setCell (Nat.le_refl _) _).setCell (Nat.le_refl _) _).setCell (Nat.le_refl _) _⟩
      have h4 : kq.R 39 wr w.heap.size (fun k => k ≠ w.heap.size) (.slice A1 1 c1) [normL h r] := Kd.R_mono (Kd.R_lower (Kd.R_bound HH.out.2.1) (by omega)) (fun k hk => by have := hk.2.1; omega)
      exact Kd.R_mono (R_far3 h4 _ _ _) (fun _ _ => trivial)
theorem load_model {w : World} {g : Nat} {a b c : Value} (hg : w.heap[g]? = some (.cells #[a, b, c] 31 (0, 0))) : (loadVar 31 ⟨g, 0, none⟩).run Tryz.prog w = .ok (.agg #[a, b, c]) w :=
  run_loadVar_row w g _ _ _ _ _ hg Tryz.underlying31 rfl sizeModel
theorem results_row_tmp {fn : Func} {p u : Tmp} {ty : TypeId} (h : fn.results = #[.cell p ty, .tmp u]) (tmps : Array Value) (w : World) (g : Nat) (cs : Array Value)
    (hp : tmps.getD p undef = .pointer (some ⟨g, 0, none⟩)) (hl : (loadVar ty ⟨g, 0, none⟩).run Tryz.prog w = .ok (.agg cs) w) :
    (results fn tmps).run Tryz.prog w = .ok (.tuple #[.agg cs, tmps.getD u undef]) w := by
  have hp' : tmps[p]?.getD undef = .pointer (some ⟨g, 0, none⟩) := by simpa using hp
  simp [results, h, hp', asAddr, hl]
def ZeroPost (b : List Int) (w : World) (e : Ending) (w' : World) : Prop :=
  (b.length = 0 ∧ e = .returned (.tuple #[.agg #[.int .i64 0, .bool false, .slice none 0 0], .int .i64 1]) ∧ Below w.heap.size w w') ∨
  (0 < b.length ∧ ∃ v, e = .returned (.tuple #[.agg #[.int .i64 (zeroR b), .bool true, v], .int .i64 0]) ∧ kq.R 39 w' w.heap.size (fun _ => True) v [zeroQ b] ∧ Below w.heap.size w w')
theorem many_pos {b : List Int} (hb : Bytes b) (hl : b.length ≤ 1000000) (h0 : 0 < b.length) : 0 < manyC (histL b) := by
  rw [manyC_of (hist_right b hb hl)]
  have hx := hb _ (List.getElem_mem h0)
  obtain ⟨s, hs⟩ : ∃ s : Nat, b[0] = (s : Int) := ⟨(b[0]).toNat, by omega⟩
  have hs2 : s < 256 := by omega
  have hp := (hist_pos b hs2).2 (by rw [← hs]; exact List.getElem_mem h0)
  refine List.countP_pos_iff.2 ⟨(histL b).getD s 0, getD_mem (by unfold histL; rw [mapR_len]; exact hs2), by simpa using hp⟩
set_option maxRecDepth 100000 in
set_option maxHeartbeats 1000000 in
theorem modelZero_any (A : Option Addr) (cp : Nat) (b : List Int) (w : World) (hr : (Kd.int .u8).C w A b.length b) (hb : Bytes b) (hl : b.length ≤ 1000000) (h0 : 0 < b.length) :
    Calls Tryz.prog 89 #[.slice A b.length cp] w (ZeroPost b w) := by
  have hne : ((b.length : Int) == 0) = false := by simp; intro e; subst e; simp at h0
  have hne2 : ¬ b = [] := by intro e; subst e; simp at h0
  obtain ⟨W1, hW1⟩ : ∃ W1, W1 = w.alloc (.cells #[.int .i64 0, .bool false, .slice none 0 0] 31) := ⟨_, rfl⟩
  have hb1 : Below w.heap.size w W1 := by rw [hW1]; exact (Below.refl w.heap.size w).alloc (Nat.le_refl _) _
  have hk1 : W1.heap[w.heap.size]? = some (.cells #[.int .i64 0, .bool false, .slice none 0 0] 31 (0, 0)) := by rw [hW1]; exact blk_new _ _
  have HB1 := Lib.hid hb1
  have HK1 := Lib.hid hk1
  have HR := Lib.hid hr
  have HX := Lib.hid (And.intro hb (And.intro hl h0))
  have hZ := zeroR_ok b
  obtain ⟨zr, hzr⟩ : ∃ zr, zr = zeroR b := ⟨_, rfl⟩
  rw [← hzr] at hZ
  have HZ := Lib.hid (And.intro hzr hZ)
  clear hb1 hk1 hr hb hl h0 hZ hzr
  go_enter Tryz.func89, Tryz.ntmps89
  go_wp2_with fail
  rw [← hW1]
  clear hW1
  refine (histOf_any A cp b W1 (Kd.C_below HR.out HB1.out) HX.out.2.1 HX.out.1).mono ?_
  rintro e w2 ⟨v, rfl, hv, hb2⟩
  obtain ⟨Ah, ch, rfl⟩ := Kd.R_slice hv
  have hhl : (histL b).length = 256 := mapR_len _
  have hrd := (Kd.R_reads' hv).2.2
  have hmany := many_any Ah ch (histL b) (w2.alloc (.cells #[.slice Ah 256 ch] 39)) (Kd.C_alloc hrd _) (hist_right b HX.out.1 HX.out.2.1)
  rw [hhl] at hrd hmany ⊢
  have HV := Lib.hid (Kd.C_alloc hrd (.cells #[.slice Ah 256 ch] 39))
  have HMa := Lib.hid hmany
  have HB2 : Hid (Below w.heap.size w w2) := HB1.out.trans (hb2.mono HB1.out.size)
  have HK2 := Lib.hid (blk_below HK1.out hb2)
  clear hv hb2 hrd hmany hhl
  go_wp2_with fail
  have HP3 := Lib.hid (blk_new w2 (.cells #[.slice Ah 256 ch] 39))
  have HB3 : Hid (Below w.heap.size w (w2.alloc (.cells #[.slice Ah 256 ch] 39))) := HB2.out.alloc HB2.out.size _
  have HK3 := Lib.hid (blk_alloc HK2.out (.cells #[.slice Ah 256 ch] 39))
  obtain ⟨w3, hw3⟩ : ∃ w3, w3 = w2.alloc (.cells #[.slice Ah 256 ch] 39) := ⟨_, rfl⟩
  rw [← hw3] at HP3 HB3 HK3 HV HMa ⊢
  obtain ⟨p0, hp0⟩ : ∃ p0, p0 = w2.heap.size := ⟨_, rfl⟩
  rw [← hp0] at HP3 ⊢
  clear hw3 hp0
  refine HMa.out.mono ?_
  rintro e w4 ⟨rfl, rfl⟩
  go_wp2_with fail
  refine (pick_any b.length (manyC (histL b)) 11 _ HX.out.2.1 (by have := manyC_le (histL b); omega)).mono ?_
  rw [HZ.out.2.1]
  rintro e w4 ⟨rfl, hb4⟩
  have HB4 : Hid (Below w.heap.size w w4) := HB3.out.trans (hb4.mono HB3.out.size)
  have HK4 := Lib.hid (blk_below HK3.out hb4)
  have HP4 := Lib.hid (blk_below HP3.out hb4)
  have HV4 := Lib.hid (Kd.C_below HV.out hb4)
  clear hb4
  go_wp2_with fail
  refine (made1_any p0 ch zr Ah (histL b) w4 HP4.out HV4.out (by rw [HZ.out.1]; exact zero_can HX.out.1 HX.out.2.1 HX.out.2.2) (many_pos HX.out.1 HX.out.2.1 HX.out.2.2)).mono ?_
  rintro e w5 ⟨v, rfl, hv, hb5⟩
  obtain ⟨Av, cv, rfl⟩ := Kd.R_slice hv
  obtain ⟨⟨m0, m1, m2⟩, ⟨f0, f1, f2⟩⟩ := cell3 (blk_below HK4.out hb5)
  have HE := Lib.hid (ofM_end (lg := (zr : Nat)) (one := true) HB4.out (blk_lt HK4.out) HK4.out hv hb5)
  clear hv hb5
  go_wp2_with fail
  refine bodyPost_ret (results_row_tmp (fn := Tryz.f89) (p := 2) (u := 3) (ty := 31) rfl _ _ _ _ rfl (load_model HE.out.1)) rfl ?_
  obtain ⟨v2, h1, h2, h3⟩ := HE.out.2
  injection h1 with h1
  injection h1 with h1
  have h1' : Value.slice Av [normL (histL b) zr].length cv = v2 := by
    have := congrArg (fun a : Array Value => a.getD 2 Go.undef) h1
    simpa using this
  refine .inr ⟨HX.out.2.2, Value.slice Av [normL (histL b) zr].length cv, ?_, ?_, h3⟩
  · rw [← HZ.out.1]; rfl
  · rw [← h1'] at h2
    unfold zeroQ; rw [← HZ.out.1]; exact h2
set_option maxRecDepth 100000 in
theorem modelZero_none (A : Option Addr) (cp : Nat) (w : World) : Calls Tryz.prog 89 #[.slice A 0 cp] w (ZeroPost [] w) := by
  have hk1 : (w.alloc (.cells #[.int .i64 0, .bool false, .slice none 0 0] 31)).heap[w.heap.size]? = some (.cells #[.int .i64 0, .bool false, .slice none 0 0] 31 (0, 0)) := blk_new _ _
  have HB : Hid (Below w.heap.size w (w.alloc (.cells #[.int .i64 0, .bool false, .slice none 0 0] 31))) := (Below.refl _ _).alloc (Nat.le_refl _) _
  have HK := Lib.hid hk1
  clear hk1
  go_enter Tryz.func89, Tryz.ntmps89
  go_wp2_with fail
  refine bodyPost_ret (results_row_tmp (fn := Tryz.f89) (p := 2) (u := 3) (ty := 31) rfl _ _ _ _ rfl (load_model HK.out)) rfl ?_
  exact .inl ⟨rfl, rfl, HB.out⟩
end Go.Proofs.YtdkemdcflbadhaaGreat
namespace Go.Proofs.YtdkemdcflbadhaaGreat
open Go.RowKit Go.IntWalk Go.Proofs.YtdkemdcflbadhaaGreatW.PrintWords
/-- a body by one list -/
def body0L (b : List Int) : List Int := packB (headB (zeroR b) (zeroQ b)) ++ packB (encBits (zeroR b : Nat) true [zeroQ b] b ++ [true])
theorem zero_nrm {b : List Int} (hb : Bytes b) (hl : b.length ≤ 1000000) (h0 : 0 < b.length) : Nrm (zeroQ b) (zeroR b) := by
  have h := norm_ok (zero_can hb hl h0)
  have hz := zeroR_ok b
  exact ⟨h.1.len, h.1.nonneg, h.2.1, by omega, by omega⟩
def Enc0Post (b : List Int) (w : World) (e : Ending) (w' : World) : Prop :=
  (b.length = 0 ∧ e = .returned (.tuple #[.slice none 0 0, .int .i64 1]) ∧ Below w.heap.size w w') ∨
  (0 < b.length ∧ ∃ v, e = .returned (.tuple #[v, .int .i64 0]) ∧ (Kd.int .u8).R 5 w' w.heap.size (fun _ => True) v (body0L b) ∧ Below w.heap.size w w')
theorem zeroPost_none {w w' : World} {e : Ending} (h : ZeroPost [] w e w') : e = .returned (.tuple #[.agg #[.int .i64 0, .bool false, .slice none 0 0], .int .i64 1]) ∧ Below w.heap.size w w' := by
  rcases h with ⟨_, h1, h2⟩ | ⟨h, _⟩
  · exact ⟨h1, h2⟩
  · cases h
set_option maxRecDepth 100000 in
theorem encode0_none (A : Option Addr) (cp : Nat) (w : World) : Calls Tryz.prog 33 #[.slice A 0 cp] w (Enc0Post [] w) := by
  have HZ := Lib.hid ((modelZero_none A cp w).mono (fun e w' h => zeroPost_none h))
  go_enter Tryz.func33, Tryz.ntmps33
  go_wp2_with fail
  refine HZ.out.mono ?_
  rintro e w1 ⟨rfl, hb1⟩
  have HB1 := Lib.hid hb1
  clear hb1
  go_wp2_with fail
  go_ret2
  exact .inl ⟨rfl, rfl, HB1.out.alloc HB1.out.size _⟩
set_option maxRecDepth 100000 in
set_option maxHeartbeats 1000000 in
theorem encode0_any (A : Option Addr) (cp : Nat) (b : List Int) (w : World) (hr : (Kd.int .u8).C w A b.length b) (hb : Bytes b) (hl : b.length ≤ 40000) :
    Calls Tryz.prog 33 #[.slice A b.length cp] w (Enc0Post b w) := by
  by_cases h0 : 0 < b.length
  · have HR := Lib.hid (And.intro hr (And.intro hb (And.intro hl h0)))
    have HN := Lib.hid (zero_nrm hb (by omega) h0)
    have HCan : Hid (canM (zeroR b : Nat) true [zeroQ b] b = true) := of_can (one := true) hb (by omega) h0
    have hzero := modelZero_any A cp b w hr hb (by omega) h0
    have HZ := Lib.hid hzero
    obtain ⟨r, hr'⟩ : ∃ r, r = zeroR b := ⟨_, rfl⟩
    obtain ⟨q, hq'⟩ : ∃ q, q = zeroQ b := ⟨_, rfl⟩
    have HRQ := Lib.hid (And.intro hr' hq')
    clear hr hb hl h0 hzero
    go_enter Tryz.func33, Tryz.ntmps33
    go_wp2_with fail
    refine HZ.out.mono ?_
    rintro e w1 (⟨h, _⟩ | ⟨_, v, rfl, hv, hb1⟩)
    · have := HR.out.2.2.2; omega
    obtain ⟨Av, cv, rfl⟩ := Kd.R_slice hv
    rw [← hr']
    rw [← hq'] at hv
    have HV : Hid (kq.C w1 Av 1 [q]) := (Kd.R_reads' hv).2.2
    have HB1 := Lib.hid hb1
    have e1 : ([zeroQ b] : List (List Int)).length = 1 := rfl
    rw [e1]
    clear hv hb1 e1 hr' hq'
    obtain ⟨w2, hw2⟩ : ∃ w2, w2 = w1.alloc (.cells #[.int .i64 r, .bool true, .slice Av 1 cv] 31) := ⟨_, rfl⟩
    have HB2 : Hid (Below w.heap.size w w2) := by show Below _ _ _; rw [hw2]; exact HB1.out.alloc HB1.out.size _
    have HV2 : Hid (kq.C w2 Av 1 [q]) := by show kq.C _ _ _ _; rw [hw2]; exact Kd.C_alloc HV.out _
    have hk2 : w2.heap[w1.heap.size]? = some (.cells #[.int .i64 r, .bool true, .slice Av 1 cv] 31 (0, 0)) := by rw [hw2]; exact blk_new _ _
    have HK2 := Lib.hid hk2
    obtain ⟨mb, hmb⟩ : ∃ mb, mb = w1.heap.size := ⟨_, rfl⟩
    rw [← hmb] at HK2
    clear hk2
    go_wp2_with fail
    rw [← hw2, ← hmb]
    clear hw2 hmb
    refine (encodeL_any (r : Nat) true Av cv [q] A cp b w2 HV2.out (by simp) (Kd.C_below HR.out.1 HB2.out) HR.out.2.1 HR.out.2.2.1).mono ?_
    rintro e w3 ⟨_, h2, hb3⟩
    obtain ⟨vp, rfl, hvp⟩ := h2 (by rw [HRQ.out.1, HRQ.out.2]; exact HCan.out)
    obtain ⟨Ap, cpp, rfl⟩ := Kd.R_slice hvp
    have HB3 : Hid (Below w.heap.size w w3) := HB2.out.trans (hb3.mono HB2.out.size)
    have hk3 := blk_below HK2.out hb3
    have HV3 : Hid (kq.C w3 Av 1 [q]) := Kd.C_below HV2.out hb3
    have HP3 := Lib.hid (Kd.R_reads' hvp).2.2
    have HFit := Lib.hid (encBits_len (can_log (by rw [HRQ.out.1, HRQ.out.2]; exact HCan.out : canM (r : Nat) true [q] b = true)).1 HR.out.2.1)
    obtain ⟨Pl, hPl⟩ : ∃ Pl, Pl = packB (encBits (r : Nat) true [q] b ++ [true]) := ⟨_, rfl⟩
    have HPl := Lib.hid hPl
    rw [← hPl] at HP3 ⊢
    obtain ⟨⟨ka, kb, kc⟩, -⟩ := cell3 hk3
    have HPlen : Hid (Pl.length ≤ 700000) := by
      show _ ≤ _
      rw [hPl, packB_len, List.length_append]
      have := HFit.out; have := HR.out.2.2.1; simp only [List.length_singleton]; omega
    clear h2 hb3 hvp hk3 hPl
    have HKK := Lib.hid (And.intro ka (And.intro kb kc))
    clear ka kb kc
    obtain ⟨ka, kb, kc⟩ := HKK.out
    go_wp2_with fail
    refine (head_any r cv Av q w3 HV3.out (by rw [HRQ.out.1, HRQ.out.2]; exact HN.out)).mono ?_
    rintro e w4 ⟨vh, rfl, hvh, hb4⟩
    obtain ⟨Ah, ch, rfl⟩ := Kd.R_slice hvh
    have HB4 : Hid (Below w.heap.size w w4) := HB3.out.trans (hb4.mono HB3.out.size)
    have HP4 : Hid ((Kd.int .u8).C w4 Ap Pl.length Pl) := Kd.C_below HP3.out hb4
    have HH4 : Hid ((Kd.int .u8).R 5 w4 w.heap.size (fun _ => True) (.slice Ah (packB (headB r q)).length ch) (packB (headB r q))) := Kd.R_lower hvh HB3.out.size
    have HHl : Hid ((packB (headB r q)).length ≤ 10000) := by
      show _ ≤ _
      have hn := HN.out
      rw [← HRQ.out.1, ← HRQ.out.2] at hn
      have e2 : (2 : Int) ^ r = ((2 ^ r : Nat) : Int) := by simp
      have h1 := hdrB_len hn.r12 hn.len hn.nn 257 0 (2 ^ r) (by omega) (by rw [List.drop_zero, hn.sum, e2]) (by rw [Nat.pow_succ]; have := Nat.two_pow_pos r; omega)
      have h2 : (256 - 0) * (r + 3) ≤ 256 * 15 := Nat.mul_le_mul (by omega) (by have := hn.r12; omega)
      rw [packB_len]; unfold headB
      rw [List.length_append, lowBits_len]; omega
    obtain ⟨Hl, hHl⟩ : ∃ Hl, Hl = packB (headB r q) := ⟨_, rfl⟩
    have HHd := Lib.hid hHl
    rw [← hHl] at HH4 HHl ⊢
    have HL : Hid ((Hl.length + Pl.length) * 1 ≤ 140737488355328) := by show _ ≤ _; have := HHl.out; have := HPlen.out; omega
    have HS4 : Hid (w.heap.size ≤ w4.heap.size) := HB4.out.size
    clear hvh hb4 hHl ka kb kc
    go_wp2_with (at_builtin; refine Kd.R_append_rows (Kd.int .u8) (Rr := (Kd.int .u8).K w4) (w0 := w) (W := w4) w.heap.size rfl (.tmp 25) (.tmp 26) 22 5 (.int .u8 0) 1 rfl Tryz.underlying22 infoU8 rfl (by decide) (by decide) (.slice Ah Hl.length ch) Hl Pl Ap Pl.length cpp (fun _ => True) (fun _ => False) rfl rfl HH4.out HP4.out (fun _ _ h => h) (fun _ h => h.elim) (fun _ _ => trivial) HB4.out HS4.out HL.out ?_; intro vi w5 hr5 hb5 hg5 hat5; have HR5 := Lib.hid hr5; have HB5 := Lib.hid hb5; clear hr5 hb5 hg5 hat5)
    go_ret2
    refine .inr ⟨HR.out.2.2.2, _, rfl, ?_, HB5.out⟩
    unfold body0L
    rw [← HRQ.out.1, ← HRQ.out.2, ← HPl.out, ← HHd.out]
    exact HR5.out
  · have hbe : b = [] := List.eq_nil_of_length_eq_zero (by omega)
    subst hbe
    exact encode0_none A cp w
end Go.Proofs.YtdkemdcflbadhaaGreat
namespace Go.Proofs.YtdkemdcflbadhaaGreat
open Go.RowKit Go.IntWalk Go.Proofs.YtdkemdcflbadhaaGreatW.PrintWords
/-- bytes that are told, or none -/
def Told (k : Int) (y : List Int) (w : World) (e : Ending) (w' : World) : Prop :=
  ∃ A c, e = .returned (.tuple #[.slice A y.length c, .int .i64 k]) ∧ (Kd.int .u8).R 5 w' w.heap.size (fun _ => True) (.slice A y.length c) y ∧ Below w.heap.size w w'
theorem encode0_told (A : Option Addr) (cp : Nat) (b : List Int) (w : World) (hr : (Kd.int .u8).C w A b.length b) (hb : Bytes b) (hl : b.length ≤ 40000) (h0 : 0 < b.length) :
    Calls Tryz.prog 33 #[.slice A b.length cp] w (Told 0 (body0L b) w) := by
  refine (encode0_any A cp b w hr hb hl).mono ?_
  rintro e w' (⟨h, _⟩ | ⟨_, v, rfl, hv, hbl⟩)
  · omega
  · obtain ⟨A1, c1, rfl⟩ := Kd.R_slice hv
    exact ⟨A1, c1, rfl, hv, hbl⟩
theorem body0L_bytes (b : List Int) : Bytes (body0L b) := fun x hx => by
  unfold body0L at hx
  rcases List.mem_append.1 hx with h | h
  · exact packB_bytes _ x h
  · exact packB_bytes _ x h
theorem body0L_len {b : List Int} (hb : Bytes b) (hl : b.length ≤ 40000) (h0 : 0 < b.length) : 0 < (body0L b).length ∧ (body0L b).length ≤ 710000 := by
  have hn := zero_nrm hb (by omega) h0
  have HCan : canM (zeroR b : Nat) true [zeroQ b] b = true := of_can (one := true) hb (by omega) h0
  have hF := encBits_len (can_log HCan).1 hb
  have e2 : (2 : Int) ^ zeroR b = ((2 ^ zeroR b : Nat) : Int) := by simp
  have h1 := hdrB_len hn.r12 hn.len hn.nn 257 0 (2 ^ zeroR b) (by omega) (by rw [List.drop_zero, hn.sum, e2]) (by rw [Nat.pow_succ]; have := Nat.two_pow_pos (zeroR b); omega)
  have h2 : (256 - 0) * (zeroR b + 3) ≤ 256 * 15 := Nat.mul_le_mul (by omega) (by have := hn.r12; omega)
  unfold body0L
  rw [List.length_append, packB_len, packB_len]
  unfold headB
  rw [List.length_append, lowBits_len, List.length_append, List.length_singleton]
  omega
end Go.Proofs.YtdkemdcflbadhaaGreat
namespace Go.Proofs.YtdkemdcflbadhaaGreat
open Go.RowKit Go.IntWalk Go.Proofs.YtdkemdcflbadhaaGreatW.PrintWords
/-- bytes that a slice holds -/
structure BSl (w : World) (A : Option Addr) (c : Nat) (p : List Int) : Prop where
  row : (Kd.int .u8).C w A p.length p
  cap : p.length ≤ c
  nil : A = none → c = 0
  by' : Bytes p
theorem BSl.below {w w' : World} {A : Option Addr} {c : Nat} {p : List Int} (h : BSl w A c p) (hb : Below w.heap.size w w') : BSl w' A c p := ⟨Kd.C_below h.row hb, h.cap, h.nil, h.by'⟩
theorem BSl.of {w : World} {A : Option Addr} {c n base : Nat} {p : List Int} {ok : Nat → Prop} (h : (Kd.int .u8).R 5 w base ok (.slice A n c) p) (hp : Bytes p) : BSl w A c p := by
  obtain ⟨e, h2, h3⟩ := Kd.R_reads' h
  refine ⟨h3, by omega, fun ha => ?_, hp⟩
  obtain ⟨_, inner, ⟨_, ho⟩, _⟩ := h
  rcases ho with ⟨h4, _⟩ | ⟨g, cap, cur, h4, _⟩
  · cases h4; rfl
  · rw [ha] at h4; cases h4
theorem Told.out {k : Int} {y : List Int} {w : World} {e : Ending} {w' : World} (h : Told k y w e w') (hy : Bytes y) : ∃ A c, e = .returned (.tuple #[.slice A y.length c, .int .i64 k]) ∧ BSl w' A c y ∧ Below w.heap.size w w' := by
  obtain ⟨A, c, he, hr, hb⟩ := h
  exact ⟨A, c, he, BSl.of hr hy, hb⟩
theorem lit_row {w : World} (xs : List Int) (hx : Bytes xs) (hl : xs.length ≤ 1000000) : BSl (w.alloc (.cells (xs.map (Value.int .u8)).toArray 5)) (some ⟨w.heap.size, 0, none⟩) xs.length xs :=
  BSl.of (row_lit .u8 5 w w.heap.size (fun _ => True) trivial (Nat.le_refl _) xs hl) hx
theorem BSl.str {w : World} {A : Option Addr} {c : Nat} {p : List Int} (h : BSl w A c p) : (convert 22 9 (.slice A p.length c)).run Tryz.prog w = .ok (.string (strOfNums p)) w :=
  Kd.C_string Tryz.underlying22 Tryz.underlying5 Tryz.underlying9 h.row
end Go.Proofs.YtdkemdcflbadhaaGreat
namespace Go.Proofs.YtdkemdcflbadhaaGreat
open Go.RowKit Go.IntWalk Go.Proofs.YtdkemdcflbadhaaGreatW.PrintWords
theorem ints_take {κ : IntKind} {w : World} {A : Option Addr} {xs : List Int} (h : (Kd.int κ).C w A xs.length xs) (k : Nat) (hk : k ≤ xs.length) : (Kd.int κ).C w A k (xs.take k) := by
  obtain ⟨h1, h2, h3⟩ := h
  refine ⟨by rw [List.length_take]; omega, by omega, fun h0 => ?_⟩
  obtain ⟨ad, e, hc⟩ := h3 (by omega)
  refine ⟨ad, e, fun j p hj => hc j p ?_⟩
  rw [List.getElem?_take] at hj
  split at hj
  · exact hj
  · cases hj
end Go.Proofs.YtdkemdcflbadhaaGreat
namespace Go.Proofs.YtdkemdcflbadhaaGreat
open Go.RowKit Go.IntWalk Go.Proofs.YtdkemdcflbadhaaGreatW.PrintWords
/-- what a cut of a slice is -/
theorem BSl.cut {w : World} {A : Option Addr} {c : Nat} {p : List Int} (h : BSl w A c p) {k : Nat} (hk : k ≤ p.length) : BSl w A c (p.take k) :=
  ⟨by have := ints_take h.row k hk; rwa [List.length_take, Nat.min_eq_left hk], by rw [List.length_take]; have := h.cap; omega, h.nil, fun x hx => h.by' x (List.mem_of_mem_take hx)⟩
end Go.Proofs.YtdkemdcflbadhaaGreat
namespace Go.Proofs.YtdkemdcflbadhaaGreat
open Go.RowKit
theorem byte_cons {x : Int} {l : List Int} (hx : 0 ≤ x ∧ x < 256) (hl : Bytes l) : Bytes (x :: l) := fun y hy => by
  rcases List.mem_cons.1 hy with h | h
  · rw [h]; exact hx
  · exact hl y h
theorem bytes_app {a b : List Int} (ha : Bytes a) (hb : Bytes b) : Bytes (a ++ b) := fun y hy => by
  rcases List.mem_append.1 hy with h | h
  · exact ha y h
  · exact hb y h
theorem body1L_bytes (b : List Int) : Bytes (body1L b) := by
  unfold body1L
  have hr := firstR_ok b
  exact bytes_app (bytes_app (bytes_app (byte_cons (by omega) (fun x hx => by cases hx)) (packB_bytes _)) (packB_bytes _)) (packB_bytes _)
theorem hdrs_len {b : List Int} (hb : Bytes b) (hl : b.length ≤ 1000000) : ∀ (d i : Nat), i + d = (presN b 256).length → (hdrsB (firstR b) (firstL b) ((presN b 256).drop i)).length ≤ d * 3840 := by
  intro d
  induction d with
  | zero => intro i hi; rw [List.drop_of_length_le (by omega)]; simp [hdrsB]
  | succ d ih =>
    intro i hi
    have hlt : i < (presN b 256).length := by omega
    obtain ⟨c, hc, hc256, hpk⟩ := presN_get b hlt
    have hr := firstR_ok b
    have hd : (presN b 256).drop i = (c : Int) :: (presN b 256).drop (i + 1) := by rw [drop_cons _ _ hlt, hc]
    have hq : (firstL b).getD c [] = firstQ b c := firstL_get b hc256
    obtain ⟨n1, n2, n3⟩ := firstQ_nrm hb hl hc256 hpk
    have e2 : (2 : Int) ^ firstR b = ((2 ^ firstR b : Nat) : Int) := by simp
    have h1 := hdrB_len (r := firstR b) (by omega) n1 n2 257 0 (2 ^ firstR b) (by omega) (by rw [List.drop_zero, n3, e2]) (by rw [Nat.pow_succ]; have := Nat.two_pow_pos (firstR b); omega)
    have h2 : (256 - 0) * (firstR b + 3) ≤ 256 * 15 := Nat.mul_le_mul (by omega) (by omega)
    rw [hd]
    simp only [hdrsB, Int.toNat_natCast, hq, List.length_append]
    have := ih (i + 1) (by omega)
    omega
theorem body1L_len {b : List Int} (hb : Bytes b) (hl : b.length ≤ 40000) (h0 : 0 < b.length) : 33 < (body1L b).length ∧ (body1L b).length ≤ 900000 := by
  have HCan : canM (firstR b : Nat) false (firstL b) b = true := of_can (one := false) hb (by omega) h0
  have hF := encBits_len (can_log HCan).1 hb
  have h1 := hdrs_len hb (by omega) (presN b 256).length 0 (by omega)
  have h2 := presN_len b 256
  rw [List.drop_zero] at h1
  unfold body1L
  simp only [List.length_append, List.length_singleton, dirL_len, packB_len]
  omega
end Go.Proofs.YtdkemdcflbadhaaGreat
namespace Go.Proofs.YtdkemdcflbadhaaGreat
open Go.RowKit Go.IntWalk Go.Proofs.YtdkemdcflbadhaaGreatW.PrintWords
theorem hdrsB_app (r : Nat) (qs : List (List Int)) (c : Int) : ∀ l : List Int, hdrsB r qs (l ++ [c]) = hdrsB r qs l ++ hdrB (qs.getD c.toNat []) 257 0 (2 ^ r)
  | [] => by simp [hdrsB]
  | x :: l => by
    show hdrB _ 257 0 (2 ^ r) ++ hdrsB r qs (l ++ [c]) = (hdrB _ 257 0 (2 ^ r) ++ hdrsB r qs l) ++ _
    rw [hdrsB_app r qs c l, List.append_assoc]
theorem hdrsB_len {r : Nat} {qs : List (List Int)} (hr9 : r ≤ 9) : ∀ l : List Int, (∀ c ∈ l, Nrm (qs.getD c.toNat []) r) → (hdrsB r qs l).length ≤ l.length * 3072
  | [], _ => by simp [hdrsB]
  | x :: l, h => by
    have hn := h x (by simp)
    have ih := hdrsB_len hr9 l (fun c hc => h c (by simp [hc]))
    have e2 : (2 : Int) ^ r = ((2 ^ r : Nat) : Int) := by simp
    have h1 := hdrB_len hn.r12 hn.len hn.nn 257 0 (2 ^ r) (by omega) (by rw [List.drop_zero, hn.sum, e2]) (by rw [Nat.pow_succ]; have := Nat.two_pow_pos r; omega)
    have h2 : (256 - 0) * (r + 3) ≤ 256 * 12 := Nat.mul_le_mul (by omega) (by omega)
    show (hdrB _ 257 0 (2 ^ r) ++ hdrsB r qs l).length ≤ _
    rw [List.length_append, List.length_cons]; omega
def head1L (r : Nat) (qs : List (List Int)) (l : List Int) : List Int := [(r : Int)] ++ dirL l ++ packB (hdrsB r qs l)
def Head1Post (r : Nat) (qs : List (List Int)) (l : List Int) (w : World) (e : Ending) (w' : World) : Prop := ∃ v, e = .returned v ∧ (Kd.int .u8).R 5 w' w.heap.size (fun _ => True) v (head1L r qs l) ∧ Below w.heap.size w w'
set_option maxRecDepth 100000 in
set_option maxHeartbeats 4000000 in
theorem head1_any (r c cl : Nat) (A Al : Option Addr) (qs : List (List Int)) (l : List Int) (w : World) (hr : kq.C w A qs.length qs) (hq : qs.length = 256) (hl : (Kd.int .i64).C w Al l.length l) (hA : Asc l) (hll : l.length ≤ 256) (hr9 : r ≤ 9) (hN : ∀ c ∈ l, Nrm (qs.getD c.toNat []) r) :
    Calls Tryz.prog 53 #[.agg #[.int .i64 r, .bool false, .slice A 256 c], .slice Al l.length cl] w (Head1Post r qs l w) := by
  obtain ⟨W, hW⟩ : ∃ W, W = w.alloc (.cells #[.int .i64 r, .bool false, .slice A 256 c] 31) := ⟨_, rfl⟩
  have hb1 : Below w.heap.size w W := by rw [hW]; exact (Below.refl _ _).alloc (Nat.le_refl _) _
  have hk1 : W.heap[w.heap.size]? = some (.cells #[.int .i64 r, .bool false, .slice A 256 c] 31 (0, 0)) := by rw [hW]; exact blk_new _ _
  obtain ⟨mb, hmb⟩ : ∃ mb, mb = w.heap.size := ⟨_, rfl⟩
  rw [← hmb] at hk1
  have HMb := Lib.hid hmb
  have HR := Lib.hid (And.intro hr (And.intro hl (And.intro hA (And.intro hll (And.intro hN hq)))))
  have H1 := Lib.hid (And.intro hb1 hk1)
  have hll2 : l.length ≤ 256 := hll
  clear hr hq hl hA hll hN hb1 hk1
  go_enter Tryz.func53, Tryz.ntmps53
  go_wp2_with fail
  rw [← hW, ← hmb]
  clear hW hmb
  refine (dirPut_any Al cl l W (Kd.C_below HR.out.2.1 H1.out.1) HR.out.2.2.1 HR.out.2.2.2.1).mono ?_
  rintro e w2 ⟨vd, rfl, hvd, hb2⟩
  obtain ⟨Ad, cd, rfl⟩ := Kd.R_slice hvd
  rw [dirL_len] at hvd ⊢
  have HD := Lib.hid (Kd.R_reads' hvd).2.2
  have HB2 := Lib.hid (below_tr H1.out.1 hb2)
  have HK2 := Lib.hid (blk_below H1.out.2 hb2)
  clear hvd hb2
  go_wp2_with fail
  refine (bitwNew_any _).mono ?_
  rintro e w3 ⟨rfl, hw3⟩
  have hw0 : WrVal w3 w2.heap.size w2.heap.size (.slice none 0 0) [] := by rw [hw3]; exact wr_new w2
  have hb3 : Below w2.heap.size w2 w3 := by rw [hw3]; exact (Below.refl _ _).alloc (Nat.le_refl _) _
  obtain ⟨P, hP⟩ : ∃ P, P = w2.heap.size := ⟨_, rfl⟩
  rw [← hP] at hw0 ⊢
  have HW0 := Lib.hid (And.intro hw0 (And.intro hb3 hP))
  have HB3 := Lib.hid (below_tr HB2.out hb3)
  clear hw3 hw0 hb3 hP
  go_wp2_with fail
  go_loopw [18] (fun kv wr => ∃ i : Nat, i ≤ l.length ∧ kv = .int .i64 i ∧ Hid (PutRel P P (.slice none 0 0) (hdrsB r qs (l.take i)) w3 wr)) (fun kv _ => l.length - (intOf kv).toNat)
  case atStart => exact ⟨0, by omega, rfl, Lib.hid ⟨_, HW0.out.1, .inl rfl, Only.refl _ _⟩⟩
  case round =>
    obtain ⟨i, hi, rfl, H⟩ := hrel
    have hBw2 : Below w2.heap.size w2 wr := PutRel.bel H.out HW0.out.2.1 (by have := HW0.out.2.2; omega) (fun k hk => by simp [Value.ownBlock] at hk)
    have hBw : Below w.heap.size w wr := HB2.out.trans (hBw2.mono HB2.out.size)
    obtain ⟨⟨ka, kb, kc⟩, -⟩ := cell3 (blk_below HK2.out hBw2)
    by_cases hlt : i < l.length
    · obtain ⟨cx, hc, hc256⟩ := HR.out.2.2.1.get hlt
      obtain ⟨ad, hA2, hcx⟩ := ints_get (Kd.C_below HR.out.2.1 hBw) i hlt
      subst hA2
      rw [hc] at hcx
      have hm := hd_mem hlt
      rw [hc] at hm
      have hn := HR.out.2.2.2.2.1 _ hm
      rw [Int.toNat_natCast] at hn
      obtain ⟨aq, B, cq, hA3, hcq', -, hCq⟩ := kq_at HR.out.1 cx (by rw [HR.out.2.2.2.2.2]; exact hc256)
      subst hA3
      rw [hn.len] at hcq' hCq
      have hcq := pw_cell_below hBw hcq'
      have HCq := Lib.hid hCq
      have HBw := Lib.hid (And.intro hBw hBw2)
      clear hcq'
      have ht : l.take (i + 1) = l.take i ++ [(cx : Int)] := by rw [List.take_succ_eq_append_getElem hlt, ← hc, List.getD_eq_getElem?_getD, List.getElem?_eq_getElem hlt, Option.getD_some]
      have hs : hdrsB r qs (l.take (i + 1)) = hdrsB r qs (l.take i) ++ hdrB (qs.getD cx []) 257 0 (2 ^ r) := by rw [ht, hdrsB_app, Int.toNat_natCast]
      have hlb := hdrsB_len (r := r) (qs := qs) hr9 (l.take i) (fun x hx => HR.out.2.2.2.2.1 x (List.mem_of_mem_take hx))
      have hlb2 : (hdrsB r qs (l.take i)).length ≤ 800000 := by rw [List.length_take] at hlb; omega
      have HS := Lib.hid hs
      have HN := Lib.hid (And.intro hn hlb2)
      have hc2 : (cx : Int) < 256 := by omega
      obtain ⟨v1, k1, k2, k3⟩ := H.out
      have HK := Lib.hid (And.intro k1 (And.intro k2 k3))
      have HBs : Hid (P ≤ wr.heap.size) := Lib.hid (Nat.le_trans (by have := HW0.out.2.2; have := HW0.out.2.1.size; omega) k3.size)
      clear hc hm hn hCq ht hs hlb hlb2 k1 k2 k3 hBw2 hBw
      go_wp2_with fail
      refine (hput_any P P cq r B v1 (hdrsB r qs (l.take i)) (qs.getD cx []) w wr HK.out.1 HBs.out HN.out.2 HCq.out HBw.out.1 (by have := HW0.out.2.2; have := HB2.out.size; omega) (by have := HW0.out.2.2; have := HB2.out.size; omega) HN.out.1).mono ?_
      rintro e w5 ⟨rfl, hp⟩
      have HP5 := Lib.hid (PutRel.trans HK.out hp)
      clear hp
      go_wp2_with fail
      go_roundw
      case rel => exact ⟨i + 1, by omega, by go_num, Lib.hid (by rw [HS.out]; exact HP5.out)⟩
      case measure => first | (simp [intOf]; done) | (simp [intOf]; omega)
    · obtain rfl : i = l.length := by omega
      rw [List.take_length] at H
      obtain ⟨v1, k1, k2, k3⟩ := H.out
      have hlb := hdrsB_len (r := r) (qs := qs) hr9 l HR.out.2.2.2.2.1
      have HX := Lib.hid (And.intro k1 (by omega : (hdrsB r qs l).length ≤ 800000))
      obtain ⟨X, hX⟩ : ∃ X, X = packB (hdrsB r qs l) := ⟨_, rfl⟩
      have HXX := Lib.hid hX
      have HXl : Hid (X.length ≤ 100001) := Lib.hid (by rw [hX, packB_len]; omega)
      have HBw := Lib.hid hBw
      have HD2 := Lib.hid (Kd.C_below HD.out hBw2)
      have hDl := dirL_len l
      obtain ⟨D, hD⟩ : ∃ D, D = dirL l := ⟨_, rfl⟩
      rw [← hD] at HD2 hDl
      have HDD := Lib.hid (And.intro hD hDl)
      clear k1 k2 k3 hlb hBw hBw2 hX hD hDl H
      have hrw : IntKind.u8.wrap (r : Int) = (r : Int) := by rw [IntKind.wrap_u8]; omega
      have hWl : Below w.heap.size w (wr.alloc (.cells #[.int .u8 (r : Int)] 5)) := HBw.out.alloc HBw.out.size _
      have HWl := Lib.hid (And.intro hWl hWl.size)
      have HO1 : Hid ((Kd.int .u8).R 5 (wr.alloc (.cells #[.int .u8 (r : Int)] 5)) w.heap.size (fun _ => True) (.slice (some ⟨wr.heap.size, 0, none⟩) 1 1) [(r : Int)]) := Lib.hid (row_lit .u8 5 wr w.heap.size (fun _ => True) trivial HBw.out.size [(r : Int)] (by simp))
      have HD3 : Hid ((Kd.int .u8).C (wr.alloc (.cells #[.int .u8 (r : Int)] 5)) Ad 32 D) := Lib.hid (by have := Kd.C_alloc HD2.out (.cells #[.int .u8 (r : Int)] 5); rw [HDD.out.2] at this; exact this)
      have HL1 : Hid ((([(r : Int)] : List Int).length + 32) * 1 ≤ 140737488355328) := Lib.hid (by simp)
      have HWr : Hid (WrVal wr P P v1 (hdrsB r qs l)) := HX.out.1
      have HWr2 : Hid (WrVal (wr.alloc (.cells #[.int .u8 (r : Int)] 5)) P P v1 (hdrsB r qs l)) := Lib.hid ⟨blk_alloc HX.out.1.blk _, Kd.R_alloc HX.out.1.row _⟩
      have HZ33 : Hid (([(r : Int)] ++ D).length = 33) := Lib.hid (by rw [List.length_append, HDD.out.2]; rfl)
      clear hWl
      go_wp2_with (at_builtin; refine Kd.R_append_rows (Kd.int .u8) (Rr := (Kd.int .u8).K (wr.alloc (.cells #[.int .u8 (r : Int)] 5))) (w0 := w) (W := wr.alloc (.cells #[.int .u8 (r : Int)] 5)) w.heap.size rfl (.tmp 33) (.tmp 34) 22 5 (.int .u8 0) 1 rfl Tryz.underlying22 infoU8 rfl (by decide) (by decide) (.slice (some ⟨wr.heap.size, 0, none⟩) 1 1) [(r : Int)] D Ad 32 cd (fun _ => True) (fun _ => False) rfl rfl HO1.out HD3.out (fun _ _ h => h) (fun _ h => h.elim) (fun _ _ => trivial) HWl.out.1 HWl.out.2 HL1.out ?_; intro vi w5 hr5 hb5 hg5 hat5; have HG5 := Lib.hid (And.intro hg5 hat5); obtain ⟨A5, c5, rfl⟩ := Kd.R_slice hr5; rw [HZ33.out] at hr5 ⊢; have HR5 := Lib.hid (And.intro hr5 hb5); clear hr5 hb5 hg5 hat5)
      have HW5 : Hid (WrVal w5 P P v1 (hdrsB r qs l)) := Lib.hid ⟨blk_grown HWr2.out.blk HG5.out.1 (fun e => by have := blk_lt HWr.out.blk; simp [Value.ownBlock] at e; omega), Kd.R_mono (Kd.R_grown (Kd.R_alloc (Kd.R_bound HWr.out.row) _) HG5.out.1 (fun k hk e => by have := hk.2.2.1; simp [Value.ownBlock] at e; omega)) (fun k hk => hk.1)⟩
      have HX8 : Hid ((hdrsB r qs l).length ≤ 900000) := Lib.hid (by have := HX.out.2; omega)
      obtain ⟨Z, hZ⟩ : ∃ Z, Z = [(r : Int)] ++ D := ⟨_, rfl⟩
      rw [← hZ] at HR5
      have HZ := Lib.hid (And.intro hZ (by rw [hZ]; exact HZ33.out : Z.length = 33))
      clear hZ
      refine (bytes_any P P v1 _ w5 HW5.out HX8.out).mono ?_
      rintro e w6 ⟨v6, rfl, hv6, hb6⟩
      rw [← HXX.out] at hv6
      obtain ⟨A6, c6, rfl⟩ := Kd.R_slice hv6
      have HO6 := Lib.hid (Kd.R_below HR5.out.1 hb6)
      have HX6 := Lib.hid (Kd.R_reads' hv6).2.2
      have HB6 := Lib.hid (And.intro (below_tr HR5.out.2 hb6) (below_tr HR5.out.2 hb6).size)
      have HL6 : Hid ((Z.length + X.length) * 1 ≤ 140737488355328) := Lib.hid (by have := HZ.out.2; have := HXl.out; omega)
      clear hv6 hb6
      go_wp2_with (at_builtin; refine Kd.R_append_rows (Kd.int .u8) (Rr := (Kd.int .u8).K w6) (w0 := w) (W := w6) w.heap.size rfl (.tmp 35) (.tmp 37) 22 5 (.int .u8 0) 1 rfl Tryz.underlying22 infoU8 rfl (by decide) (by decide) (.slice A5 33 c5) Z X A6 X.length c6 (fun _ => True) (fun _ => False) rfl rfl HO6.out HX6.out (fun _ _ h => h) (fun _ h => h.elim) (fun _ _ => trivial) HB6.out.1 HB6.out.2 HL6.out ?_; intro v7 w7 hr7 hb7 hg7 hat7; have HR7 := Lib.hid (And.intro hr7 hb7); clear hr7 hb7 hg7 hat7)
      go_ret
      refine ⟨v7, rfl, ?_, HR7.out.2⟩
      unfold head1L
      rw [← HXX.out, ← HDD.out.1, ← HZ.out.1]
      exact HR7.out.1
end Go.Proofs.YtdkemdcflbadhaaGreat
namespace Go.Proofs.YtdkemdcflbadhaaGreat
open Go.RowKit Go.IntWalk Go.Proofs.YtdkemdcflbadhaaGreatW.PrintWords
set_option maxRecDepth 100000 in
theorem for1_any (A : Option Addr) (c pb pc : Nat) (b : List Int) (i : Nat) (k : Int) (w : World) (hpb : w.cell? ⟨pb, 0, none⟩ = some (.slice A b.length c)) (hpc : w.cell? ⟨pc, 0, none⟩ = some (.int .i64 k)) (hr : (Kd.int .u8).C w A b.length b) (hi : i < b.length) (hl : b.length ≤ 1000000) (hb : Bytes b) :
    Calls Tryz.prog 149 #[.int .i64 i, .pointer (some ⟨pb, 0, none⟩), .pointer (some ⟨pc, 0, none⟩)] w fun e w' => e = .returned (.bool (decide (ctxI b i = k))) ∧ ∃ n, w' = w.drewN n := by
  have HN := Lib.hid (fun W (h : Below w.heap.size w W) => ctxAt_any A c b i W (Kd.C_below hr h) hi hl hb)
  obtain ⟨z, hz⟩ : ∃ z, z = ctxI b i := ⟨_, rfl⟩
  rw [← hz] at HN ⊢
  clear hr hi hl hb hz
  go_enter Tryz.func149, Tryz.ntmps149
  go_wp2_with fail
  go_quiet ((go_at_call 80; refine Calls.quiet_of_same ((HN.out _ (pw_below_drewN (Below.refl _ _) _)).mono fun e w' h => ⟨h.1, h.2.symm⟩)))
  all_goals
    go_wp2_with fail
    go_ret
    exact ⟨by first | rfl | exact ret_bool rfl, _, rfl⟩
def PickedPost (b : List Int) (k : Int) (w : World) (e : Ending) (w' : World) : Prop := ∃ v, e = .returned v ∧ (Kd.int .u8).R 5 w' w.heap.size (fun _ => True) v (pickedL b k) ∧ Below w.heap.size w w'
set_option maxRecDepth 100000 in
set_option maxHeartbeats 1000000 in
theorem picked_any (A : Option Addr) (c cc pb pc : Nat) (b : List Int) (k : Int) (w : World) (hpb : w.cell? ⟨pb, 0, none⟩ = some (.slice A b.length cc)) (hpbl : pb < w.heap.size) (hpc : w.cell? ⟨pc, 0, none⟩ = some (.int .i64 k)) (hpcl : pc < w.heap.size) (hr : (Kd.int .u8).C w A b.length b) (hl : b.length ≤ 1000000) (hb : Bytes b) :
    Calls Tryz.prog 148 #[.slice A b.length c, .func (Fn.func 149) #[] #[.pointer (some ⟨pb, 0, none⟩), .pointer (some ⟨pc, 0, none⟩)]] w (PickedPost b k w) := by
  have HR := Lib.hid (And.intro hr (And.intro hl (And.intro hb (And.intro hpbl hpcl))))
  have HCe := Lib.hid (And.intro hpb hpc)
  clear hr hl hb hpb hpc hpbl hpcl
  go_enter Tryz.func148, Tryz.ntmps148
  go_wp2_with fail
  go_loopw [5, 10] (fun v kv wr => ∃ i : Nat, i ≤ b.length ∧ kv = .int .i64 i ∧ Hid ((Kd.int .u8).R 5 wr w.heap.size (fun _ => True) v (pkL b k i) ∧ Below w.heap.size w wr)) (fun _ kv _ => b.length - (intOf kv).toNat)
  case atStart => exact ⟨0, by omega, rfl, Lib.hid ⟨by have : pkL b k 0 = [] := rfl; rw [this]; exact Kd.R_nil _ _ _ _ _, Below.refl _ _⟩⟩
  case round =>
    obtain ⟨i, hi, rfl, H⟩ := hrel
    by_cases hlt : i < b.length
    · obtain ⟨Av, cv, rfl⟩ := Kd.R_slice H.out.1
      have hbi := HR.out.2.2.1 _ (hd_mem hlt)
      obtain ⟨y, hy⟩ : ∃ y : Nat, b.getD i 0 = y := ⟨(b.getD i 0).toNat, by omega⟩
      obtain ⟨ad, hA, hcx⟩ := ints_get (Kd.C_below HR.out.1 H.out.2) i hlt
      rw [hy] at hcx
      subst hA
      have hcl := pkL_len b k i
      have HLn : Hid (((pkL b k i).length + 1) * 1 ≤ 140737488355328) := by show _ ≤ _; have := HR.out.2.1; omega
      have hl6 : b.length ≤ 1000000 := HR.out.2.1
      obtain ⟨L, hL⟩ : ∃ L, L = pkL b k i := ⟨_, rfl⟩
      have HL := Lib.hid hL
      have HY := Lib.hid (And.intro hy hbi)
      have hF := for1_any (some ad) cc pb pc b i k wr (by rw [H.out.2.cell (p := ⟨pb, 0, none⟩) HR.out.2.2.2.1]; exact HCe.out.1) (by rw [H.out.2.cell (p := ⟨pc, 0, none⟩) HR.out.2.2.2.2]; exact HCe.out.2) (Kd.C_below HR.out.1 H.out.2) hlt HR.out.2.1 HR.out.2.2.1
      have HF := Lib.hid hF
      rw [← hL] at H hcl HLn ⊢
      clear hF hy hbi hL
      by_cases hcond : ctxI b i = k
      · have HN : Hid (pkL b k (i + 1) = L ++ [(y : Int)]) := by show _ = _; rw [pkL_hit hcond, ← HL.out, HY.out.1]
        have hd := decide_eq_true hcond
        rw [hd] at HF
        clear hcond hd
        go_wp2_with fail
        refine HF.out.mono ?_
        rintro e w1 ⟨rfl, nq, rfl⟩
        obtain ⟨w2, hw2⟩ : ∃ w2, w2 = wr.drewN nq := ⟨_, rfl⟩
        have HB2 : Hid (Below w.heap.size w w2 ∧ w.heap.size ≤ w2.heap.size) := by
          have h1 : Below w.heap.size w w2 := by rw [hw2]; exact pw_below_drewN H.out.2 nq
          exact Lib.hid ⟨h1, h1.size⟩
        have HR2 : Hid ((Kd.int .u8).R 5 w2 w.heap.size (fun _ => True) (.slice Av L.length cv) L) := Lib.hid (by rw [hw2]; exact Kd.R_drewN H.out.1 nq)
        rw [← hw2]
        clear hw2 hcx
        go_wp2_with (at_builtin; refine Kd.R_append (Kd.int .u8) (w0 := w) (W := w2) w.heap.size rfl (.tmp 18) (.tmp 20) 22 5 (.int .u8 0) 1 rfl Tryz.underlying22 infoU8 rfl (by decide) (by decide) _ _ (y : Int) [.int .u8 y] (fun _ => True) (fun _ => False) rfl rfl rfl (fun _ h => h.elim) (fun _ _ => trivial) HR2.out HB2.out.1 HB2.out.2 HLn.out ?_; intro v1 w3 hr3 hb3 hg3 hat3; have HA := Lib.hid (And.intro hr3 hb3); clear hr3 hb3 hg3 hat3)
        go_roundw
        case rel => exact ⟨i + 1, by omega, by go_num, Lib.hid ⟨by rw [HN.out]; exact HA.out.1, HA.out.2⟩⟩
        case measure => simp [intOf]; omega
      · have HN : Hid (pkL b k (i + 1) = L) := by show _ = _; rw [pkL_miss hcond, ← HL.out]
        have hd := decide_eq_false hcond
        rw [hd] at HF
        clear hcond hd
        go_wp2_with fail
        refine HF.out.mono ?_
        rintro e w1 ⟨rfl, nq, rfl⟩
        go_wp2_with fail
        go_roundw
        case rel => exact ⟨i + 1, by omega, by go_num, Lib.hid ⟨by rw [HN.out]; exact Kd.R_drewN H.out.1 nq, pw_below_drewN H.out.2 nq⟩⟩
        case measure => simp [intOf]; omega
    · obtain rfl : i = b.length := by omega
      go_wp2_with fail
      go_ret
      exact ⟨_, rfl, H.out.1, H.out.2⟩
def ForPost (b : List Int) (k : Int) (w : World) (e : Ending) (w' : World) : Prop := ∃ v, e = .returned v ∧ (Kd.int .i64).R 3 w' w.heap.size (fun _ => True) v (histL (pickedL b k)) ∧ Below w.heap.size w w'
theorem picked_bytes {b : List Int} (hb : Bytes b) (k : Int) : Bytes (pickedL b k) := pkL_bytes hb k _
set_option maxRecDepth 100000 in
theorem ctxFor_any (A : Option Addr) (c : Nat) (b : List Int) (k : Int) (w : World) (hr : (Kd.int .u8).C w A b.length b) (hl : b.length ≤ 1000000) (hb : Bytes b) :
    Calls Tryz.prog 79 #[.slice A b.length c, .int .i64 k] w (ForPost b k w) := by
  obtain ⟨W, hW⟩ : ∃ W, W = (w.alloc (.cells #[.slice A b.length c] 22)).alloc (.cells #[.int .i64 k] 3) := ⟨_, rfl⟩
  have hb1 : Below w.heap.size w W := by rw [hW]; exact ((Below.refl _ _).alloc (Nat.le_refl _) _).alloc (by simp) _
  have hs : W.heap.size = w.heap.size + 2 := by rw [hW]; simp
  have hk1 : W.heap[w.heap.size]? = some (.cells #[.slice A b.length c] 22 (0, 0)) := by rw [hW]; exact blk_alloc (blk_new _ _) _
  have hk2 : W.heap[w.heap.size + 1]? = some (.cells #[.int .i64 k] 3 (0, 0)) := by rw [hW]; exact blk_new1 _ _ _
  have HP := Lib.hid (picked_any A c c w.heap.size (w.heap.size + 1) b k W ((blk_cell hk1 0).trans rfl) (by omega) ((blk_cell hk2 0).trans rfl) (by omega) (Kd.C_below hr hb1) hl hb)
  have HX := Lib.hid (And.intro hb1 (And.intro hl hb))
  have hc1 : W.cell? ⟨w.heap.size, 0, none⟩ = some (.slice A b.length c) := (blk_cell hk1 0).trans rfl
  clear hr hl hb hb1 hs hk1 hk2
  go_enter Tryz.func79, Tryz.ntmps79
  go_wp2_with fail
  rw [← hW]
  clear hW
  refine HP.out.mono ?_
  rintro e w1 ⟨v, rfl, hv, hb1⟩
  obtain ⟨A1, c1, rfl⟩ := Kd.R_slice hv
  have H1 := Lib.hid (And.intro (Kd.R_reads' hv).2.2 (below_tr HX.out.1 hb1))
  have HLp : Hid ((pickedL b k).length ≤ 1000000) := by show _ ≤ _; have := pkL_len b k b.length; have := HX.out.2.1; unfold pickedL; omega
  clear hv hb1
  go_wp2_with fail
  refine (histOf_any A1 c1 (pickedL b k) w1 H1.out.1 HLp.out (picked_bytes HX.out.2.2 k)).mono ?_
  rintro e w2 ⟨v2, rfl, hv2, hb2⟩
  have H2 := Lib.hid (And.intro hv2 hb2)
  clear hv2 hb2
  go_wp2_with fail
  go_ret
  exact ⟨v2, rfl, Kd.R_lower H2.out.1 H1.out.2.size, below_tr H1.out.2 H2.out.2⟩
end Go.Proofs.YtdkemdcflbadhaaGreat
namespace Go.Proofs.YtdkemdcflbadhaaGreat
open Go.RowKit Go.IntWalk Go.Proofs.YtdkemdcflbadhaaGreatW.PrintWords Go.Proofs.YtdkemdcflbadhaaGreatW.PrintMore
attribute [local go_sem] max2_int min2_int max_two min_two
/-- which contexts the first i bytes have -/
def metL (b : List Int) : Nat → List Bool
  | 0 => List.replicate 256 false
  | i + 1 => (metL b i).set (ctxI b (i : Nat)).toNat true
theorem metL_len (b : List Int) : ∀ i, (metL b i).length = 256
  | 0 => List.length_replicate
  | i + 1 => by unfold metL; rw [List.length_set]; exact metL_len b i
theorem ctx_rg {b : List Int} (hb : Bytes b) {i : Nat} (hi : i < b.length) : 0 ≤ ctxI b (i : Nat) ∧ ctxI b (i : Nat) < 256 := by
  unfold ctxI
  rw [if_neg (by omega)]
  split
  · omega
  · exact hb.get _
theorem metL_get {b : List Int} (hb : Bytes b) {c : Nat} (hc : c < 256) : ∀ i, i ≤ b.length → (metL b i).getD c false = decide (0 < (pkL b (c : Int) i).length)
  | 0, _ => by
    have : pkL b (c : Int) 0 = [] := rfl
    rw [this]
    unfold metL
    rw [List.getD_eq_getElem?_getD, List.getElem?_replicate, if_pos hc]; rfl
  | i + 1, h => by
    have ih := metL_get hb hc i (by omega)
    have hr := ctx_rg hb (show i < b.length by omega)
    unfold metL
    rw [List.getD_eq_getElem?_getD, List.getElem?_set]
    by_cases e : ctxI b (i : Nat) = (c : Int)
    · rw [if_pos (by omega), if_pos (by rw [metL_len]; omega), pkL_hit e]
      simp
    · rw [if_neg (by omega), ← List.getD_eq_getElem?_getD, ih, pkL_miss e]
theorem sizeMet : (Tryz.prog.info? 96).map (·.size) = some 256 := by kernel_rfl
theorem sizeBool : (Tryz.prog.info? 4).map (·.size) = some 1 := by kernel_rfl
theorem zeroMet : Tryz.zeroCells96 = ((List.replicate 256 false).map Value.bool).toArray := by kernel_rfl
theorem index_met (ms : List Bool) (hm : ms.length = 256) (i : Nat) (hi : i < 256) (w : World) : (Instr.index 96 (.agg (ms.map Value.bool).toArray) (.int .i64 i)).run Tryz.prog w = .ok (.bool (ms.getD i false)) w := by
  obtain ⟨i0, hi0, hsz⟩ := Option.map_eq_some_iff.1 sizeBool
  have h1 : (0 : Int) ≤ i ∧ (i : Int) < ((256 : Nat) : Int) := by omega
  have hag : (isAgg 4).run Tryz.prog w = .ok false w := by simp [isAgg, Tryz.underlying4, go_sem, run_underlying]
  have he : ms[i]? = some ms[i] := List.getElem?_eq_getElem (by omega)
  unfold Instr.index
  simp [run_underlying (P := Tryz.prog) Tryz.underlying96, asIntOf, sizeOf, typeInfo, hi0, hsz, part, hag, h1, Result.andThen, he, hi]
/-- a block of marks -/
def MetAt (p : Nat) (ms : List Bool) (w : World) : Prop := w.heap[p]? = some (.cells (ms.map Value.bool).toArray 96 (0, 0))
theorem MetAt.cell {p : Nat} {ms : List Bool} {w : World} (h : MetAt p ms w) {c : Nat} (hc : c < ms.length) : w.cell? ⟨p, c, none⟩ = some (.bool (ms.getD c false)) ∧ w.frozen? ⟨p, c, none⟩ = false := by
  refine ⟨(blk_cell h c).trans ?_, blk_frozen h c⟩
  rw [List.getElem?_toArray, List.getElem?_map, List.getElem?_eq_getElem hc, List.getD_eq_getElem?_getD, List.getElem?_eq_getElem hc]; rfl
theorem MetAt.set {p : Nat} {ms : List Bool} {w : World} (h : MetAt p ms w) (c : Nat) : MetAt p (ms.set c true) (w.setCell ⟨p, c, none⟩ (.bool true)) := by
  unfold MetAt at h ⊢
  rw [blk_set h c]
  congr 2
  rw [List.map_set]; simp
theorem MetAt.range {p : Nat} {ms : List Bool} {w : World} (h : MetAt p ms w) : w.rangeAt p 0 (ms.map Value.bool) := fun j v hv => by
  rw [Nat.zero_add, blk_cell h j]
  simpa using hv
def PresPost (b : List Int) (w : World) (e : Ending) (w' : World) : Prop := ∃ v, e = .returned v ∧ (Kd.int .i64).R 3 w' w.heap.size (fun _ => True) v (presN b 256) ∧ Below w.heap.size w w'
theorem pres_metL {b : List Int} (hb : Bytes b) {c : Nat} (hc : c < 256) : (metL b b.length).getD c false = decide (0 < (pickedL b (c : Int)).length) := metL_get hb hc b.length (Nat.le_refl _)
set_option maxRecDepth 100000 in
set_option maxHeartbeats 1000000 in
theorem ctxPresent_any (A : Option Addr) (cp : Nat) (b : List Int) (w : World) (hr : (Kd.int .u8).C w A b.length b) (hl : b.length ≤ 1000000) (hb : Bytes b) :
    Calls Tryz.prog 30 #[.slice A b.length cp] w (PresPost b w) := by
  obtain ⟨W, hW⟩ : ∃ W, W = w.alloc (.cells Tryz.zeroCells96 96) := ⟨_, rfl⟩
  have hb1 : Below w.heap.size w W := by rw [hW]; exact (Below.refl _ _).alloc (Nat.le_refl _) _
  have hm1 : MetAt w.heap.size (metL b 0) W := by rw [hW, zeroMet]; exact blk_new _ _
  have H1 := Lib.hid (And.intro hb1 hm1)
  have HR := Lib.hid (And.intro hr (And.intro hl hb))
  obtain ⟨p, hp⟩ : ∃ p, p = w.heap.size := ⟨_, rfl⟩
  rw [← hp] at H1
  have HP := Lib.hid hp
  clear hr hl hb hb1 hm1
  go_enter Tryz.func30, Tryz.ntmps30
  go_wp2_with fail
  rw [← hW, ← hp]
  clear hW hp
  go_loopw [10] (fun kv wr => ∃ i : Nat, i ≤ b.length ∧ kv = .int .i64 i ∧ Hid (MetAt p (metL b i) wr ∧ Below p w wr ∧ Only (fun k => k = p) W wr)) (fun kv _ => b.length - (intOf kv).toNat)
  case atStart => exact ⟨0, by omega, rfl, Lib.hid ⟨H1.out.2, by rw [HP.out]; have := H1.out.1; rw [HP.out] at this; exact this, Only.refl _ _⟩⟩
  case round =>
    obtain ⟨i, hi, rfl, H⟩ := hrel
    by_cases hlt : i < b.length
    · have hB : Below w.heap.size w wr := by have := H.out.2.1; rw [HP.out] at this; exact this
      have hRr : (Kd.int .u8).C wr A b.length b := Kd.C_below HR.out.1 hB
      have HAt := Lib.hid (ctxAt_any A cp b i wr hRr hlt HR.out.2.1 HR.out.2.2)
      obtain ⟨c, hc, hc2⟩ : ∃ c : Nat, ctxI b (i : Nat) = c ∧ c < 256 := by
        have := ctx_rg HR.out.2.2 hlt
        exact ⟨(ctxI b (i : Nat)).toNat, by omega, by omega⟩
      rw [hc] at HAt
      obtain ⟨mc, mf⟩ := H.out.1.cell (c := c) (by rw [metL_len]; omega)
      have HN : Hid (metL b (i + 1) = (metL b i).set c true) := by show _ = _; rw [metL, hc, Int.toNat_natCast]
      have hl6 : b.length ≤ 1000000 := HR.out.2.1
      clear hc hRr hB
      go_wp2_with fail
      refine HAt.out.mono ?_
      rintro e w1 ⟨rfl, rfl⟩
      go_wp2_with fail
      go_roundw
      case rel => exact ⟨i + 1, by omega, by go_num, Lib.hid ⟨by rw [HN.out]; exact H.out.1.set c, H.out.2.1.setCell (Nat.le_refl _) _, H.out.2.2.set1 _ _⟩⟩
      case measure => simp [intOf]; omega
    · obtain rfl : i = b.length := by omega
      have hld := H.out.1.range
      obtain ⟨ms, hms⟩ : ∃ ms, ms = metL b b.length := ⟨_, rfl⟩
      have HMs : Hid (ms.length = 256 ∧ ∀ c, c < 256 → ms.getD c false = decide (0 < (pickedL b (c : Int)).length)) := Lib.hid ⟨by rw [hms]; exact metL_len b _, fun c hc => by rw [hms]; exact pres_metL HR.out.2.2 hc⟩
      rw [← hms] at hld
      have HLd := Lib.hid hld
      clear hms hld
      go_wp2_with fail
      refine wp_load_mid 96 (.tmp 3) rfl p 0 rfl (ms.map Value.bool) _ HLd.out Tryz.underlying96 rfl (by rw [sizeMet]; simp [HMs.out.1]) ?_
      go_wp2_with fail
      go_loopw [5, 19] (fun v kv wr => ∃ c : Nat, c ≤ 256 ∧ kv = .int .i64 c ∧ Hid ((Kd.int .i64).R 3 wr w.heap.size (fun _ => True) v (presN b c) ∧ Below w.heap.size w wr)) (fun _ kv _ => 256 - (intOf kv).toNat)
      case atStart => exact ⟨0, by omega, rfl, Lib.hid ⟨by have : presN b 0 = [] := rfl; rw [this]; exact Kd.R_nil _ _ _ _ _, by have := H.out.2.1; rw [HP.out] at this; exact this⟩⟩
      case round =>
        obtain ⟨c, hc, rfl, G⟩ := hrel
        by_cases hlt : c < 256
        · have hix := index_met ms HMs.out.1 c hlt
          have hmc := HMs.out.2 c hlt
          obtain ⟨Av, cv, rfl⟩ := Kd.R_slice G.out.1
          have hpl := presN_len b c
          have HLn : Hid (((presN b c).length + 1) * 8 ≤ 140737488355328) := by show _ ≤ _; omega
          obtain ⟨L, hL⟩ : ∃ L, L = presN b c := ⟨_, rfl⟩
          have hsucc := presN_succ b c
          rw [← hL] at G hpl HLn hsucc ⊢
          have HGB : Hid (Below w.heap.size w wr ∧ w.heap.size ≤ wr.heap.size) := Lib.hid ⟨G.out.2, G.out.2.size⟩
          by_cases hp0 : 0 < (pickedL b (c : Int)).length
          · rw [decide_eq_true hp0] at hmc
            rw [if_pos hp0] at hsucc
            rw [hmc] at hix
            have HS := Lib.hid hsucc
            clear hmc hsucc hL hp0
            go_wp2_with (at_builtin; refine Kd.R_append (Kd.int .i64) (w0 := w) (W := wr) w.heap.size rfl (.tmp 24) (.tmp 26) 39 3 (.int .i64 0) 8 rfl Tryz.underlying39 infoInt rfl (by decide) (by decide) _ _ (c : Int) [.int .i64 c] (fun _ => True) (fun _ => False) rfl rfl rfl (fun _ h => h.elim) (fun _ _ => trivial) G.out.1 HGB.out.1 HGB.out.2 HLn.out ?_; intro v1 w3 hr3 hb3 hg3 hat3; have HA := Lib.hid (And.intro hr3 hb3); clear hr3 hb3 hg3 hat3)
            go_roundw
            case rel => exact ⟨c + 1, by omega, by go_num, Lib.hid ⟨by rw [HS.out]; exact HA.out.1, HA.out.2⟩⟩
            case measure => simp [intOf]; omega
          · rw [decide_eq_false hp0] at hmc
            rw [if_neg hp0] at hsucc
            rw [hmc] at hix
            have HS := Lib.hid hsucc
            clear hmc hsucc hL hp0
            go_wp2_with fail
            go_roundw
            case rel => exact ⟨c + 1, by omega, by go_num, Lib.hid ⟨by rw [HS.out]; exact G.out.1, G.out.2⟩⟩
            case measure => simp [intOf]; omega
        · obtain rfl : c = 256 := by omega
          go_wp2_with fail
          go_ret
          exact ⟨_, rfl, G.out.1, G.out.2⟩
/-- the most unlike bytes of some contexts -/
def widL (b : List Int) : List Int → Nat
  | [] => 0
  | c :: l => max (manyC (histL (pickedL b c))) (widL b l)
theorem widL_app (b : List Int) (c : Int) : ∀ l : List Int, widL b (l ++ [c]) = max (widL b l) (manyC (histL (pickedL b c)))
  | [] => by simp [widL]
  | x :: l => by
    show max (manyC (histL (pickedL b x))) (widL b (l ++ [c])) = max (max (manyC (histL (pickedL b x))) (widL b l)) _
    rw [widL_app b c l, Nat.max_assoc]
theorem many_nil : manyC (histL []) = 0 := by decide +kernel
theorem widL_pres (b : List Int) : ∀ k, widL b (presN b k) = widN b k
  | 0 => rfl
  | k + 1 => by
    rw [presN_succ]
    show _ = max (widN b k) (manyC (histL (pickedL b (k : Nat))))
    by_cases h : 0 < (pickedL b (k : Int)).length
    · rw [if_pos h, widL_app, widL_pres b k]
    · rw [if_neg h, widL_pres b k]
      have e : pickedL b ((k : Nat) : Int) = [] := List.eq_nil_of_length_eq_zero (by omega)
      rw [e, many_nil]; simp
theorem widL_le (b : List Int) : ∀ l, widL b l ≤ 256
  | [] => by simp [widL]
  | c :: l => by
    have := widL_le b l; have := manyC_le (histL (pickedL b c))
    simp only [widL]; omega
set_option maxRecDepth 100000 in
set_option maxHeartbeats 1000000 in
theorem ctxWidest_any (A : Option Addr) (cp : Nat) (b : List Int) (w : World) (hr : (Kd.int .u8).C w A b.length b) (hl : b.length ≤ 1000000) (hb : Bytes b) :
    Calls Tryz.prog 77 #[.slice A b.length cp] w (Ret (.int .i64 (widN b 256 : Nat)) w) := by
  have HR := Lib.hid (And.intro hr (And.intro hl hb))
  clear hr hl hb
  go_enter Tryz.func77, Tryz.ntmps77
  go_wp2_with fail
  refine (ctxPresent_any A cp b w HR.out.1 HR.out.2.1 HR.out.2.2).mono ?_
  rintro e w1 ⟨v, rfl, hv, hb1⟩
  obtain ⟨A1, c1, rfl⟩ := Kd.R_slice hv
  have H1 := Lib.hid (And.intro (Kd.R_reads' hv).2.2 hb1)
  have hpl := presN_len b 256
  obtain ⟨L, hL⟩ : ∃ L, L = presN b 256 := ⟨_, rfl⟩
  have HL := Lib.hid hL
  rw [← hL] at H1 hpl ⊢
  clear hv hb1 hL
  go_wp2_with fail
  go_loopw [3, 9] (fun mv kv wr => ∃ i : Nat, i ≤ L.length ∧ kv = .int .i64 i ∧ mv = .int .i64 (widL b (L.take i) : Nat) ∧ Hid (Below w1.heap.size w1 wr)) (fun _ kv _ => L.length - (intOf kv).toNat)
  case atStart => exact ⟨0, by omega, rfl, rfl, Lib.hid (Below.refl _ _)⟩
  case round =>
    obtain ⟨i, hi, rfl, rfl, H⟩ := hrel
    by_cases hlt : i < L.length
    · obtain ⟨ad, hA, hcx⟩ := ints_get (Kd.C_below H1.out.1 H.out) i hlt
      subst hA
      have ht : L.take (i + 1) = L.take i ++ [L.getD i 0] := by rw [List.take_succ_eq_append_getElem hlt, List.getD_eq_getElem?_getD, List.getElem?_eq_getElem hlt, Option.getD_some]
      obtain ⟨c, hc⟩ : ∃ c, c = L.getD i 0 := ⟨_, rfl⟩
      rw [← hc] at ht hcx
      obtain ⟨m, hm⟩ : ∃ m, m = widL b (L.take i) := ⟨_, rfl⟩
      obtain ⟨k, hk⟩ : ∃ k, k = manyC (histL (pickedL b c)) := ⟨_, rfl⟩
      have hN : widL b (L.take (i + 1)) = max m k := by rw [ht, widL_app, ← hm, ← hk]
      have hm256 : m ≤ 256 := by rw [hm]; exact widL_le _ _
      have hk256 : k ≤ 256 := by rw [hk]; exact manyC_le _
      have HN := Lib.hid (And.intro hN hk)
      rw [← hm]
      have hBw := below_tr H1.out.2 H.out
      have HFor := Lib.hid (ctxFor_any A cp b c wr (Kd.C_below HR.out.1 hBw) HR.out.2.1 HR.out.2.2)
      have HB := Lib.hid H.out
      clear ht hc hm hN hk hBw
      go_wp2_with fail
      refine HFor.out.mono ?_
      rintro e w2 ⟨v2, rfl, hv2, hb2⟩
      obtain ⟨A2, c2, rfl⟩ := Kd.R_slice hv2
      have HV2 := Lib.hid (Kd.R_reads' hv2).2.2
      have HB2 : Hid (Below w1.heap.size w1 w2) := Lib.hid (below_tr HB.out hb2)
      have HRi : Hid (rightC (histL (pickedL b c)) = true) := Lib.hid (hist_right _ (picked_bytes HR.out.2.2 c) (by have := pkL_len b c b.length; have := HR.out.2.1; unfold pickedL; omega))
      clear hv2 hb2
      go_wp2_with fail
      refine (many_any A2 c2 _ w2 HV2.out HRi.out).mono ?_
      rw [← HN.out.2]
      rintro e w3 ⟨rfl, rfl⟩
      by_cases hmk : (m : Int) < (k : Int)
      · have HM : Hid (max m k = k) := by show _ = _; omega
        go_wp2_with fail
        go_roundw
        case rel => exact ⟨i + 1, by omega, by go_num, by rw [HN.out.1, HM.out], HB2.out⟩
        case measure => simp [intOf]; omega
      · have HM : Hid (max m k = m) := by show _ = _; omega
        go_wp2_with fail
        go_roundw
        case rel => exact ⟨i + 1, by omega, by go_num, by rw [HN.out.1, HM.out], HB2.out⟩
        case measure => simp [intOf]; omega
    · obtain rfl : i = L.length := by omega
      have HE : Hid (widL b (L.take L.length) = widN b 256) := by show _ = _; rw [List.take_length, HL.out, widL_pres]
      rw [HE.out]
      go_wp2_with fail
      go_ret
      exact ⟨rfl, below_tr H1.out.2 H.out⟩
end Go.Proofs.YtdkemdcflbadhaaGreat
namespace Go.Proofs.YtdkemdcflbadhaaGreat
open Go.RowKit Go.IntWalk Go.Proofs.YtdkemdcflbadhaaGreatW.PrintWords
set_option maxRecDepth 100000 in
theorem first1_any (A : Option Addr) (cp p : Nat) (b : List Int) (k : Int) (w : World) (h : w.cell? ⟨p, 0, none⟩ = some (.slice A b.length cp)) (hr : (Kd.int .u8).C w A b.length b) (hl : b.length ≤ 1000000) (hb : Bytes b) :
    Calls Tryz.prog 78 #[.int .i64 k, .pointer (some ⟨p, 0, none⟩)] w (ForPost b k w) := by
  have HF := Lib.hid (ctxFor_any A cp b k w hr hl hb)
  clear hr hl hb
  go_enter Tryz.func78, Tryz.ntmps78
  go_wp2_with fail
  refine HF.out.mono ?_
  rintro e w1 ⟨v, rfl, hv, hb⟩
  have H1 := Lib.hid (And.intro hv hb)
  clear hv hb
  go_wp2_with fail
  go_ret
  exact ⟨v, rfl, H1.out.1, H1.out.2⟩
/-- the lists of the first contexts -/
def firstN (b : List Int) (c : Nat) : List (List Int) := (List.range c).map (firstQ b)
theorem firstN_succ (b : List Int) (c : Nat) : firstN b (c + 1) = firstN b c ++ [firstQ b c] := by simp [firstN, List.range_succ]
theorem firstN_len (b : List Int) (c : Nat) : (firstN b c).length = c := by simp [firstN]
/-- a model on its way -/
def FMade (b : List Int) (r : Nat) (m0 m1 base c : Nat) (w wr : World) : Prop := ∃ A1 c1, wr.heap[m1]? = some (.cells #[.int .i64 r, .bool false, .slice A1 c c1] 31 (0, 0)) ∧ wr.heap[m0]? = some (.cells #[.int .i64 0, .bool false, .slice none 0 0] 31 (0, 0)) ∧ kq.R 39 wr base (fun _ => True) (.slice A1 c c1) (firstN b c) ∧ Below m0 w wr ∧ base ≤ wr.heap.size
theorem FMade.next {b : List Int} {r m0 m1 base c : Nat} {w w6 : World} {A1 : Option Addr} {c1 : Nat} (hm : m0 < base ∧ m1 < base ∧ m0 ≠ m1 ∧ m0 ≤ m1) (h0 : w6.heap[m0]? = some (.cells #[.int .i64 0, .bool false, .slice none 0 0] 31 (0, 0)))
    (h1 : w6.heap[m1]? = some (.cells #[.int .i64 r, .bool false, .slice A1 c c1] 31 (0, 0))) {A2 : Option Addr} {c2 : Nat} (hq : kq.R 39 w6 base (fun _ => True) (.slice A2 (c + 1) c2) (firstN b (c + 1))) (hb : Below m0 w w6) (hsz : base ≤ w6.heap.size) :
    FMade b r m0 m1 base (c + 1) w (w6.setCell ⟨m1, 2, none⟩ (.slice A2 (c + 1) c2)) := by
  refine ⟨A2, c2, blk_set h1 2 _, blk_far h0 (p := ⟨m1, 2, none⟩) hm.2.2.1 _, ?_, hb.setCell hm.2.2.2 _, by simpa using hsz⟩
  refine Kd.R_mono (Kd.R_far (p := ⟨m1, 2, none⟩) (Kd.R_bound hq) (fun k hk => ?_) _) (fun _ _ => trivial)
  show k ≠ m1
  have := hk.2.1
  omega
set_option maxRecDepth 100000 in
set_option maxHeartbeats 4000000 in
theorem made256_any (p cp : Nat) (A : Option Addr) (b : List Int) (w : World) (hp : w.heap[p]? = some (.cells #[.slice A b.length cp] 22 (0, 0))) (hr : (Kd.int .u8).C w A b.length b) (hl : b.length ≤ 1000000) (hb : Bytes b) :
    Calls Tryz.prog 75 #[.int .i64 (firstR b : Nat), .int .i64 256, .func (Fn.func 78) #[] #[.pointer (some ⟨p, 0, none⟩)]] w (MadeM (firstR b : Nat) false (firstL b) w) := by
  obtain ⟨r, hrr⟩ : ∃ r, r = firstR b := ⟨_, rfl⟩
  have HRR := Lib.hid hrr
  rw [← hrr]
  clear hrr
  obtain ⟨W2, hW2⟩ : ∃ W2, W2 = (w.alloc (.cells #[.int .i64 0, .bool false, .slice none 0 0] 31)).alloc (.cells #[.int .i64 r, .bool false, .slice none 0 0] 31) := ⟨_, rfl⟩
  have hb2 : Below w.heap.size w W2 := by rw [hW2]; exact ((Below.refl w.heap.size w).alloc (Nat.le_refl _) _).alloc (by simp) _
  have hs2 : W2.heap.size = w.heap.size + 2 := by rw [hW2]; simp
  have hm1 : W2.heap[w.heap.size + 1]? = some (.cells #[.int .i64 r, .bool false, .slice none 0 0] 31 (0, 0)) := by rw [hW2]; exact blk_new1 _ _ _
  have hm0 : W2.heap[w.heap.size]? = some (.cells #[.int .i64 0, .bool false, .slice none 0 0] 31 (0, 0)) := by rw [hW2]; exact blk_alloc (blk_new _ _) _
  have HPl : Hid (w.heap.size ≤ w.heap.size + 1) := Nat.le_succ _
  have H2 := Lib.hid (And.intro hb2 (And.intro hs2 (And.intro hm1 hm0)))
  have HP := Lib.hid hp
  have HR := Lib.hid (And.intro hr (And.intro hl hb))
  clear hp hr hl hb hb2 hs2 hm1 hm0
  go_enter Tryz.func75, Tryz.ntmps75
  go_wp2_with fail
  rw [← hW2]
  clear hW2
  obtain ⟨m0, hm0⟩ : ∃ m0, m0 = w.heap.size := ⟨_, rfl⟩
  have HM0 := Lib.hid hm0
  rw [← hm0] at H2 ⊢
  clear hm0
  obtain ⟨m1, hm1⟩ : ∃ m1, m1 = m0 + 1 := ⟨_, rfl⟩
  have HM1 := Lib.hid hm1
  rw [← hm1] at H2 ⊢
  clear hm1
  go_loopw [16] (fun kv wr => ∃ c : Nat, c ≤ 256 ∧ kv = .int .i64 c ∧ Hid (FMade b r m0 m1 W2.heap.size c w wr)) (fun kv _ => 256 - (intOf kv).toNat)
  case atStart => exact ⟨0, by omega, rfl, Lib.hid ⟨none, 0, H2.out.2.2.1, H2.out.2.2.2, Kd.R_nil _ _ _ _ _, H2.out.1, Nat.le_refl _⟩⟩
  case round =>
    obtain ⟨c, hc, rfl, H⟩ := hrel
    by_cases hlt : c < 256
    · obtain ⟨A1, c1, h1, h2, h3, h4, h5⟩ := H.out
      have hbw : Below w.heap.size w wr := by have := h4; rw [HM0.out] at this; exact this
      have hpc : wr.cell? ⟨p, 0, none⟩ = some (.slice A b.length cp) := (blk_cell (blk_below HP.out hbw) 0).trans rfl
      have HF := Lib.hid (first1_any A cp p b c wr hpc (Kd.C_below HR.out.1 hbw) HR.out.2.1 HR.out.2.2)
      have HH := Lib.hid (And.intro h1 (And.intro h2 (And.intro h3 (And.intro h4 h5))))
      have hmm : Hid (m0 < W2.heap.size ∧ m1 < W2.heap.size ∧ m0 ≠ m1 ∧ m0 ≤ m1) := by
        have := blk_lt H2.out.2.2.1; have := blk_lt H2.out.2.2.2; have := HM1.out
        exact Lib.hid (by omega)
      have HPk := Lib.hid (pkL_len b (c : Int) b.length)
      have HOwn : Hid (∀ k, (Value.slice A1 c c1).ownBlock = some k → W2.heap.size ≤ k ∧ k < wr.heap.size) := Lib.hid fun k hk => ⟨Kd.R_base h3 k hk, Kd.R_lt h3 k hk⟩
      clear h1 h2 h3 h4 h5 hbw hpc H
      go_wp2_with fail
      refine HF.out.mono ?_
      rintro e w3 ⟨vl, rfl, hvl, hb3⟩
      obtain ⟨Al, cl, rfl⟩ := Kd.R_slice hvl
      have hhl : (histL (pickedL b (c : Int))).length = 256 := mapR_len _
      have hrd := (Kd.R_reads' hvl).2.2
      have hmany := many_any Al cl (histL (pickedL b (c : Int))) w3 hrd (hist_right _ (picked_bytes HR.out.2.2 c) (by have := HPk.out; have := HR.out.2.1; unfold pickedL; omega))
      rw [hhl] at hrd hmany ⊢
      have HV := Lib.hid hrd
      have HMa := Lib.hid hmany
      have HB3 := Lib.hid hb3
      clear hvl hb3 hrd hmany hhl
      go_wp2_with fail
      refine HMa.out.mono ?_
      by_cases hp0 : 0 < (pickedL b (c : Int)).length
      · have hmp : 0 < manyC (histL (pickedL b (c : Int))) := many_pos (picked_bytes HR.out.2.2 c) (by have := HPk.out; have := HR.out.2.1; unfold pickedL; omega) hp0
        have HCan := Lib.hid (first_can HR.out.2.2 HR.out.2.1 hlt hp0)
        have HQ : Hid (firstQ b c = normL (histL (pickedL b (c : Int))) r) := by show _ = _; unfold firstQ; rw [if_pos hp0, ← HRR.out]
        rw [← HRR.out] at HCan
        obtain ⟨mn, hmn⟩ : ∃ mn, mn = manyC (histL (pickedL b (c : Int))) := ⟨_, rfl⟩
        rw [← hmn] at hmp ⊢
        clear hmn hp0
        rintro e w' ⟨rfl, rfl⟩
        go_wp2_with fail
        refine (counts_any Al cl _ r w3 HV.out HCan.out).mono ?_
        rintro e w5 ⟨vq, rfl, hq, hb5⟩
        rw [← HQ.out] at hq
        obtain ⟨Aq, cq, rfl⟩ := Kd.R_slice hq
        obtain ⟨Q, hQ⟩ : ∃ Q, Q = firstQ b c := ⟨_, rfl⟩
        rw [← hQ] at hq ⊢
        have HQQ := Lib.hid hQ
        obtain ⟨ql, hql⟩ : ∃ ql, ql = Q.length := ⟨_, rfl⟩
        rw [← hql] at hq ⊢
        have HQr : Hid ((Kd.int .i64).R 3 w5 W2.heap.size (fun k => wr.heap.size ≤ k) (.slice Aq ql cq) Q) := Lib.hid (Kd.R_mono (Kd.R_lower (Kd.R_bound hq) (Nat.le_trans HH.out.2.2.2.2 HB3.out.size)) (fun k hk => by have := hk.2.1; have := HB3.out.size; omega))
        have hb35 := below_tr HB3.out hb5
        have h15 := blk_below HH.out.1 hb35
        have H05 := Lib.hid (blk_below HH.out.2.1 hb35)
        obtain ⟨⟨ca, cb, cc⟩, fa, fb, fc⟩ := cell3 h15
        have H15 := Lib.hid h15
        have HB5 := Lib.hid hb35
        have hm1l := blk_lt h15
        have hm1n : ¬ m1 = w5.heap.size := by omega
        have hm1n' : ¬ w5.heap.size = m1 := by omega
        have HS5 : Hid (W2.heap.size ≤ w5.heap.size) := Lib.hid (Nat.le_trans HH.out.2.2.2.2 hb35.size)
        have HB5' : Hid (Below W2.heap.size w5 w5) := Below.refl _ _
        have HL : Hid (((firstN b c).length + 1) * 24 ≤ 140737488355328) := by show _ ≤ _; rw [firstN_len]; omega
        have HO5 := Lib.hid (Kd.R_below HH.out.2.2.1 hb35)
        clear hq hb5 h15 hql hQ hb35
        go_wp2_with (at_builtin; refine Kd.R_append kq (w0 := w5) (W := w5) W2.heap.size rfl (.tmp 32) (.tmp 34) 29 39 (.slice none 0 0) 24 rfl Tryz.underlying29 infoInts rfl (by decide) (by decide) (.slice A1 c c1) (firstN b c) Q [.slice Aq ql cq] (fun _ => True) (fun k => wr.heap.size ≤ k) rfl (by simp [go_sem]) ⟨_, rfl, HQr.out⟩ (fun k hk => ⟨trivial, fun e => by have := (HOwn.out k e.symm).2; omega⟩) (fun _ _ => trivial) HO5.out HB5'.out HS5.out HL.out ?_; intro v1 w6 hr6 hb6 hg6 hat6; have h16 := blk_grown H15.out hg6 (fun e => by have := (HOwn.out _ e.symm).1; have := hmm.out; omega); have H16 := Lib.hid h16; have H06 := Lib.hid (blk_grown H05.out hg6 (fun e => by have := (HOwn.out _ e.symm).1; have := hmm.out; omega)); obtain ⟨⟨da, db, dc⟩, ga, gb, gc⟩ := cell3 h16; obtain ⟨A2, c2, rfl⟩ := Kd.R_slice hr6; have hlen : (firstN b c ++ [Q]).length = c + 1 := (by rw [List.length_append, firstN_len]; rfl); rw [hlen] at hr6; have HR6 := Lib.hid hr6; have HB6 := Lib.hid hb6; rw [hlen]; clear hr6 hb6 hg6 hat6 h16 hlen)
        go_roundw
        case rel =>
          refine ⟨c + 1, by omega, by go_num, Lib.hid (FMade.next hmm.out H06.out H16.out ?_ ?_ (Nat.le_trans HS5.out HB6.out.size))⟩
          · rw [firstN_succ, ← HQQ.out]; exact HR6.out
          · have hm := hmm.out
            have hs := HH.out.2.2.2.2
            exact (HH.out.2.2.2.1.trans (HB5.out.mono (by omega))).trans (HB6.out.mono (by omega))
        case measure => simp [intOf]; omega
      · have hpe : pickedL b (c : Int) = [] := List.eq_nil_of_length_eq_zero (by omega)
        rw [hpe, many_nil]
        have HQ : Hid (firstQ b c = []) := by show _ = _; unfold firstQ; rw [if_neg hp0]
        clear hp0 hpe
        rintro e w' ⟨rfl, rfl⟩
        have h15 := blk_below HH.out.1 HB3.out
        have H05 := Lib.hid (blk_below HH.out.2.1 HB3.out)
        obtain ⟨⟨ca, cb, cc⟩, fa, fb, fc⟩ := cell3 h15
        have H15 := Lib.hid h15
        have hm1l := blk_lt h15
        have hm1n : ¬ m1 = w3.heap.size := by omega
        have hm1n' : ¬ w3.heap.size = m1 := by omega
        have HS5 : Hid (W2.heap.size ≤ w3.heap.size) := Lib.hid (Nat.le_trans HH.out.2.2.2.2 HB3.out.size)
        have HB5' : Hid (Below W2.heap.size w3 w3) := Below.refl _ _
        have HL : Hid (((firstN b c).length + 1) * 24 ≤ 140737488355328) := by show _ ≤ _; rw [firstN_len]; omega
        have HO5 := Lib.hid (Kd.R_below HH.out.2.2.1 HB3.out)
        clear h15
        go_wp2_with (at_builtin; refine Kd.R_append kq (w0 := w3) (W := w3) W2.heap.size rfl (.tmp 32) (.tmp 34) 29 39 (.slice none 0 0) 24 rfl Tryz.underlying29 infoInts rfl (by decide) (by decide) (.slice A1 c c1) (firstN b c) [] [.slice none 0 0] (fun _ => True) (fun _ => False) rfl (by simp [go_sem]) ⟨_, rfl, Kd.R_nil _ _ _ _ _⟩ (fun _ h => h.elim) (fun _ _ => trivial) HO5.out HB5'.out HS5.out HL.out ?_; intro v1 w6 hr6 hb6 hg6 hat6; have h16 := blk_grown H15.out hg6 (fun e => by have := (HOwn.out _ e.symm).1; have := hmm.out; omega); have H16 := Lib.hid h16; have H06 := Lib.hid (blk_grown H05.out hg6 (fun e => by have := (HOwn.out _ e.symm).1; have := hmm.out; omega)); obtain ⟨⟨da, db, dc⟩, ga, gb, gc⟩ := cell3 h16; obtain ⟨A2, c2, rfl⟩ := Kd.R_slice hr6; have hlen : (firstN b c ++ [([] : List Int)]).length = c + 1 := (by rw [List.length_append, firstN_len]; rfl); rw [hlen] at hr6; have HR6 := Lib.hid hr6; have HB6 := Lib.hid hb6; rw [hlen]; clear hr6 hb6 hg6 hat6 h16 hlen)
        go_roundw
        case rel =>
          refine ⟨c + 1, by omega, by go_num, Lib.hid (FMade.next hmm.out H06.out H16.out ?_ ?_ (Nat.le_trans HS5.out HB6.out.size))⟩
          · rw [firstN_succ, HQ.out]; exact HR6.out
          · have hm := hmm.out
            have hs := HH.out.2.2.2.2
            exact (HH.out.2.2.2.1.trans (HB3.out.mono (by omega))).trans (HB6.out.mono (by omega))
        case measure => simp [intOf]; omega
    · obtain rfl : c = 256 := by omega
      obtain ⟨A1, c1, h1, h2, h3, h4, h5⟩ := H.out
      obtain ⟨⟨ca, cb, cc⟩, fa, fb, fc⟩ := cell3 h1
      obtain ⟨⟨da, db, dc⟩, ga, gb, gc⟩ := cell3 h2
      have HH := Lib.hid (And.intro h2 (And.intro h3 (And.intro h4 h5)))
      clear h1 h2 h3 h4 h5 H
      go_wp2_with fail
      have hmm : m0 < W2.heap.size := blk_lt H2.out.2.2.2
      refine bodyPost_ret (results_cell_row (fn := Tryz.f75) (p := 6) (ty := 31) rfl _ _ _ _ _ _ _ rfl (blk_set3 HH.out.1 _ _ _) Tryz.underlying31 rfl sizeModel) rfl ?_
      have hw0 := HM0.out
      subst hw0
      refine ⟨_, rfl, ?_, ((HH.out.2.2.1.setCell (Nat.le_refl _) _).setCell (Nat.le_refl _) _).setCell (Nat.le_refl _) _⟩
      have e : firstN b 256 = firstL b := rfl
      have h4 : kq.R 39 wr w.heap.size (fun k => k ≠ w.heap.size) (.slice A1 256 c1) (firstL b) := Kd.R_mono (Kd.R_lower (Kd.R_bound HH.out.2.1) (by omega)) (fun k hk => by have := hk.2.1; omega)
      exact Kd.R_mono (R_far3 h4 _ _ _) (fun _ _ => trivial)
def FirstPost (b : List Int) (w : World) (e : Ending) (w' : World) : Prop :=
  (b.length = 0 ∧ e = .returned (.tuple #[.agg #[.int .i64 0, .bool false, .slice none 0 0], .int .i64 1]) ∧ Below w.heap.size w w') ∨
  (0 < b.length ∧ ∃ Av cv, e = .returned (.tuple #[.agg #[.int .i64 (firstR b : Nat), .bool false, .slice Av 256 cv], .int .i64 0]) ∧ kq.R 39 w' w.heap.size (fun _ => True) (.slice Av 256 cv) (firstL b) ∧ Below w.heap.size w w')
end Go.Proofs.YtdkemdcflbadhaaGreat
namespace Go.Proofs.YtdkemdcflbadhaaGreat
open Go.RowKit Go.IntWalk Go.Proofs.YtdkemdcflbadhaaGreatW.PrintWords
set_option maxRecDepth 100000 in
theorem modelFirst_none (A : Option Addr) (cp : Nat) (w : World) : Calls Tryz.prog 29 #[.slice A 0 cp] w (FirstPost [] w) := by
  obtain ⟨W1, hW1⟩ : ∃ W1, W1 = (w.alloc (.cells #[.slice A 0 cp] 22)).alloc (.cells #[.int .i64 0, .bool false, .slice none 0 0] 31) := ⟨_, rfl⟩
  have hb1 : Below w.heap.size w W1 := by rw [hW1]; exact ((Below.refl w.heap.size w).alloc (Nat.le_refl _) _).alloc (by simp) _
  have hk1 : W1.heap[w.heap.size + 1]? = some (.cells #[.int .i64 0, .bool false, .slice none 0 0] 31 (0, 0)) := by rw [hW1]; exact blk_new1 _ _ _
  have hk0 : W1.heap[w.heap.size]? = some (.cells #[.slice A 0 cp] 22 (0, 0)) := by rw [hW1]; exact blk_alloc (blk_new _ _) _
  have hc0 : W1.cell? ⟨w.heap.size, 0, none⟩ = some (.slice A 0 cp) := (blk_cell hk0 0).trans rfl
  obtain ⟨m, hm⟩ : ∃ m, m = w.heap.size + 1 := ⟨_, rfl⟩
  have HM := Lib.hid hm
  rw [← hm] at hk1
  obtain ⟨⟨ca, cb, cc⟩, fa, fb, fc⟩ := cell3 hk1
  have HB := Lib.hid hb1
  have HK := Lib.hid hk1
  clear hb1 hk1 hk0
  go_enter Tryz.func29, Tryz.ntmps29
  go_wp2_with fail
  rw [← hW1, ← hm]
  clear hW1 hm
  go_wp2_with fail
  refine bodyPost_ret (results_row_tmp (fn := Tryz.f29) (p := 2) (u := 3) (ty := 31) rfl _ _ _ _ rfl (load_model HK.out)) rfl ?_
  exact .inl ⟨rfl, rfl, HB.out⟩
theorem frz_below {w w' : World} {m j : Nat} {c : Value} (hb : Below w.heap.size w w') (hc : w.cell? ⟨m, j, none⟩ = some c) (hf : w.frozen? ⟨m, j, none⟩ = false) : w'.frozen? ⟨m, j, none⟩ = false := by
  rw [hb.frozen (p := ⟨m, j, none⟩) (World.block_lt_of_cell? w _ hc)]; exact hf
/-- what the statement reads and writes, kept -/
def SF (W1 : World) (p m n cp : Nat) (A : Option Addr) (W : World) : Prop := Below W1.heap.size W1 W ∧ W.cell? ⟨p, 0, none⟩ = some (.slice A n cp) ∧ W.cell? ⟨m, 0, none⟩ = some (.int .i64 0) ∧ W.cell? ⟨m, 1, none⟩ = some (.bool false) ∧ W.cell? ⟨m, 2, none⟩ = some (.slice none 0 0) ∧ W.frozen? ⟨m, 0, none⟩ = false ∧ W.frozen? ⟨m, 1, none⟩ = false ∧ W.frozen? ⟨m, 2, none⟩ = false
theorem SF.keep {W1 W w' : World} {p m n cp : Nat} {A : Option Addr} (h : SF W1 p m n cp A W) (hb : Below W.heap.size W w') : SF W1 p m n cp A w' :=
  ⟨below_tr h.1 hb, pw_cell_below hb h.2.1, pw_cell_below hb h.2.2.1, pw_cell_below hb h.2.2.2.1, pw_cell_below hb h.2.2.2.2.1, frz_below hb h.2.2.1 h.2.2.2.2.2.1, frz_below hb h.2.2.2.1 h.2.2.2.2.2.2.1, frz_below hb h.2.2.2.2.1 h.2.2.2.2.2.2.2⟩
theorem SF.drew {W1 W : World} {p m n cp : Nat} {A : Option Addr} (h : SF W1 p m n cp A W) : SF W1 p m n cp A W.drew :=
  ⟨h.1.drew, h.2.1, h.2.2.1, h.2.2.2.1, h.2.2.2.2.1, h.2.2.2.2.2.1, h.2.2.2.2.2.2.1, h.2.2.2.2.2.2.2⟩
set_option maxRecDepth 100000 in
set_option maxHeartbeats 4000000 in
theorem modelFirst_any (A : Option Addr) (cp : Nat) (b : List Int) (w : World) (hr : (Kd.int .u8).C w A b.length b) (hb : Bytes b) (hl : b.length ≤ 1000000) (h0 : 0 < b.length) :
    Calls Tryz.prog 29 #[.slice A b.length cp] w (FirstPost b w) := by
  have hne : ((b.length : Int) == 0) = false := by simp; intro e; subst e; simp at h0
  have hne2 : ¬ b = [] := by intro e; subst e; simp at h0
  obtain ⟨n, hn⟩ : ∃ n, n = b.length := ⟨_, rfl⟩
  rw [← hn] at hne
  obtain ⟨W1, hW1⟩ : ∃ W1, W1 = (w.alloc (.cells #[.slice A n cp] 22)).alloc (.cells #[.int .i64 0, .bool false, .slice none 0 0] 31) := ⟨_, rfl⟩
  have hb1 : Below w.heap.size w W1 := by rw [hW1]; exact ((Below.refl w.heap.size w).alloc (Nat.le_refl _) _).alloc (by simp) _
  have hk1 : W1.heap[w.heap.size + 1]? = some (.cells #[.int .i64 0, .bool false, .slice none 0 0] 31 (0, 0)) := by rw [hW1]; exact blk_new1 _ _ _
  have hk0 : W1.heap[w.heap.size]? = some (.cells #[.slice A n cp] 22 (0, 0)) := by rw [hW1]; exact blk_alloc (blk_new _ _) _
  have hc0 : W1.cell? ⟨w.heap.size, 0, none⟩ = some (.slice A n cp) := (blk_cell hk0 0).trans rfl
  obtain ⟨m, hm⟩ : ∃ m, m = w.heap.size + 1 := ⟨_, rfl⟩
  have HM := Lib.hid hm
  rw [← hm] at hk1
  obtain ⟨p, hp⟩ : ∃ p, p = w.heap.size := ⟨_, rfl⟩
  have HPp := Lib.hid hp
  rw [← hp] at hk0 hc0
  obtain ⟨⟨ca, cb, cc⟩, fa, fb, fc⟩ := cell3 hk1
  have s0 : SF W1 p m n cp A W1 := ⟨Below.refl _ _, hc0, ca, cb, cc, fa, fb, fc⟩
  have HK := Lib.hid (And.intro hk1 hk0)
  have hrz := firstR_ok b
  have HX := Lib.hid (And.intro hb (And.intro hl (And.intro h0 (And.intro hb1 hn))))
  have HR1 := Lib.hid (Kd.C_below hr hb1)
  have hW256 := widN_le b 256
  obtain ⟨wd, hwd⟩ : ∃ wd, wd = widN b 256 := ⟨_, rfl⟩
  have hw256 : wd ≤ 256 := by omega
  have HWd := Lib.hid hwd
  have hn6 : n ≤ 1000000 := by omega
  have HCW : Hid (∀ W : World, Below W1.heap.size W1 W → Calls Tryz.prog 77 #[.slice A n cp] W fun e w' => e = .returned (.int .i64 wd) ∧ Below W.heap.size W w') := Lib.hid fun W hW => by
    have := ctxWidest_any A cp b W (Kd.C_below HR1.out hW) hl hb
    rw [← hn, ← hwd] at this; exact this
  obtain ⟨rz, hrz1⟩ : ∃ rz, rz = firstR b := ⟨_, rfl⟩
  have HRZ := Lib.hid hrz1
  have hpk : pickI n wd 9 = (rz : Int) := by rw [hn, hwd, hrz1]; exact hrz.1
  have HPk : Hid (∀ W : World, Calls Tryz.prog 76 #[.int .i64 n, .int .i64 wd, .int .i64 9] W fun e w' => e = .returned (.int .i64 rz) ∧ Below W.heap.size W w') := Lib.hid fun W => by
    have := pick_any n wd 9 W hn6 (by omega)
    rw [hpk] at this; exact this
  have HMd : Hid (∀ W : World, Below W1.heap.size W1 W → Calls Tryz.prog 75 #[.int .i64 rz, .int .i64 256, .func (Fn.func 78) #[] #[.pointer (some ⟨p, 0, none⟩)]] W fun e w' => ∃ Av cv, e = .returned (.agg #[.int .i64 rz, .bool false, .slice Av 256 cv]) ∧ kq.R 39 w' W1.heap.size (fun _ => True) (.slice Av 256 cv) (firstL b) ∧ Below W.heap.size W w') := Lib.hid fun W hW => by
    have h7 := blk_below hk0 hW
    rw [hn] at h7
    have := made256_any p cp A b W h7 (Kd.C_below HR1.out hW) hl hb
    rw [← hrz1] at this
    refine this.mono ?_
    rintro e w' ⟨v, rfl, hv, hb⟩
    obtain ⟨Av, cv, rfl⟩ := Kd.R_slice hv
    rw [firstL_len] at hv ⊢
    exact ⟨Av, cv, rfl, Kd.R_lower hv hW.size, hb⟩
  have hmf : ∀ (fn : Fn) (first cap : Array Value) (w : World), (Instr.makeFunc fn first cap).run Tryz.prog w = .ok (.func fn first cap) w := fun _ _ _ _ => rfl
  rw [← hn]
  clear hr hb hl h0 hb1 hk1 hk0 hn hrz hwd hrz1 hpk hW256
  go_enter Tryz.func29, Tryz.ntmps29
  go_wp2_with fail
  rw [← hW1, ← hm, ← hp]
  clear hW1 hm hp
  go_wp2_with fail
  go_region_law (first
    | (go_simp; go_at_call 77; refine (HCW.out _ (by first | exact And.left ‹SF _ _ _ _ _ _ _› | exact (SF.drew ‹SF _ _ _ _ _ _ _›).1)).mono ?_; rintro e w' ⟨rfl, hb⟩; have s1 := (by first | exact SF.keep ‹_› hb | exact SF.keep (SF.drew ‹_›) hb : SF W1 p m n cp A w'); obtain ⟨g0, g1, g2, g3, g4, g5, g6, g7⟩ := id s1)
    | (go_simp; go_at_call 76; refine (HPk.out _).mono ?_; rintro e w' ⟨rfl, hb⟩; have s1 := (by first | exact SF.keep ‹_› hb | exact SF.keep (SF.drew ‹_›) hb : SF W1 p m n cp A w'); obtain ⟨g0, g1, g2, g3, g4, g5, g6, g7⟩ := id s1)
    | (go_simp; go_at_call 75; refine (HMd.out _ (by first | exact And.left ‹SF _ _ _ _ _ _ _› | exact (SF.drew ‹SF _ _ _ _ _ _ _›).1)).mono ?_; rintro e w' ⟨Av, cv, rfl, hv, hb⟩; have s1 := (by first | exact SF.keep ‹_› hb | exact SF.keep (SF.drew ‹_›) hb : SF W1 p m n cp A w'); obtain ⟨g0, g1, g2, g3, g4, g5, g6, g7⟩ := id s1))
  all_goals
    have HV := Lib.hid hv
    have HS := Lib.hid s1
    go_wp2_with fail
    refine bodyPost_ret (results_row_tmp (fn := Tryz.f29) (p := 2) (u := 3) (ty := 31) rfl _ _ _ _ rfl (load_model (blk_set3 (blk_below HK.out.1 HS.out.1) _ _ _))) rfl ?_
    have hle : w.heap.size ≤ m := by have := HM.out; omega
    have hlt : m < W1.heap.size := blk_lt HK.out.1
    have hB : Below w.heap.size w w' := below_tr HX.out.2.2.2.1 HS.out.1
    have h4 : kq.R 39 w' w.heap.size (fun k => k ≠ m) (.slice Av 256 cv) (firstL b) := Kd.R_mono (Kd.R_lower (Kd.R_bound HV.out) (by omega)) (fun k hk => by have := hk.2.1; omega)
    exact .inr ⟨HX.out.2.2.1, Av, cv, (by rw [← HRZ.out]; rfl), Kd.R_mono (R_far3 h4 _ _ _) (fun _ _ => trivial), ((hB.setCell hle _).setCell hle _).setCell hle _⟩
end Go.Proofs.YtdkemdcflbadhaaGreat
namespace Go.Proofs.YtdkemdcflbadhaaGreat
open Go.RowKit Go.IntWalk Go.Proofs.YtdkemdcflbadhaaGreatW.PrintWords
theorem first_nrm {b : List Int} (hb : Bytes b) (hl : b.length ≤ 1000000) : ∀ c ∈ presN b 256, Nrm ((firstL b).getD c.toNat []) (firstR b) := by
  intro c hc
  have hr := firstR_ok b
  obtain ⟨i, hi, e⟩ := mem_getD hc
  obtain ⟨c', h1, h2, h3⟩ := presN_get b hi
  have : c = (c' : Int) := by rw [← e, h1]
  subst this
  rw [Int.toNat_natCast, firstL_get b h2]
  obtain ⟨n1, n2, n3⟩ := firstQ_nrm hb hl h2 h3
  exact ⟨n1, n2, n3, by omega, by omega⟩
/-- later -/
def SLater (W1 W : World) : Prop := Below W1.heap.size W1 W
theorem SLater.keep {W1 W w' : World} (h : SLater W1 W) (hb : Below W.heap.size W w') : SLater W1 w' := below_tr h hb
theorem SLater.drew {W1 W : World} (h : SLater W1 W) : SLater W1 W.drew := Below.drew h
def Enc1Post (b : List Int) (w : World) (e : Ending) (w' : World) : Prop := ∃ v, e = .returned (.tuple #[v, .int .i64 0]) ∧ (Kd.int .u8).R 5 w' w.heap.size (fun _ => True) v (body1L b) ∧ Below w.heap.size w w'
set_option maxRecDepth 100000 in
theorem encode1_none (A : Option Addr) (cp : Nat) (w : World) : Calls Tryz.prog 21 #[.slice A 0 cp] w (fun e w' => e = .returned (.tuple #[.slice none 0 0, .int .i64 1]) ∧ Below w.heap.size w w') := by
  have HZ := Lib.hid (modelFirst_none A cp w)
  go_enter Tryz.func21, Tryz.ntmps21
  go_wp2_with fail
  refine HZ.out.mono ?_
  rintro e w1 (⟨_, rfl, hb1⟩ | ⟨h, _⟩)
  · have HB1 := Lib.hid hb1
    clear hb1
    go_wp2_with fail
    go_ret2
    exact ⟨rfl, HB1.out.alloc HB1.out.size _⟩
  · cases h
set_option maxRecDepth 100000 in
set_option maxHeartbeats 4000000 in
theorem encode1_any (A : Option Addr) (cp : Nat) (b : List Int) (w : World) (hr : (Kd.int .u8).C w A b.length b) (hb : Bytes b) (hl : b.length ≤ 40000) (h0 : 0 < b.length) :
    Calls Tryz.prog 21 #[.slice A b.length cp] w (Enc1Post b w) := by
  have HR := Lib.hid (And.intro hr (And.intro hb (And.intro hl h0)))
  have HCan : Hid (canM (firstR b : Nat) false (firstL b) b = true) := of_can (one := false) hb (by omega) h0
  have HZ := Lib.hid (modelFirst_any A cp b w hr hb (by omega) h0)
  have HRok := Lib.hid (firstR_ok b)
  have HFit := Lib.hid (encBits_len (can_log HCan.out).1 hb)
  have HNr := Lib.hid (first_nrm hb (by omega : b.length ≤ 1000000))
  obtain ⟨r, hr'⟩ : ∃ r, r = firstR b := ⟨_, rfl⟩
  obtain ⟨q, hq'⟩ : ∃ q, q = firstL b := ⟨_, rfl⟩
  have HQl : Hid (q.length = 256) := Lib.hid (by rw [hq']; exact firstL_len b)
  have HRQ := Lib.hid (And.intro hr' hq')
  rw [← hr', ← hq'] at HCan HFit HNr
  rw [← hr'] at HRok
  obtain ⟨L, hL⟩ : ∃ L, L = presN b 256 := ⟨_, rfl⟩
  have HL : Hid (L = presN b 256 ∧ Asc L ∧ L.length ≤ 256) := Lib.hid ⟨hL, by rw [hL]; exact pres_asc h0, by rw [hL]; exact presN_len b 256⟩
  rw [← hL] at HNr
  clear hr hb hl h0 hL
  go_enter Tryz.func21, Tryz.ntmps21
  go_wp2_with fail
  refine HZ.out.mono ?_
  rintro e w1 (⟨h, _⟩ | ⟨_, Av, cv, rfl, hv, hb1⟩)
  · have := HR.out.2.2.2; omega
  rw [← hr']
  rw [← hq'] at hv
  have HV := Lib.hid (Kd.R_reads' hv).2.2
  have HB1 := Lib.hid hb1
  clear hv hb1 hr' hq'
  obtain ⟨w2, hw2⟩ : ∃ w2, w2 = w1.alloc (.cells #[.int .i64 r, .bool false, .slice Av 256 cv] 31) := ⟨_, rfl⟩
  have HB2 : Hid (Below w.heap.size w w2) := Lib.hid (by rw [hw2]; exact HB1.out.alloc HB1.out.size _)
  have HV2 : Hid (kq.C w2 Av q.length q) := Lib.hid (by rw [hw2]; exact Kd.C_alloc HV.out _)
  have hk2 : w2.heap[w1.heap.size]? = some (.cells #[.int .i64 r, .bool false, .slice Av 256 cv] 31 (0, 0)) := by rw [hw2]; exact blk_new _ _
  obtain ⟨mb, hmb⟩ : ∃ mb, mb = w1.heap.size := ⟨_, rfl⟩
  rw [← hmb] at hk2
  have HK2 := Lib.hid hk2
  clear hk2
  have HEnc := encodeL_any (r : Nat) false Av cv q A cp b w2 HV2.out (by have := HQl.out; omega) (Kd.C_below HR.out.1 HB2.out) HR.out.2.1 (by have := HR.out.2.2.1; omega)
  rw [HQl.out] at HEnc
  have HE := Lib.hid HEnc
  clear HEnc
  go_wp2_with fail
  rw [← hw2, ← hmb]
  clear hw2 hmb
  refine HE.out.mono ?_
  rintro e w3 ⟨_, h2, hb3⟩
  obtain ⟨vp, rfl, hvp⟩ := h2 HCan.out
  obtain ⟨Ap, cpp, rfl⟩ := Kd.R_slice hvp
  have HB3 : Hid (Below w.heap.size w w3) := Lib.hid (HB2.out.trans (hb3.mono HB2.out.size))
  have hk3 := blk_below HK2.out hb3
  have HV3 : Hid (kq.C w3 Av q.length q) := Lib.hid (Kd.C_below HV2.out hb3)
  have HP3 := Lib.hid (Kd.R_reads' hvp).2.2
  obtain ⟨Pl, hPl⟩ : ∃ Pl, Pl = packB (encBits (r : Nat) false q b ++ [true]) := ⟨_, rfl⟩
  have HPl := Lib.hid hPl
  rw [← hPl] at HP3 ⊢
  have HPlen : Hid (Pl.length ≤ 700000) := Lib.hid (by
    rw [hPl, packB_len, List.length_append]
    have := HFit.out; have := HR.out.2.2.1; simp only [List.length_singleton]; omega)
  have HK3 := Lib.hid hk3
  obtain ⟨⟨ka, kb, kc⟩, -⟩ := cell3 hk3
  have s0 : SLater w3 w3 := Below.refl _ _
  have HPres : Hid (∀ W : World, SLater w3 W → Calls Tryz.prog 30 #[.slice A b.length cp] W fun e w' => ∃ Al cl, e = .returned (.slice Al L.length cl) ∧ (Kd.int .i64).C w' Al L.length L ∧ Below W.heap.size W w') := Lib.hid fun W hW => by
    refine (ctxPresent_any A cp b W (Kd.C_below HR.out.1 (HB3.out.trans (Below.mono hW HB3.out.size))) (by have := HR.out.2.2.1; omega) HR.out.2.1).mono ?_
    rintro e w' ⟨v, rfl, hv, hb⟩
    obtain ⟨Al, cl, rfl⟩ := Kd.R_slice hv
    rw [← HL.out.1] at hv ⊢
    exact ⟨Al, cl, rfl, (Kd.R_reads' hv).2.2, hb⟩
  have HHead : Hid (∀ (W : World) (Al : Option Addr) (cl : Nat), SLater w3 W → (Kd.int .i64).C W Al L.length L → Calls Tryz.prog 53 #[.agg #[.int .i64 r, .bool false, .slice Av 256 cv], .slice Al L.length cl] W fun e w' => ∃ Ah ch, e = .returned (.slice Ah (head1L r q L).length ch) ∧ (Kd.int .u8).R 5 w' w3.heap.size (fun _ => True) (.slice Ah (head1L r q L).length ch) (head1L r q L) ∧ Below W.heap.size W w') := Lib.hid fun W Al cl hW hC => by
    refine (head1_any r cv cl Av Al q L W (Kd.C_below HV3.out hW) HQl.out hC HL.out.2.1 HL.out.2.2 (by have := HRok.out; omega) HNr.out).mono ?_
    rintro e w' ⟨v, rfl, hv, hb⟩
    obtain ⟨Ah, ch, rfl⟩ := Kd.R_slice hv
    exact ⟨Ah, ch, rfl, Kd.R_lower hv (Below.size hW), hb⟩
  have HHl : Hid ((head1L r q L).length ≤ 200000) := Lib.hid (by
    have h1 := hdrsB_len (r := r) (qs := q) (by have := HRok.out; omega) L HNr.out
    have h2 := HL.out.2.2
    unfold head1L
    rw [List.length_append, List.length_append, dirL_len, packB_len, List.length_singleton]; omega)
  obtain ⟨Hd, hHd⟩ : ∃ Hd, Hd = head1L r q L := ⟨_, rfl⟩
  rw [← hHd] at HHead HHl
  have HHd := Lib.hid hHd
  have HLn : Hid ((Hd.length + Pl.length) * 1 ≤ 140737488355328) := Lib.hid (by have := HHl.out; have := HPlen.out; omega)
  clear h2 hb3 hvp hk3 hPl hHd
  go_wp2_with fail
  go_region_law (first
    | (go_simp; go_at_call 30; refine (HPres.out _ (by first | assumption | exact SLater.drew ‹_›)).mono ?_; rintro e w' ⟨Al, cl, rfl, hcl, hb⟩; have s1 := (by first | exact SLater.keep ‹_› hb | exact SLater.keep (SLater.drew ‹_›) hb : SLater w3 w'); obtain ⟨⟨ka, kb, kc⟩, -⟩ := cell3 (blk_below HK3.out s1))
    | (go_simp; go_at_call 53; refine (HHead.out _ _ _ (by first | assumption | exact SLater.drew ‹_›) (by first | assumption | exact Kd.C_drew ‹_›)).mono ?_; rintro e w' ⟨Ah, ch, rfl, hvh, hb⟩; have s1 := (by first | exact SLater.keep ‹_› hb | exact SLater.keep (SLater.drew ‹_›) hb : SLater w3 w'); have HVH := Lib.hid (And.intro hvh s1); clear hvh hb)
    | (refine Kd.R_append_rows_step (Kd.int .u8) (Rr := (Kd.int .u8).K w') (w0 := w) (W := w') w.heap.size rfl (.tmp 27) (.tmp 28) 22 5 (.int .u8 0) 1 rfl Tryz.underlying22 infoU8 rfl (by decide) (by decide) _ Hd Pl Ap Pl.length cpp (fun _ => True) (fun _ => False) rfl rfl (Kd.R_lower HVH.out.1 HB3.out.size) (Kd.C_below HP3.out HVH.out.2) (fun _ _ h => h) (fun _ h => h.elim) (fun _ _ => trivial) (HB3.out.trans (Below.mono HVH.out.2 HB3.out.size)) (Nat.le_trans HB3.out.size (Below.size HVH.out.2)) HLn.out ?_; intro v9 w9 hr9 hb9 hg9 hat9; have HA := Lib.hid (And.intro hr9 hb9); clear hr9 hb9 hg9 hat9))
  all_goals
    go_wp2_with fail
    go_ret2
    refine ⟨v9, rfl, ?_, HA.out.2⟩
    have h9 := HA.out.1
    have e : body1L b = Hd ++ Pl := by unfold body1L; rw [HHd.out, HPl.out, HRQ.out.1, HRQ.out.2, HL.out.1]; rfl
    rw [e]; exact h9
theorem encode1_told (A : Option Addr) (cp : Nat) (b : List Int) (w : World) (hr : (Kd.int .u8).C w A b.length b) (hb : Bytes b) (hl : b.length ≤ 40000) (h0 : 0 < b.length) :
    Calls Tryz.prog 21 #[.slice A b.length cp] w (Told 0 (body1L b) w) := by
  refine (encode1_any A cp b w hr hb hl h0).mono ?_
  rintro e w' ⟨v, rfl, hv, hbl⟩
  obtain ⟨A1, c1, rfl⟩ := Kd.R_slice hv
  exact ⟨A1, c1, rfl, hv, hbl⟩
end Go.Proofs.YtdkemdcflbadhaaGreat
namespace Go.Proofs.YtdkemdcflbadhaaGreat
open Go.RowKit Go.IntWalk Go.Proofs.YtdkemdcflbadhaaGreatW.PrintWords
/-- the first so many places of a table -/
def tabN (i : Nat) : List Nat := (List.range 256).map (fun j => if j < i then crcTab j else 0)
theorem tabN_len (i : Nat) : (tabN i).length = 256 := by simp [tabN]
theorem tabN_get {i j : Nat} (h : j < 256) : (tabN i).getD j 0 = if j < i then crcTab j else 0 := by
  unfold tabN
  rw [List.getD_eq_getElem?_getD, List.getElem?_map, List.getElem?_range h]; rfl
theorem tabN_set {i : Nat} : (tabN i).set i (crcTab i) = tabN (i + 1) := by
  apply List.ext_getElem?
  intro j
  rw [List.getElem?_set, tabN_len]
  unfold tabN
  rw [List.getElem?_map, List.getElem?_map]
  by_cases hj : j < 256
  · rw [List.getElem?_range hj]
    by_cases e : i = j
    · subst e; rw [if_pos rfl, if_pos hj]; simp
    · rw [if_neg e]
      simp only [Option.map_some]
      by_cases h1 : j < i
      · rw [if_pos h1, if_pos (by omega)]
      · rw [if_neg h1, if_neg (by omega)]
  · have hn : (List.range 256)[j]? = none := List.getElem?_eq_none (by simp; omega)
    rw [hn]
    by_cases e : i = j
    · subst e; rw [if_pos rfl, if_neg hj]; rfl
    · rw [if_neg e]; rfl
def TabAt (p i : Nat) (w : World) : Prop := w.heap[p]? = some (.cells ((tabN i).map (fun (n : Nat) => Value.int .u32 (n : Int))).toArray 182 (0, 0))
theorem TabAt.cell {p i : Nat} {w : World} (h : TabAt p i w) {c : Nat} (hc : c < 256) : w.cell? ⟨p, c, none⟩ = some (.int .u32 ((if c < i then crcTab c else 0 : Nat) : Int)) ∧ w.frozen? ⟨p, c, none⟩ = false := by
  refine ⟨(blk_cell h c).trans ?_, blk_frozen h c⟩
  have hg := tabN_get (i := i) hc
  rw [List.getD_eq_getElem?_getD] at hg
  rw [List.getElem?_toArray, List.getElem?_map, List.getElem?_eq_getElem (by rw [tabN_len]; exact hc)]
  rw [List.getElem?_eq_getElem (by rw [tabN_len]; exact hc), Option.getD_some] at hg
  rw [Option.map_some, hg]
theorem TabAt.next {p i : Nat} {w : World} (h : TabAt p i w) : TabAt p (i + 1) (w.setCell ⟨p, i, none⟩ (.int .u32 (crcTab i : Nat))) := by
  unfold TabAt at h ⊢
  rw [blk_set h i, ← tabN_set]
  congr 2
  rw [List.map_set]; simp
theorem TabAt.later {p i : Nat} {w w' : World} (h : TabAt p i w) (hb : Below w.heap.size w w') : TabAt p i w' := blk_below h hb
end Go.Proofs.YtdkemdcflbadhaaGreat
namespace Go.Proofs.YtdkemdcflbadhaaGreat
open Go.RowKit
/-- two bytes at least, and all are one -/
def alikeB (b : List Int) : Bool := decide (1 < b.length) && b.all (fun x => decide (x = b.getD 0 0))
def plainE (kind : Int) (b : List Int) : Int × List Int :=
  if ¬ (kind = 0 ∨ kind = 1) ∨ 131072 < b.length ∨ (kind = 1 ∧ alikeB b = false) then (1, []) else if kind = 0 then (0, b) else (0, [b.getD 0 0])
/-- bytes' body of a kind -/
def pickE (kind : Int) (b : List Int) : Int × List Int :=
  if kind < 0 ∨ 3 < kind then (10, []) else if kind ≤ 1 then plainE kind b else
  if b.length = 0 then (1, []) else if kind = 2 then (0, body0L b) else (0, body1L b)
/-- the better one of two -/
def betterK (k : Int) (b : List Int) (x : Int × List Int) : Int × List Int := if (pickE k b).1 = 0 ∧ (pickE k b).2.length < x.2.length then (k, (pickE k b).2) else x
def bestP (b : List Int) : Int × List Int := betterK 3 b (betterK 2 b (betterK 1 b (0, b)))
theorem plainE_bytes {k : Int} {b : List Int} (hb : Bytes b) : Bytes (plainE k b).2 := by
  unfold plainE
  split
  · intro x hx; cases hx
  · split
    · exact hb
    · exact byte_cons (hb.get 0) (fun x hx => by cases hx)
theorem pickE_bytes {k : Int} {b : List Int} (hb : Bytes b) : Bytes (pickE k b).2 := by
  unfold pickE
  repeat' split
  · intro x hx; cases hx
  · exact plainE_bytes hb
  · intro x hx; cases hx
  · exact body0L_bytes b
  · exact body1L_bytes b
theorem better_bytes {k : Int} {b : List Int} {x : Int × List Int} (hb : Bytes b) (hx : Bytes x.2) : Bytes (betterK k b x).2 := by
  unfold betterK; split
  · exact pickE_bytes hb
  · exact hx
theorem best_bytes {b : List Int} (hb : Bytes b) : Bytes (bestP b).2 := better_bytes hb (better_bytes hb (better_bytes hb hb))
theorem better_len (k : Int) (b : List Int) (x : Int × List Int) : (betterK k b x).2.length ≤ x.2.length ∧ ((pickE k b).1 = 0 → (betterK k b x).2.length ≤ (pickE k b).2.length) := by
  unfold betterK
  by_cases h : (pickE k b).1 = 0 ∧ (pickE k b).2.length < x.2.length
  · rw [if_pos h]; exact ⟨by show (pickE k b).2.length ≤ _; omega, fun _ => Nat.le_refl _⟩
  · rw [if_neg h]; exact ⟨Nat.le_refl _, fun h0 => by omega⟩
theorem alike_rep {b : List Int} (h : alikeB b = true) : b = List.replicate b.length (b.getD 0 0) ∧ 1 < b.length := by
  unfold alikeB at h
  simp only [Bool.and_eq_true, decide_eq_true_eq, List.all_eq_true] at h
  exact ⟨List.eq_replicate_iff.2 ⟨rfl, h.2⟩, h.1⟩
end Go.Proofs.YtdkemdcflbadhaaGreat
namespace Go.Proofs.YtdkemdcflbadhaaGreat
open Go.RowKit Go.IntWalk Go.Proofs.YtdkemdcflbadhaaGreatW.PrintWords
attribute [local go_sem] Oper.semAt_some
/-- range: (Go.Operand.tmp 11) #[12] -/
def tkAssign : Code := (Code.region 5 #[{ dst := some 5, op := Op.assign (Operand.tmp 12), type := 3, pos := "dir.go:52", after := #[], guard := none }] false)
def tkBody : Code := (Code.block 1 (((Code.region 6 #[{ dst := some 13, op := Op.load 39 (Operand.tmp 4), type := 39, pos := "dir.go:53", after := #[], guard := none }, { dst := some 14, op := Op.call { callee := Callee.builtin Builtin.len, args := #[Operand.tmp 13], argTypes := #[39] }, type := 3, pos := "dir.go:53", after := #[{ on := 0, ground := Ground.data }], guard := none }, { dst := some 15, op := Op.binOp BinOp.eql 3 (Operand.tmp 14) (Operand.const (Value.int IntKind.i64 0)) 3, type := 4, pos := "dir.go:53", after := #[{ on := 1, ground := Ground.data }], guard := none }, { dst := some 16, op := Op.move (Operand.tmp 15), type := 4, pos := "dir.go:53", after := #[{ on := 2, ground := Ground.data }], guard := none }, { dst := some 17, op := Op.move (Operand.tmp 5), type := 3, pos := "dir.go:53", after := #[{ on := 3, ground := Ground.guard }], guard := some (3, true) }, { dst := some 18, op := Op.binOp BinOp.neq 3 (Operand.tmp 17) (Operand.const (Value.int IntKind.i64 0)) 3, type := 4, pos := "dir.go:53", after := #[{ on := 4, ground := Ground.data }, { on := 3, ground := Ground.guard }], guard := some (3, true) }, { dst := some 19, op := Op.pick (Operand.tmp 16) (Operand.tmp 18) (Operand.const (Value.bool false)), type := 4, pos := "dir.go:53", after := #[{ on := 3, ground := Ground.data }, { on := 5, ground := Ground.data }], guard := none }] false).seq (Code.cond (Operand.tmp 19) ((Code.region 7 #[{ dst := none, op := Op.store 39 (Operand.tmp 2) (Operand.const (Value.slice none 0 0)), type := 0, pos := "dir.go:54", after := #[], guard := none }, { dst := none, op := Op.store 24 (Operand.tmp 3) (Operand.const (Value.int IntKind.i64 13)), type := 0, pos := "dir.go:54", after := #[{ on := 0, ground := Ground.chain }, { on := 0, ground := Ground.phase }], guard := none }] false).seq Code.ret) Code.skip)).seq (Code.region 8 #[{ dst := some 20, op := Op.load 39 (Operand.tmp 4), type := 39, pos := "dir.go:56", after := #[], guard := none }, { dst := some 21, op := Op.move (Operand.tmp 5), type := 3, pos := "dir.go:56", after := #[], guard := none }, { dst := some 22, op := Op.buildSlice 39 1 #[(0, Operand.tmp 21)], type := 39, pos := "dir.go:56", after := #[{ on := 1, ground := Ground.data }], guard := none }, { dst := some 23, op := Op.call { callee := Callee.builtin Builtin.append, args := #[Operand.tmp 20, Operand.tmp 22], argTypes := #[39, 39] }, type := 39, pos := "dir.go:56", after := #[{ on := 0, ground := Ground.data }, { on := 2, ground := Ground.data }], guard := none }, { dst := none, op := Op.store 39 (Operand.tmp 4) (Operand.tmp 23), type := 0, pos := "dir.go:56", after := #[{ on := 3, ground := Ground.data }, { on := 3, ground := Ground.chain }, { on := 0, ground := Ground.phase }, { on := 1, ground := Ground.phase }, { on := 2, ground := Ground.phase }, { on := 3, ground := Ground.phase }], guard := none }] false)))
/-- the loop's record -/
def tkRec (fn : FuncId) (tm : Array Value) (D : Nat) (st : LoopState) (pend : Option Code) : Loop := { state := st, pending := pend, fn, tmps := tm, params := #[12], assign := tkAssign, body := tkBody, defers := D }
/-- between two rounds -/
structure Tk (fn : FuncId) (tm : Array Value) (ob D l B0 p : Nat) (W1 : World) (ps out : List Int) (at_ : Nat) (W : World) : Prop where
  rd : RfAt W B0 p ps at_
  v : ∃ v, W.heap[ob]? = some (.cells #[v] 39 (0, 0)) ∧ W.ownsRow B0 3 1 v out.length (out.map (Value.int .i64)) ∧ (∀ k, v.ownBlock = some k → p < k)
  lp : W.heap[l]? = some (.loop (tkRec fn tm D .ready none))
  on : Only (fun k => k = ob ∨ k = l ∨ B0 ≤ k) W1 W
theorem own_slice {W : World} {B : Nat} {e : TypeId} {v : Value} {n : Nat} {xs : List Value} (h : W.ownsRow B e 1 v n xs) : ∃ A c, v = .slice A n c := by
  rcases h.2 with ⟨rfl, rfl⟩ | ⟨g, cap, cur, rfl, _⟩
  · exact ⟨_, _, rfl⟩
  · exact ⟨_, _, rfl⟩
theorem own_same {W W' : World} {B : Nat} {e : TypeId} {v : Value} {n : Nat} {xs : List Value} (h : W.ownsRow B e 1 v n xs) (hs : ∀ k, v.ownBlock = some k → W'.heap[k]? = W.heap[k]?) : W'.ownsRow B e 1 v n xs := by
  refine ⟨h.1, ?_⟩
  rcases h.2 with h | ⟨g, cap, cur, rfl, hb, hg, rest⟩
  · exact .inl h
  · exact .inr ⟨g, cap, cur, rfl, hb, (hs g rfl).trans hg, rest⟩
theorem RfAt.only {w w' : World} {base p : Nat} {ps : List Int} {at_ : Nat} {S : Nat → Prop} (h : RfAt w base p ps at_) (ho : Only S w w') (hp : ¬ S p) (hs : ∀ k, base ≤ k → k < p → ¬ S k) : RfAt w' base p ps at_ := by
  obtain ⟨A, c, h1, h2⟩ := h.ex
  have hb := fun k hk => (Kd.R_bound h2).1 k hk
  refine ⟨A, c, (ho.block p (blk_lt h1) hp).trans h1, Kd.R_mono (Kd.R_step (Kd.R_tight (d := Kd.int .u8) rfl h2) (fun k hk hlt => ho.block k hlt ?_)) (fun k hk => (hb k hk.symm).1)⟩
  have := hb k hk.symm
  exact hs k this.2.1 this.1
theorem Only.grown {S : Nat → Prop} {a b c : World} {row : Option Nat} (h : Only S a b) (hg : b.grownBy c row) (hs : ∀ k, row = some k → S k) : Only S a c := h.trans (Only.of_grown hg hs)
end Go.Proofs.YtdkemdcflbadhaaGreat
namespace Go.Proofs.YtdkemdcflbadhaaGreat
open Go.RowKit Go.IntWalk Go.Proofs.YtdkemdcflbadhaaGreatW.PrintWords
attribute [local go_sem] Oper.semAt_some
theorem Tk.taken {fn : FuncId} {tm : Array Value} {ob D l B0 p : Nat} {W1 W W' : World} {ps out : List Int} {at_ at' : Nat} (h : Tk fn tm ob D l B0 p W1 ps out at_ W) (hr : RfAt W' B0 p ps at') (ho : Only (fun k => k = p) W W') (h1 : ob < B0) (h2 : l < B0) (hp : B0 ≤ p) : Tk fn tm ob D l B0 p W1 ps out at' W' := by
  obtain ⟨v, hv, hown, hok⟩ := h.v
  refine ⟨hr, ⟨v, (ho.block ob (blk_lt hv) (by omega)).trans hv, own_same hown (fun k hk => ?_), hok⟩, (ho.block l (blk_lt h.lp) (by omega)).trans h.lp, h.on.trans2 ho (fun k _ hk => by omega)⟩
  have := hok k hk
  by_cases hlt : k < W.heap.size
  · exact ho.block k hlt (by omega)
  · rcases hown.2 with ⟨rfl, _⟩ | ⟨g, cap, cur, rfl, _, hg, _⟩
    · cases hk
    · have : g = k := by injection hk
      subst this
      exact absurd (blk_lt hg) hlt
end Go.Proofs.YtdkemdcflbadhaaGreat
namespace Go.Proofs.YtdkemdcflbadhaaGreat
open Go.RowKit Go.IntWalk Go.Proofs.YtdkemdcflbadhaaGreatW.PrintWords
/-- what the closure reads and writes -/
structure S1 (rbx mb mc p B r n0 : Nat) (ps : List Int) (qs : List (List Int)) (at_ : Nat) (w0 W : World) : Prop where
  rd : RfAt W B p ps at_
  kb : W.heap[rbx]? = some (.cells #[.pointer (some ⟨p, 0, none⟩)] 80 (0, 0))
  km : W.heap[mb]? = some (.cells #[.int .i64 r, .bool false, .slice (some ⟨mc, 0, none⟩) 256 256] 31 (0, 0))
  row : kq.R 39 W n0 (fun k => k ≠ p ∧ k ≠ rbx ∧ k ≠ mb) (.slice (some ⟨mc, 0, none⟩) 256 256) qs
  on : Below n0 w0 W
end Go.Proofs.YtdkemdcflbadhaaGreat
namespace Go.Proofs.YtdkemdcflbadhaaGreat
open Go.RowKit Go.IntWalk Go.Proofs.YtdkemdcflbadhaaGreatW.PrintWords
/-- what the last statement reads and writes, kept -/
def SR (w5 : World) (mb rx m0 : Nat) (a b c q : Value) (W : World) : Prop := Below w5.heap.size w5 W ∧ W.cell? ⟨mb, 0, none⟩ = some a ∧ W.cell? ⟨mb, 1, none⟩ = some b ∧ W.cell? ⟨mb, 2, none⟩ = some c ∧ W.cell? ⟨rx, 0, none⟩ = some q ∧ W.cell? ⟨m0, 0, none⟩ = some (.int .i64 0) ∧ W.cell? ⟨m0, 1, none⟩ = some (.bool false) ∧ W.cell? ⟨m0, 2, none⟩ = some (.slice none 0 0) ∧ W.frozen? ⟨m0, 0, none⟩ = false ∧ W.frozen? ⟨m0, 1, none⟩ = false ∧ W.frozen? ⟨m0, 2, none⟩ = false
theorem SR.keep {w5 W w' : World} {mb rx m0 : Nat} {a b c q : Value} (h : SR w5 mb rx m0 a b c q W) (hb : Below W.heap.size W w') : SR w5 mb rx m0 a b c q w' := by
  obtain ⟨h0, h1, h2, h3, h4, h5, h6, h7, h8, h9, h10⟩ := h
  exact ⟨below_tr h0 hb, pw_cell_below hb h1, pw_cell_below hb h2, pw_cell_below hb h3, pw_cell_below hb h4, pw_cell_below hb h5, pw_cell_below hb h6, pw_cell_below hb h7, frz_below hb h5 h8, frz_below hb h6 h9, frz_below hb h7 h10⟩
theorem SR.drew {w5 W : World} {mb rx m0 : Nat} {a b c q : Value} (h : SR w5 mb rx m0 a b c q W) : SR w5 mb rx m0 a b c q W.drew := by
  obtain ⟨h0, h1, h2, h3, h4, h5, h6, h7, h8, h9, h10⟩ := h
  exact ⟨h0.drew, h1, h2, h3, h4, h5, h6, h7, h8, h9, h10⟩
end Go.Proofs.YtdkemdcflbadhaaGreat
namespace Go.Proofs.YtdkemdcflbadhaaGreat
open Go.RowKit Go.IntWalk Go.Proofs.YtdkemdcflbadhaaGreatW.PrintWords
theorem cell2 {w : World} {mb : Nat} {a b : Value} {t : Nat} (h : w.heap[mb]? = some (.cells #[a, b] t (0, 0))) : (w.cell? ⟨mb, 0, none⟩ = some a ∧ w.cell? ⟨mb, 1, none⟩ = some b) ∧ (w.frozen? ⟨mb, 0, none⟩ = false ∧ w.frozen? ⟨mb, 1, none⟩ = false) :=
  ⟨⟨(blk_cell h 0).trans rfl, (blk_cell h 1).trans rfl⟩, blk_frozen h 0, blk_frozen h 1⟩
/-- a reader of bytes that lie below it -/
structure RdB (w0 : World) (p : Nat) (fs : List Int) (sh : Bool) (w : World) : Prop where
  ex : ∃ A c, w.heap[p]? = some (.cells #[.slice A fs.length c, .bool sh] 122 (0, 0)) ∧ (Kd.int .u8).C w0 A fs.length fs ∧ fs.length ≤ c
  lo : w0.heap.size ≤ p
  bel : Below w0.heap.size w0 w
theorem RdB.later {w0 : World} {p : Nat} {fs : List Int} {sh : Bool} {w w' : World} (h : RdB w0 p fs sh w) (ho : Only (fun j => j ≠ p ∧ w0.heap.size ≤ j) w w') : RdB w0 p fs sh w' := by
  obtain ⟨A, c, h1, h2, h3⟩ := h.ex
  refine ⟨⟨A, c, (ho.block p (blk_lt h1) (fun h => h.1 rfl)).trans h1, h2, h3⟩, h.lo, h.bel.trans (ho.below h.bel.size (fun k hk => hk.2))⟩
end Go.Proofs.YtdkemdcflbadhaaGreat
namespace Go.Proofs.YtdkemdcflbadhaaGreat
open Go.RowKit Go.IntWalk Go.Proofs.YtdkemdcflbadhaaGreatW.PrintWords
set_option maxRecDepth 100000 in
set_option maxHeartbeats 400000 in
/-- a copy, whatever an absent one's room -/
theorem clone2_any (A : Option Addr) (c : Nat) (xs : List Int) (w : World) (hr : (Kd.int .u8).C w A xs.length xs) (hl : xs.length ≤ 1000000) (hn : A = none → xs = []) :
    Calls Tryz.prog 125 #[.slice A xs.length c] w (ClonePost xs w) := by
  cases A with
  | none =>
    have h0 := hn rfl
    subst h0
    have hq := Lib.run_eql_slice_nil (P := Tryz.prog) w 22 5 none 0 c 0 0 Tryz.underlying22
    go_enter Tryz.func125, Tryz.ntmps125
    go_wp2_with fail
    go_ret
    exact ⟨_, rfl, Kd.R_nil _ _ _ _ _, Below.refl _ _⟩
  | some ad =>
    have HR := Lib.hid (Kd.C_alloc hr (.cells #[] 5))
    have HE := Lib.hid (row_empty .u8 5 w w.heap.size (fun _ => True) (Nat.le_refl _) trivial)
    have HL : Hid ((([] : List Int).length + xs.length) * 1 ≤ 140737488355328) := by show _ ≤ _; simp; omega
    have hq := Lib.run_eql_slice_nil (P := Tryz.prog) w 22 5 (some ad) xs.length c 0 0 Tryz.underlying22
    clear hr
    go_enter Tryz.func125, Tryz.ntmps125
    go_wp2_with (at_builtin; refine Kd.R_append_rows (Kd.int .u8) (Rr := (Kd.int .u8).K (w.alloc (.cells #[] 5))) (w0 := w) (W := w.alloc (.cells #[] 5)) w.heap.size rfl (.tmp 5) (.tmp 6) 22 5 (.int .u8 0) 1 rfl Tryz.underlying22 infoU8 rfl (by decide) (by decide) (.slice (some ⟨w.heap.size, 0, none⟩) 0 0) [] xs (some ad) xs.length c (fun _ => True) (fun _ => False) rfl rfl HE.out HR.out (fun _ _ h => h) (fun _ h => h.elim) (fun _ _ => trivial) ((Below.refl _ _).alloc (Nat.le_refl _) _) (by simp) HL.out ?_; intro vi w2 hr2 hb2 hg2 hat2; have HR2 := Lib.hid hr2; have HB2 := Lib.hid hb2; clear hr2 hb2 hg2 hat2)
    go_ret
    rw [List.nil_append] at HR2
    exact ⟨_, rfl, HR2.out, HB2.out⟩
set_option maxRecDepth 100000 in
theorem kinds_any (k : Int) (w : World) : Calls Tryz.prog 224 #[.int .i64 k] w fun e w' => e = .returned (.bool (decide (k = 0 ∨ k = 1))) ∧ w = w' := by
  by_cases h0 : k = 0
  · subst h0
    go_enter Tryz.func224, Tryz.ntmps224
    go_wp2_with fail
    go_ret
    exact ⟨rfl, rfl⟩
  · have d0 : (k == 0) = false := by simpa using h0
    by_cases h1 : k = 1
    · subst h1
      go_enter Tryz.func224, Tryz.ntmps224
      go_wp2_with fail
      go_ret
      exact ⟨rfl, rfl⟩
    · have d1 : (k == 1) = false := by simpa using h1
      have d2 : decide (k = 0 ∨ k = 1) = false := decide_eq_false (fun h => h.elim h0 h1)
      rw [d2]
      clear h0 h1 d2
      go_enter Tryz.func224, Tryz.ntmps224
      go_wp2_with fail
      go_ret
      exact ⟨by simp, rfl⟩
/-- is it another one than the first? -/
def notB (b0 x : Int) : Bool := !decide (x = b0)
set_option maxRecDepth 100000 in
theorem alike1_any (ad : Addr) (c p n : Nat) (x y : Int) (w : World) (hp : w.cell? ⟨p, 0, none⟩ = some (.slice (some ad) n c)) (h0 : 0 < n) (hx : w.cell? (ad.add 0) = some (.int .u8 x)) :
    Calls Tryz.prog 232 #[.int .u8 y, .pointer (some ⟨p, 0, none⟩)] w fun e w' => e = .returned (.bool (notB x y)) ∧ w = w' := by
  have hz : (0 : Int) < (n : Int) := by omega
  have hx2 : w.cell? ad = some (.int .u8 x) := by have e : ad.add 0 = ad := by simp [Addr.add]
                                                  rwa [e] at hx
  unfold notB
  by_cases h : y = x
  · have hd := decide_eq_true h
    rw [hd]
    clear h
    go_enter Tryz.func232, Tryz.ntmps232
    go_wp2_with fail
    go_ret
    exact ⟨by simp_all, rfl⟩
  · have hd := decide_eq_false h
    rw [hd]
    clear h
    go_enter Tryz.func232, Tryz.ntmps232
    go_wp2_with fail
    go_ret
    exact ⟨by simp_all, rfl⟩
set_option maxRecDepth 100000 in
set_option maxHeartbeats 400000 in
theorem indexB_any (ad : Addr) (c p : Nat) (b : List Int) (w : World) (hp : w.cell? ⟨p, 0, none⟩ = some (.slice (some ad) b.length c)) (hr : (Kd.int .u8).C w (some ad) b.length b) (hl : b.length ≤ 1000000) (h0 : 0 < b.length) :
    Calls Tryz.prog 235 #[.slice (some ad) b.length c, .func (.func 232) #[] #[.pointer (some ⟨p, 0, none⟩)]] w fun e w' => ∃ i : Int, e = .returned (.int .i64 i) ∧ (0 ≤ i ↔ b.any (notB (b.getD 0 0)) = true) ∧ w = w' := by
  obtain ⟨a0, e0, hc0⟩ := ints_get hr 0 h0
  injection e0 with e0
  subst e0
  have HR := Lib.hid (And.intro hr (And.intro hp hc0))
  clear hr hp hc0
  obtain ⟨x0, hx0⟩ : ∃ x0, x0 = b.getD 0 0 := ⟨_, rfl⟩
  rw [← hx0] at HR ⊢
  clear hx0
  go_enter Tryz.func235, Tryz.ntmps235
  go_wp2_with fail
  go_loop [8] (fun kv => ∃ (k : Nat), kv = .int .i64 k ∧ k ≤ b.length ∧ Hid (∀ q ∈ b.take k, notB x0 q = false)) (fun kv => b.length - (intOf kv).toNat)
  case atStart => exact ⟨0, rfl, by omega, fun q hq => by simp at hq⟩
  case round =>
    obtain ⟨k, rfl, hk, H⟩ := hrel
    by_cases hlt : k < b.length
    · obtain ⟨a1, e1, hc⟩ := ints_get HR.out.1 k hlt
      injection e1 with e1
      subst e1
      have hkI : (k : Int) < (b.length : Int) := by omega
      obtain ⟨q, hq⟩ : ∃ q, q = b.getD k 0 := ⟨_, rfl⟩
      rw [← hq] at hc
      have HQ := Lib.hid hq
      clear hq
      go_wp2_with fail
      refine (alike1_any ad c p b.length x0 q w HR.out.2.1 h0 HR.out.2.2).mono ?_
      obtain ⟨b1, hb⟩ : ∃ b1, b1 = notB x0 q := ⟨_, rfl⟩
      rw [← hb]
      rintro e w' ⟨rfl, rfl⟩
      have hq2 : b[k] = q := by rw [HQ.out, List.getD_eq_getElem?_getD, List.getElem?_eq_getElem hlt]; rfl
      have HB := Lib.hid (And.intro hb hq2)
      clear hb hq2
      cases b1 with
      | true =>
        go_wp2_with fail
        go_ret
        exact ⟨k, rfl, ⟨fun _ => List.any_eq_true.2 ⟨q, HB.out.2 ▸ List.getElem_mem hlt, HB.out.1.symm⟩, fun _ => by omega⟩, rfl⟩
      | false =>
        go_wp2_with fail
        go_round
        case rel =>
          refine ⟨k + 1, by go_num, by omega, fun x hx => ?_⟩
          rw [List.take_succ_eq_append_getElem hlt] at hx
          rcases List.mem_append.1 hx with h | h
          · exact H.out x h
          · rw [List.mem_singleton.1 h, HB.out.2]; exact HB.out.1.symm
        case measure => simp [intOf]; omega
    · have hkn : k = b.length := by omega
      go_wp2_with fail
      go_ret
      refine ⟨-1, rfl, ⟨fun h => by omega, fun h => ?_⟩, rfl⟩
      obtain ⟨x, hx, hb⟩ := h
      have := H.out x (by rw [hkn, List.take_length]; exact hx)
      rw [this] at hb; cases hb
set_option maxRecDepth 100000 in
theorem containsB_any (ad : Addr) (c p : Nat) (b : List Int) (w : World) (hp : w.cell? ⟨p, 0, none⟩ = some (.slice (some ad) b.length c)) (hr : (Kd.int .u8).C w (some ad) b.length b) (hl : b.length ≤ 1000000) (h0 : 0 < b.length) :
    Calls Tryz.prog 231 #[.slice (some ad) b.length c, .func (.func 232) #[] #[.pointer (some ⟨p, 0, none⟩)]] w fun e w' => e = .returned (.bool (b.any (notB (b.getD 0 0)))) ∧ w = w' := by
  have HI := Lib.hid (indexB_any ad c p b w hp hr hl h0)
  clear hr hp hl h0
  obtain ⟨z, hz⟩ : ∃ z, z = b.any (notB (b.getD 0 0)) := ⟨_, rfl⟩
  rw [← hz] at HI ⊢
  clear hz
  go_enter Tryz.func231, Tryz.ntmps231
  go_wp2_with fail
  refine HI.out.mono ?_
  rintro e w' ⟨i, rfl, hi, rfl⟩
  cases z with
  | true =>
    have h0 : 0 ≤ i := hi.2 rfl
    clear hi
    go_wp2_with fail
    go_ret
    exact ⟨rfl, rfl⟩
  | false =>
    have h0 : decide (0 ≤ i) = false := decide_eq_false (fun h => by have := hi.1 h; cases this)
    clear hi
    go_wp2_with fail
    go_ret
    exact ⟨by simp, rfl⟩
theorem alike_eq (b : List Int) : alikeB b = (decide (1 < b.length) && !b.any (notB (b.getD 0 0))) := by
  unfold alikeB
  congr 1
  rw [List.not_any_eq_all_not]
  congr 1
  funext x
  unfold notB
  simp
set_option maxRecDepth 100000 in
theorem alike_any (A : Option Addr) (c : Nat) (b : List Int) (w : World) (hr : (Kd.int .u8).C w A b.length b) (hl : b.length ≤ 1000000) :
    Calls Tryz.prog 225 #[.slice A b.length c] w fun e w' => e = .returned (.bool (alikeB b)) ∧ Below w.heap.size w w' := by
  rw [alike_eq]
  have hmf : ∀ (fn : Fn) (first cap : Array Value) (w : World), (Instr.makeFunc fn first cap).run Tryz.prog w = .ok (.func fn first cap) w := fun _ _ _ _ => rfl
  obtain ⟨W, hW⟩ : ∃ W, W = w.alloc (.cells #[.slice A b.length c] 22) := ⟨_, rfl⟩
  have hb1 : Below w.heap.size w W := by rw [hW]; exact (Below.refl _ _).alloc (Nat.le_refl _) _
  have hc1 : W.cell? ⟨w.heap.size, 0, none⟩ = some (.slice A b.length c) := by rw [hW]; exact (blk_cell (blk_new _ _) 0).trans rfl
  by_cases h1 : 1 < b.length
  · obtain ⟨ad, hA, _⟩ := ints_get hr 0 (by omega)
    subst hA
    have HP := Lib.hid (containsB_any ad c w.heap.size b W hc1 (Kd.C_below hr hb1) hl (by omega))
    have HB := Lib.hid hb1
    obtain ⟨z, hz⟩ : ∃ z, z = b.any (notB (b.getD 0 0)) := ⟨_, rfl⟩
    rw [← hz] at HP ⊢
    have d1 := decide_eq_true h1
    rw [d1]
    have hI : (1 : Int) < (b.length : Int) := by omega
    clear hr hz hb1 d1 h1
    go_enter Tryz.func225, Tryz.ntmps225
    go_wp2_with fail
    rw [← hW]
    clear hW
    go_wp2_with fail
    refine HP.out.mono ?_
    rintro e w' ⟨rfl, rfl⟩
    go_wp2_with fail
    go_ret
    exact ⟨rfl, HB.out⟩
  · have d1 := decide_eq_false h1
    rw [d1]
    have hI : decide ((1 : Int) < (b.length : Int)) = false := decide_eq_false (by omega)
    have HB := Lib.hid hb1
    clear hr d1 h1 hb1
    go_enter Tryz.func225, Tryz.ntmps225
    go_wp2_with fail
    rw [← hW]
    clear hW
    go_wp2_with fail
    go_ret
    exact ⟨by simp, HB.out⟩
end Go.Proofs.YtdkemdcflbadhaaGreat
namespace Go.Proofs.YtdkemdcflbadhaaGreat
open Go.RowKit Go.IntWalk Go.Proofs.YtdkemdcflbadhaaGreatW.PrintWords
theorem c_nil {A : Option Addr} {b : List Int} {w : World} (hr : (Kd.int .u8).C w A b.length b) (h : A = none) : b = [] := by
  rcases Nat.eq_zero_or_pos b.length with h0 | h0
  · exact List.eq_nil_of_length_eq_zero h0
  · obtain ⟨ad, hA, _⟩ := ints_get hr 0 h0
    rw [h] at hA; cases hA
theorem plainE0 {b : List Int} (hl : b.length ≤ 40000) : plainE 0 b = (0, b) := by
  unfold plainE; rw [if_neg (by omega), if_pos rfl]
theorem plainE1 {b : List Int} (hl : b.length ≤ 40000) (ha : alikeB b = true) : plainE 1 b = (0, [b.getD 0 0]) := by
  unfold plainE; rw [if_neg (fun h => by rcases h with h | h | h; (· omega); (· omega); rw [ha] at h; cases h.2), if_neg (by decide)]
theorem plainE1_not {b : List Int} (ha : alikeB b = false) : plainE 1 b = (1, []) := by
  unfold plainE; rw [if_pos (.inr (.inr ⟨rfl, ha⟩))]
theorem Told.nil (k : Int) {w w' : World} (hb : Below w.heap.size w w') : Told k [] w (.returned (.tuple #[.slice none 0 0, .int .i64 k])) w' := ⟨none, 0, rfl, Kd.R_nil _ _ _ _ _, hb⟩
set_option maxRecDepth 100000 in
set_option maxHeartbeats 400000 in
theorem plainE0_any (A : Option Addr) (c : Nat) (b : List Int) (w : World) (hr : (Kd.int .u8).C w A b.length b) (hl : b.length ≤ 40000) :
    Calls Tryz.prog 205 #[.int .i64 0, .slice A b.length c] w (Told 0 b w) := by
  have HR := Lib.hid hr
  have HN := Lib.hid (c_nil hr)
  have hI : decide ((131072 : Int) < (b.length : Int)) = false := decide_eq_false (by omega)
  have HL := Lib.hid hl
  clear hr hl
  go_enter Tryz.func205, Tryz.ntmps205
  go_wp2_with fail
  refine (kinds_any 0 w).mono ?_
  rintro e w' ⟨rfl, rfl⟩
  go_wp2_with fail
  refine (clone2_any A c b w HR.out (by have := HL.out; omega) HN.out).mono ?_
  rintro e w' ⟨v, rfl, hv, hb⟩
  obtain ⟨A1, c1, rfl⟩ := Kd.R_slice hv
  have H1 := Lib.hid (And.intro hv hb)
  clear hv hb
  go_wp2_with fail
  go_ret2
  exact ⟨A1, c1, rfl, H1.out.1, H1.out.2⟩
set_option maxRecDepth 100000 in
set_option maxHeartbeats 400000 in
theorem plainE1_any (A : Option Addr) (c : Nat) (b : List Int) (w : World) (hr : (Kd.int .u8).C w A b.length b) (hl : b.length ≤ 40000) :
    Calls Tryz.prog 205 #[.int .i64 1, .slice A b.length c] w (Told (plainE 1 b).1 (plainE 1 b).2 w) := by
  have hI : decide ((131072 : Int) < (b.length : Int)) = false := decide_eq_false (by omega)
  have HA := Lib.hid (alike_any A c b w hr (by omega))
  obtain ⟨z, hz⟩ : ∃ z, z = alikeB b := ⟨_, rfl⟩
  rw [← hz] at HA
  cases z with
  | false =>
    rw [plainE1_not hz.symm]
    clear hr hl hz
    go_enter Tryz.func205, Tryz.ntmps205
    go_wp2_with fail
    refine (kinds_any 1 w).mono ?_
    rintro e w' ⟨rfl, rfl⟩
    go_wp2_with fail
    refine HA.out.mono ?_
    rintro e w' ⟨rfl, hb⟩
    have HB := Lib.hid hb
    clear hb
    go_wp2_with fail
    go_ret2
    exact Told.nil 1 HB.out
  | true =>
    rw [plainE1 hl hz.symm]
    have h1 := (alike_rep hz.symm).2
    obtain ⟨ad, hA, hc⟩ := ints_get hr 0 (by omega)
    subst hA
    have e0 : ad.add 0 = ad := by simp [Addr.add]
    rw [e0] at hc
    have HC := Lib.hid hc
    obtain ⟨x, hx⟩ : ∃ x, x = b.getD 0 0 := ⟨_, rfl⟩
    rw [← hx] at HC ⊢
    have hI0 : (0 : Int) < (b.length : Int) := by omega
    clear hr hl hz hx h1 e0 hc
    go_enter Tryz.func205, Tryz.ntmps205
    go_wp2_with fail
    refine (kinds_any 1 w).mono ?_
    rintro e w' ⟨rfl, rfl⟩
    go_wp2_with fail
    refine HA.out.mono ?_
    rintro e w' ⟨rfl, hb⟩
    have hc2 := pw_cell_below hb HC.out
    have HB := Lib.hid hb
    clear hb
    go_wp2_with fail
    go_ret2
    have hrow : (Kd.int .u8).R 5 (w'.alloc (.cells #[.int .u8 x] 5)) w.heap.size (fun _ => True) (.slice (some ⟨w'.heap.size, 0, none⟩) 1 1) [x] := row_lit .u8 5 w' w.heap.size (fun _ => True) trivial HB.out.size [x] (by simp)
    exact ⟨_, 1, rfl, hrow, HB.out.alloc HB.out.size _⟩
/-- a coder of bytes as they are -/
def plainC (p : Nat) (may : FuncId) : Value := .agg #[.func (.func 204) #[] #[.pointer (some ⟨p, 0, none⟩)], .func (.func 206) #[] #[.pointer (some ⟨p, 0, none⟩)], .func (.func may) #[] #[]]
theorem sizeCoder : (Tryz.prog.info? 112).map (·.size) = some 3 := by kernel_rfl
set_option maxRecDepth 100000 in
theorem asIs_any (k : Int) (may : FuncId) (w : World) :
    Calls Tryz.prog 157 #[.int .i64 k, .func (.func may) #[] #[]] w fun e w' => e = .returned (plainC w.heap.size may) ∧ Below w.heap.size w w' ∧ w'.heap[w.heap.size]? = some (.cells #[.int .i64 k] 3 (0, 0)) := by
  have hmf : ∀ (fn : Fn) (first cap : Array Value) (w : World), (Instr.makeFunc fn first cap).run Tryz.prog w = .ok (.func fn first cap) w := fun _ _ _ _ => rfl
  go_enter Tryz.func157, Tryz.ntmps157
  go_wp2_with fail
  refine bodyPost_ret (results_cell_row (fn := Tryz.f157) (p := 4) (ty := 112) rfl _ _ _ _ _ _ _ rfl (blk_new1 _ _ _) Tryz.underlying112 rfl sizeCoder) rfl ?_
  exact ⟨rfl, ((Below.refl w.heap.size w).alloc (Nat.le_refl _) _).alloc (by simp) _, blk_alloc (blk_new _ _) _⟩
theorem sizeCoders : (Tryz.prog.info? 113).map (·.size) = some 12 := by kernel_rfl
theorem cells12 {w : World} {m t : Nat} (h : w.heap[m]? = some (.cells #[.nilFunc, .nilFunc, .nilFunc, .nilFunc, .nilFunc, .nilFunc, .nilFunc, .nilFunc, .nilFunc, .nilFunc, .nilFunc, .nilFunc] t (0, 0))) : (w.cell? ⟨m, 0, none⟩ = some .nilFunc ∧ w.cell? ⟨m, 1, none⟩ = some .nilFunc ∧ w.cell? ⟨m, 2, none⟩ = some .nilFunc ∧ w.cell? ⟨m, 3, none⟩ = some .nilFunc ∧ w.cell? ⟨m, 4, none⟩ = some .nilFunc ∧ w.cell? ⟨m, 5, none⟩ = some .nilFunc ∧ w.cell? ⟨m, 6, none⟩ = some .nilFunc ∧ w.cell? ⟨m, 7, none⟩ = some .nilFunc ∧ w.cell? ⟨m, 8, none⟩ = some .nilFunc ∧ w.cell? ⟨m, 9, none⟩ = some .nilFunc ∧ w.cell? ⟨m, 10, none⟩ = some .nilFunc ∧ w.cell? ⟨m, 11, none⟩ = some .nilFunc) ∧ (w.frozen? ⟨m, 0, none⟩ = false ∧ w.frozen? ⟨m, 1, none⟩ = false ∧ w.frozen? ⟨m, 2, none⟩ = false ∧ w.frozen? ⟨m, 3, none⟩ = false ∧ w.frozen? ⟨m, 4, none⟩ = false ∧ w.frozen? ⟨m, 5, none⟩ = false ∧ w.frozen? ⟨m, 6, none⟩ = false ∧ w.frozen? ⟨m, 7, none⟩ = false ∧ w.frozen? ⟨m, 8, none⟩ = false ∧ w.frozen? ⟨m, 9, none⟩ = false ∧ w.frozen? ⟨m, 10, none⟩ = false ∧ w.frozen? ⟨m, 11, none⟩ = false) := ⟨⟨(blk_cell h 0).trans rfl, (blk_cell h 1).trans rfl, (blk_cell h 2).trans rfl, (blk_cell h 3).trans rfl, (blk_cell h 4).trans rfl, (blk_cell h 5).trans rfl, (blk_cell h 6).trans rfl, (blk_cell h 7).trans rfl, (blk_cell h 8).trans rfl, (blk_cell h 9).trans rfl, (blk_cell h 10).trans rfl, (blk_cell h 11).trans rfl⟩, blk_frozen h 0, blk_frozen h 1, blk_frozen h 2, blk_frozen h 3, blk_frozen h 4, blk_frozen h 5, blk_frozen h 6, blk_frozen h 7, blk_frozen h 8, blk_frozen h 9, blk_frozen h 10, blk_frozen h 11⟩
theorem blk_set12 {w : World} {m t : Nat} (h : w.heap[m]? = some (.cells #[.nilFunc, .nilFunc, .nilFunc, .nilFunc, .nilFunc, .nilFunc, .nilFunc, .nilFunc, .nilFunc, .nilFunc, .nilFunc, .nilFunc] t (0, 0))) (x0 x1 x2 x3 x4 x5 x6 x7 x8 x9 x10 x11 : Value) : ((((((((((((w.setCell ⟨m, 0, none⟩ x0).setCell ⟨m, 1, none⟩ x1).setCell ⟨m, 2, none⟩ x2).setCell ⟨m, 3, none⟩ x3).setCell ⟨m, 4, none⟩ x4).setCell ⟨m, 5, none⟩ x5).setCell ⟨m, 6, none⟩ x6).setCell ⟨m, 7, none⟩ x7).setCell ⟨m, 8, none⟩ x8).setCell ⟨m, 9, none⟩ x9).setCell ⟨m, 10, none⟩ x10).setCell ⟨m, 11, none⟩ x11).heap[m]? = some (.cells #[x0, x1, x2, x3, x4, x5, x6, x7, x8, x9, x10, x11] t (0, 0)) := by
  have h0 : (w.setCell ⟨m, 0, none⟩ x0).heap[m]? = some (.cells #[x0, .nilFunc, .nilFunc, .nilFunc, .nilFunc, .nilFunc, .nilFunc, .nilFunc, .nilFunc, .nilFunc, .nilFunc, .nilFunc] t (0, 0)) := (blk_set h 0 x0).trans rfl
  have h1 : ((w.setCell ⟨m, 0, none⟩ x0).setCell ⟨m, 1, none⟩ x1).heap[m]? = some (.cells #[x0, x1, .nilFunc, .nilFunc, .nilFunc, .nilFunc, .nilFunc, .nilFunc, .nilFunc, .nilFunc, .nilFunc, .nilFunc] t (0, 0)) := (blk_set h0 1 x1).trans rfl
  have h2 : (((w.setCell ⟨m, 0, none⟩ x0).setCell ⟨m, 1, none⟩ x1).setCell ⟨m, 2, none⟩ x2).heap[m]? = some (.cells #[x0, x1, x2, .nilFunc, .nilFunc, .nilFunc, .nilFunc, .nilFunc, .nilFunc, .nilFunc, .nilFunc, .nilFunc] t (0, 0)) := (blk_set h1 2 x2).trans rfl
  have h3 : ((((w.setCell ⟨m, 0, none⟩ x0).setCell ⟨m, 1, none⟩ x1).setCell ⟨m, 2, none⟩ x2).setCell ⟨m, 3, none⟩ x3).heap[m]? = some (.cells #[x0, x1, x2, x3, .nilFunc, .nilFunc, .nilFunc, .nilFunc, .nilFunc, .nilFunc, .nilFunc, .nilFunc] t (0, 0)) := (blk_set h2 3 x3).trans rfl
  have h4 : (((((w.setCell ⟨m, 0, none⟩ x0).setCell ⟨m, 1, none⟩ x1).setCell ⟨m, 2, none⟩ x2).setCell ⟨m, 3, none⟩ x3).setCell ⟨m, 4, none⟩ x4).heap[m]? = some (.cells #[x0, x1, x2, x3, x4, .nilFunc, .nilFunc, .nilFunc, .nilFunc, .nilFunc, .nilFunc, .nilFunc] t (0, 0)) := (blk_set h3 4 x4).trans rfl
  have h5 : ((((((w.setCell ⟨m, 0, none⟩ x0).setCell ⟨m, 1, none⟩ x1).setCell ⟨m, 2, none⟩ x2).setCell ⟨m, 3, none⟩ x3).setCell ⟨m, 4, none⟩ x4).setCell ⟨m, 5, none⟩ x5).heap[m]? = some (.cells #[x0, x1, x2, x3, x4, x5, .nilFunc, .nilFunc, .nilFunc, .nilFunc, .nilFunc, .nilFunc] t (0, 0)) := (blk_set h4 5 x5).trans rfl
  have h6 : (((((((w.setCell ⟨m, 0, none⟩ x0).setCell ⟨m, 1, none⟩ x1).setCell ⟨m, 2, none⟩ x2).setCell ⟨m, 3, none⟩ x3).setCell ⟨m, 4, none⟩ x4).setCell ⟨m, 5, none⟩ x5).setCell ⟨m, 6, none⟩ x6).heap[m]? = some (.cells #[x0, x1, x2, x3, x4, x5, x6, .nilFunc, .nilFunc, .nilFunc, .nilFunc, .nilFunc] t (0, 0)) := (blk_set h5 6 x6).trans rfl
  have h7 : ((((((((w.setCell ⟨m, 0, none⟩ x0).setCell ⟨m, 1, none⟩ x1).setCell ⟨m, 2, none⟩ x2).setCell ⟨m, 3, none⟩ x3).setCell ⟨m, 4, none⟩ x4).setCell ⟨m, 5, none⟩ x5).setCell ⟨m, 6, none⟩ x6).setCell ⟨m, 7, none⟩ x7).heap[m]? = some (.cells #[x0, x1, x2, x3, x4, x5, x6, x7, .nilFunc, .nilFunc, .nilFunc, .nilFunc] t (0, 0)) := (blk_set h6 7 x7).trans rfl
  have h8 : (((((((((w.setCell ⟨m, 0, none⟩ x0).setCell ⟨m, 1, none⟩ x1).setCell ⟨m, 2, none⟩ x2).setCell ⟨m, 3, none⟩ x3).setCell ⟨m, 4, none⟩ x4).setCell ⟨m, 5, none⟩ x5).setCell ⟨m, 6, none⟩ x6).setCell ⟨m, 7, none⟩ x7).setCell ⟨m, 8, none⟩ x8).heap[m]? = some (.cells #[x0, x1, x2, x3, x4, x5, x6, x7, x8, .nilFunc, .nilFunc, .nilFunc] t (0, 0)) := (blk_set h7 8 x8).trans rfl
  have h9 : ((((((((((w.setCell ⟨m, 0, none⟩ x0).setCell ⟨m, 1, none⟩ x1).setCell ⟨m, 2, none⟩ x2).setCell ⟨m, 3, none⟩ x3).setCell ⟨m, 4, none⟩ x4).setCell ⟨m, 5, none⟩ x5).setCell ⟨m, 6, none⟩ x6).setCell ⟨m, 7, none⟩ x7).setCell ⟨m, 8, none⟩ x8).setCell ⟨m, 9, none⟩ x9).heap[m]? = some (.cells #[x0, x1, x2, x3, x4, x5, x6, x7, x8, x9, .nilFunc, .nilFunc] t (0, 0)) := (blk_set h8 9 x9).trans rfl
  have h10 : (((((((((((w.setCell ⟨m, 0, none⟩ x0).setCell ⟨m, 1, none⟩ x1).setCell ⟨m, 2, none⟩ x2).setCell ⟨m, 3, none⟩ x3).setCell ⟨m, 4, none⟩ x4).setCell ⟨m, 5, none⟩ x5).setCell ⟨m, 6, none⟩ x6).setCell ⟨m, 7, none⟩ x7).setCell ⟨m, 8, none⟩ x8).setCell ⟨m, 9, none⟩ x9).setCell ⟨m, 10, none⟩ x10).heap[m]? = some (.cells #[x0, x1, x2, x3, x4, x5, x6, x7, x8, x9, x10, .nilFunc] t (0, 0)) := (blk_set h9 10 x10).trans rfl
  have h11 : ((((((((((((w.setCell ⟨m, 0, none⟩ x0).setCell ⟨m, 1, none⟩ x1).setCell ⟨m, 2, none⟩ x2).setCell ⟨m, 3, none⟩ x3).setCell ⟨m, 4, none⟩ x4).setCell ⟨m, 5, none⟩ x5).setCell ⟨m, 6, none⟩ x6).setCell ⟨m, 7, none⟩ x7).setCell ⟨m, 8, none⟩ x8).setCell ⟨m, 9, none⟩ x9).setCell ⟨m, 10, none⟩ x10).setCell ⟨m, 11, none⟩ x11).heap[m]? = some (.cells #[x0, x1, x2, x3, x4, x5, x6, x7, x8, x9, x10, x11] t (0, 0)) := (blk_set h10 11 x11).trans rfl
  exact h11
theorem far12 {w : World} {m p : Nat} {v : Value} (h : w.cell? ⟨p, 0, none⟩ = some v) (hm : m ≠ p) (x0 x1 x2 x3 x4 x5 x6 x7 x8 x9 x10 x11 : Value) : ((((((((((((w.setCell ⟨m, 0, none⟩ x0).setCell ⟨m, 1, none⟩ x1).setCell ⟨m, 2, none⟩ x2).setCell ⟨m, 3, none⟩ x3).setCell ⟨m, 4, none⟩ x4).setCell ⟨m, 5, none⟩ x5).setCell ⟨m, 6, none⟩ x6).setCell ⟨m, 7, none⟩ x7).setCell ⟨m, 8, none⟩ x8).setCell ⟨m, 9, none⟩ x9).setCell ⟨m, 10, none⟩ x10).setCell ⟨m, 11, none⟩ x11).cell? ⟨p, 0, none⟩ = some v := by
  have hne : ∀ k, (⟨m, k, none⟩ : Addr) ≠ ⟨p, 0, none⟩ := fun k e => by injection e with e1; exact hm e1
  exact ((World.cell?_setCell_other _ _ _ _ (hne 11)).trans ((World.cell?_setCell_other _ _ _ _ (hne 10)).trans ((World.cell?_setCell_other _ _ _ _ (hne 9)).trans ((World.cell?_setCell_other _ _ _ _ (hne 8)).trans ((World.cell?_setCell_other _ _ _ _ (hne 7)).trans ((World.cell?_setCell_other _ _ _ _ (hne 6)).trans ((World.cell?_setCell_other _ _ _ _ (hne 5)).trans ((World.cell?_setCell_other _ _ _ _ (hne 4)).trans ((World.cell?_setCell_other _ _ _ _ (hne 3)).trans ((World.cell?_setCell_other _ _ _ _ (hne 2)).trans ((World.cell?_setCell_other _ _ _ _ (hne 1)).trans ((World.cell?_setCell_other _ _ _ _ (hne 0)).trans h))))))))))))
/-- the four coders -/
def codersV (p q : Nat) : Array Value := #[.func (.func 204) #[] #[.pointer (some ⟨p, 0, none⟩)], .func (.func 206) #[] #[.pointer (some ⟨p, 0, none⟩)], .func (.func 158) #[] #[],
  .func (.func 204) #[] #[.pointer (some ⟨q, 0, none⟩)], .func (.func 206) #[] #[.pointer (some ⟨q, 0, none⟩)], .func (.func 159) #[] #[],
  .func (.func 33) #[] #[], .func (.func 34) #[] #[], .func (.func 160) #[] #[],
  .func (.func 21) #[] #[], .func (.func 26) #[] #[], .func (.func 160) #[] #[]]
def CodersPost (w : World) (e : Ending) (w' : World) : Prop := ∃ p q, e = .returned (.agg (codersV p q)) ∧ w'.cell? ⟨p, 0, none⟩ = some (.int .i64 0) ∧ w'.cell? ⟨q, 0, none⟩ = some (.int .i64 1) ∧ Below w.heap.size w w'
set_option maxRecDepth 100000 in
set_option maxHeartbeats 1000000 in
theorem coders_any (w : World) : Calls Tryz.prog 94 #[] w (CodersPost w) := by
  obtain ⟨W0, hW0⟩ : ∃ W0, W0 = w.alloc (.cells #[.nilFunc, .nilFunc, .nilFunc, .nilFunc, .nilFunc, .nilFunc, .nilFunc, .nilFunc, .nilFunc, .nilFunc, .nilFunc, .nilFunc] 113) := ⟨_, rfl⟩
  have hb0 : Below w.heap.size w W0 := by rw [hW0]; exact (Below.refl _ _).alloc (Nat.le_refl _) _
  have hk0 : W0.heap[w.heap.size]? = some (.cells #[.nilFunc, .nilFunc, .nilFunc, .nilFunc, .nilFunc, .nilFunc, .nilFunc, .nilFunc, .nilFunc, .nilFunc, .nilFunc, .nilFunc] 113 (0, 0)) := by rw [hW0]; exact blk_new _ _
  have hs0 : W0.heap.size = w.heap.size + 1 := by rw [hW0]; simp
  obtain ⟨m, hm⟩ : ∃ m, m = w.heap.size := ⟨_, rfl⟩
  rw [← hm] at hk0
  have HK := Lib.hid (And.intro hk0 (And.intro hb0 (And.intro hm hs0)))
  clear hk0 hb0 hs0
  go_enter Tryz.func94, Tryz.ntmps94
  go_wp2_with fail
  rw [← hW0, ← hm]
  clear hW0 hm
  refine (asIs_any 0 158 W0).mono ?_
  rintro e w1 ⟨rfl, hb1, hp1⟩
  obtain ⟨p, hp⟩ : ∃ p, p = W0.heap.size := ⟨_, rfl⟩
  rw [← hp] at hp1 ⊢
  have H1 := Lib.hid (And.intro hb1 (And.intro hp1 hp))
  clear hb1 hp1 hp
  unfold plainC
  go_wp2_with fail
  refine (asIs_any 1 159 w1).mono ?_
  rintro e w2 ⟨rfl, hb2, hq2⟩
  obtain ⟨q, hq⟩ : ∃ q, q = w1.heap.size := ⟨_, rfl⟩
  rw [← hq] at hq2 ⊢
  have H2 := Lib.hid (And.intro hb2 (And.intro hq2 hq))
  have hk2 := blk_below (blk_below HK.out.1 H1.out.1) hb2
  obtain ⟨⟨c0, c1, c2, c3, c4, c5, c6, c7, c8, c9, c10, c11⟩, f0, f1, f2, f3, f4, f5, f6, f7, f8, f9, f10, f11⟩ := cells12 hk2
  have HK2 := Lib.hid hk2
  clear hb2 hq2 hq hk2
  unfold plainC
  go_wp2_with fail
  refine bodyPost_ret (results_cell_row (fn := Tryz.f94) (p := 0) (ty := 113) rfl _ _ _ _ _ _ _ rfl (blk_set12 HK2.out _ _ _ _ _ _ _ _ _ _ _ _) Tryz.underlying113 rfl sizeCoders) rfl ?_
  have hm : w.heap.size ≤ m := by have := HK.out.2.2.1; omega
  have hpm : m ≠ p := by have h1 := H1.out.2.2; have h2 := HK.out.2.2.1; have h3 := HK.out.2.2.2; omega
  have hqm : m ≠ q := by have h1 := H2.out.2.2; have h2 := HK.out.2.2.1; have h3 := HK.out.2.2.2; have h4 := H1.out.1.size; omega
  have HB : Below w.heap.size w w2 := below_tr (below_tr HK.out.2.1 H1.out.1) H2.out.1
  have hp2 : w2.cell? ⟨p, 0, none⟩ = some (.int .i64 0) := pw_cell_below H2.out.1 ((blk_cell H1.out.2.1 0).trans rfl)
  have hq2 : w2.cell? ⟨q, 0, none⟩ = some (.int .i64 1) := (blk_cell H2.out.2.1 0).trans rfl
  exact ⟨p, q, rfl, far12 hp2 hpm _ _ _ _ _ _ _ _ _ _ _ _, far12 hq2 hqm _ _ _ _ _ _ _ _ _ _ _ _, ((((((((((((HB.setCell hm _).setCell hm _).setCell hm _).setCell hm _).setCell hm _).setCell hm _).setCell hm _).setCell hm _).setCell hm _).setCell hm _).setCell hm _).setCell hm _)⟩
end Go.Proofs.YtdkemdcflbadhaaGreat
namespace Go.Proofs.YtdkemdcflbadhaaGreat
open Go.RowKit Go.IntWalk Go.Proofs.YtdkemdcflbadhaaGreatW.PrintWords
set_option maxRecDepth 100000 in
theorem pickIs_any (k : Int) (w : World) : Calls Tryz.prog 93 #[.int .i64 k] w fun e w' => e = .returned (.bool (decide (0 ≤ k ∧ k < 4))) ∧ w = w' := by
  by_cases h0 : 0 ≤ k
  · by_cases h1 : k < 4
    · have d : decide (0 ≤ k ∧ k < 4) = true := decide_eq_true ⟨h0, h1⟩
      rw [d]
      have d0 := decide_eq_true h0
      have d1 := decide_eq_true h1
      clear d
      go_enter Tryz.func93, Tryz.ntmps93
      go_wp2_with fail
      go_ret
      exact ⟨rfl, rfl⟩
    · have d : decide (0 ≤ k ∧ k < 4) = false := decide_eq_false (fun h => h1 h.2)
      rw [d]
      have d1 := decide_eq_false h1
      clear d h1
      go_enter Tryz.func93, Tryz.ntmps93
      go_wp2_with fail
      go_ret
      exact ⟨by simp, rfl⟩
  · have d : decide (0 ≤ k ∧ k < 4) = false := decide_eq_false (fun h => h0 h.1)
    rw [d]
    have d0 := decide_eq_false h0
    clear d h0
    go_enter Tryz.func93, Tryz.ntmps93
    go_wp2_with fail
    go_ret
    exact ⟨by simp, rfl⟩
set_option maxRecDepth 100000 in
theorem asIs1_any {x : Int × List Int} (A : Option Addr) (c p : Nat) (k : Int) (b : List Int) (w : World) (hp : w.cell? ⟨p, 0, none⟩ = some (.int .i64 k)) (h : Calls Tryz.prog 205 #[.int .i64 k, .slice A b.length c] w (Told x.1 x.2 w)) :
    Calls Tryz.prog 204 #[.slice A b.length c, .pointer (some ⟨p, 0, none⟩)] w (Told x.1 x.2 w) := by
  have H := Lib.hid h
  clear h
  go_enter Tryz.func204, Tryz.ntmps204
  go_wp2_with fail
  refine H.out.mono ?_
  rintro e w' ⟨A1, c1, rfl, hv, hb⟩
  have H1 := Lib.hid (And.intro hv hb)
  clear hv hb
  go_wp2_with fail
  go_ret2
  exact ⟨A1, c1, rfl, H1.out.1, H1.out.2⟩
theorem index_coders0 (p q : Nat) (w : World) : (Instr.index 113 (.agg (codersV p q)) (.int .i64 0)).run Tryz.prog w = .ok (.agg #[.func (.func 204) #[] #[.pointer (some ⟨p, 0, none⟩)], .func (.func 206) #[] #[.pointer (some ⟨p, 0, none⟩)], .func (.func 158) #[] #[]]) w := by
  obtain ⟨i0, hi0, hsz⟩ := Option.map_eq_some_iff.1 sizeCoder
  have hag : (isAgg 112).run Tryz.prog w = .ok true w := by simp [isAgg, Tryz.underlying112, go_sem, run_underlying]
  unfold Instr.index codersV
  simp [run_underlying (P := Tryz.prog) Tryz.underlying113, asIntOf, sizeOf, typeInfo, hi0, hsz, part, hag, Result.andThen]
theorem index_coders1 (p q : Nat) (w : World) : (Instr.index 113 (.agg (codersV p q)) (.int .i64 1)).run Tryz.prog w = .ok (.agg #[.func (.func 204) #[] #[.pointer (some ⟨q, 0, none⟩)], .func (.func 206) #[] #[.pointer (some ⟨q, 0, none⟩)], .func (.func 159) #[] #[]]) w := by
  obtain ⟨i0, hi0, hsz⟩ := Option.map_eq_some_iff.1 sizeCoder
  have hag : (isAgg 112).run Tryz.prog w = .ok true w := by simp [isAgg, Tryz.underlying112, go_sem, run_underlying]
  unfold Instr.index codersV
  simp [run_underlying (P := Tryz.prog) Tryz.underlying113, asIntOf, sizeOf, typeInfo, hi0, hsz, part, hag, Result.andThen]
theorem index_coders2 (p q : Nat) (w : World) : (Instr.index 113 (.agg (codersV p q)) (.int .i64 2)).run Tryz.prog w = .ok (.agg #[.func (.func 33) #[] #[], .func (.func 34) #[] #[], .func (.func 160) #[] #[]]) w := by
  obtain ⟨i0, hi0, hsz⟩ := Option.map_eq_some_iff.1 sizeCoder
  have hag : (isAgg 112).run Tryz.prog w = .ok true w := by simp [isAgg, Tryz.underlying112, go_sem, run_underlying]
  unfold Instr.index codersV
  simp [run_underlying (P := Tryz.prog) Tryz.underlying113, asIntOf, sizeOf, typeInfo, hi0, hsz, part, hag, Result.andThen]
theorem index_coders3 (p q : Nat) (w : World) : (Instr.index 113 (.agg (codersV p q)) (.int .i64 3)).run Tryz.prog w = .ok (.agg #[.func (.func 21) #[] #[], .func (.func 26) #[] #[], .func (.func 160) #[] #[]]) w := by
  obtain ⟨i0, hi0, hsz⟩ := Option.map_eq_some_iff.1 sizeCoder
  have hag : (isAgg 112).run Tryz.prog w = .ok true w := by simp [isAgg, Tryz.underlying112, go_sem, run_underlying]
  unfold Instr.index codersV
  simp [run_underlying (P := Tryz.prog) Tryz.underlying113, asIntOf, sizeOf, typeInfo, hi0, hsz, part, hag, Result.andThen]
theorem kfield0 (a b c : Value) (w : World) : (Instr.field 112 (.agg #[a, b, c]) 0).run Tryz.prog w = .ok a w := by kernel_rfl
theorem pickE_not {k : Int} {b : List Int} (h : ¬ (0 ≤ k ∧ k < 4)) : pickE k b = (10, []) := by unfold pickE; rw [if_pos (by omega)]
theorem pickE_lo {k : Int} {b : List Int} (h0 : 0 ≤ k) (h1 : k ≤ 1) : pickE k b = plainE k b := by unfold pickE; rw [if_neg (by omega), if_pos h1]
theorem pickE_nil {k : Int} {b : List Int} (h0 : 2 ≤ k) (h1 : k ≤ 3) (hb : b.length = 0) : pickE k b = (1, []) := by unfold pickE; rw [if_neg (by omega), if_neg (by omega), if_pos hb]
theorem pickE_2 {b : List Int} (hb : 0 < b.length) : pickE 2 b = (0, body0L b) := by unfold pickE; rw [if_neg (by decide), if_neg (by decide), if_neg (by omega), if_pos rfl]
theorem pickE_3 {b : List Int} (hb : 0 < b.length) : pickE 3 b = (0, body1L b) := by unfold pickE; rw [if_neg (by decide), if_neg (by decide), if_neg (by omega), if_neg (by decide)]
set_option maxRecDepth 100000 in
theorem pickEnc_not (A : Option Addr) (c : Nat) (k : Int) (b : List Int) (w : World) (h : ¬ (0 ≤ k ∧ k < 4)) :
    Calls Tryz.prog 39 #[.int .i64 k, .slice A b.length c] w (Told 10 [] w) := by
  have hd := decide_eq_false h
  have HI := Lib.hid (pickIs_any k w)
  rw [hd] at HI
  clear hd h
  go_enter Tryz.func39, Tryz.ntmps39
  go_wp2_with fail
  refine HI.out.mono ?_
  rintro e w' ⟨rfl, rfl⟩
  go_wp2_with fail
  go_ret2
  exact Told.nil 10 (Below.refl _ _)
set_option maxRecDepth 100000 in
theorem pickEnc_0 {x : Int × List Int} (A : Option Addr) (c : Nat) (b : List Int) (w : World) (h : ∀ (W : World) (p q : Nat), Below w.heap.size w W → W.cell? ⟨p, 0, none⟩ = some (.int .i64 0) → W.cell? ⟨q, 0, none⟩ = some (.int .i64 1) → Calls Tryz.prog 204 #[.slice A b.length c, .pointer (some ⟨p, 0, none⟩)] W (Told x.1 x.2 W)) :
    Calls Tryz.prog 39 #[.int .i64 0, .slice A b.length c] w (Told x.1 x.2 w) := by
  have H := Lib.hid h
  clear h
  go_enter Tryz.func39, Tryz.ntmps39
  go_wp2_with fail
  refine (pickIs_any 0 w).mono ?_
  rintro e w' ⟨rfl, rfl⟩
  go_wp2_with fail
  refine (coders_any w).mono ?_
  rintro e w1 ⟨p, q, rfl, hp, hq, hb⟩
  have H1 := Lib.hid (H.out w1 p q hb hp hq)
  have HB := Lib.hid hb
  have hix := fun W => index_coders0 p q W
  have hkf := kfield0
  obtain ⟨V, hV⟩ : ∃ V, V = codersV p q := ⟨_, rfl⟩
  rw [← hV] at hix ⊢
  clear hb hp hq hV
  go_wp2_with fail
  refine H1.out.mono ?_
  rintro e w2 ⟨A1, c1, rfl, hv, hb⟩
  have H2 := Lib.hid (And.intro hv hb)
  clear hv hb hix hkf
  go_wp2_with fail
  go_ret2
  exact ⟨A1, c1, rfl, Kd.R_lower H2.out.1 HB.out.size, below_tr HB.out H2.out.2⟩
set_option maxRecDepth 100000 in
theorem pickEnc_1 {x : Int × List Int} (A : Option Addr) (c : Nat) (b : List Int) (w : World) (h : ∀ (W : World) (p q : Nat), Below w.heap.size w W → W.cell? ⟨p, 0, none⟩ = some (.int .i64 0) → W.cell? ⟨q, 0, none⟩ = some (.int .i64 1) → Calls Tryz.prog 204 #[.slice A b.length c, .pointer (some ⟨q, 0, none⟩)] W (Told x.1 x.2 W)) :
    Calls Tryz.prog 39 #[.int .i64 1, .slice A b.length c] w (Told x.1 x.2 w) := by
  have H := Lib.hid h
  clear h
  go_enter Tryz.func39, Tryz.ntmps39
  go_wp2_with fail
  refine (pickIs_any 1 w).mono ?_
  rintro e w' ⟨rfl, rfl⟩
  go_wp2_with fail
  refine (coders_any w).mono ?_
  rintro e w1 ⟨p, q, rfl, hp, hq, hb⟩
  have H1 := Lib.hid (H.out w1 p q hb hp hq)
  have HB := Lib.hid hb
  have hix := fun W => index_coders1 p q W
  have hkf := kfield0
  obtain ⟨V, hV⟩ : ∃ V, V = codersV p q := ⟨_, rfl⟩
  rw [← hV] at hix ⊢
  clear hb hp hq hV
  go_wp2_with fail
  refine H1.out.mono ?_
  rintro e w2 ⟨A1, c1, rfl, hv, hb⟩
  have H2 := Lib.hid (And.intro hv hb)
  clear hv hb hix hkf
  go_wp2_with fail
  go_ret2
  exact ⟨A1, c1, rfl, Kd.R_lower H2.out.1 HB.out.size, below_tr HB.out H2.out.2⟩
set_option maxRecDepth 100000 in
theorem pickEnc_2 {x : Int × List Int} (A : Option Addr) (c : Nat) (b : List Int) (w : World) (h : ∀ (W : World) (p q : Nat), Below w.heap.size w W → W.cell? ⟨p, 0, none⟩ = some (.int .i64 0) → W.cell? ⟨q, 0, none⟩ = some (.int .i64 1) → Calls Tryz.prog 33 #[.slice A b.length c] W (Told x.1 x.2 W)) :
    Calls Tryz.prog 39 #[.int .i64 2, .slice A b.length c] w (Told x.1 x.2 w) := by
  have H := Lib.hid h
  clear h
  go_enter Tryz.func39, Tryz.ntmps39
  go_wp2_with fail
  refine (pickIs_any 2 w).mono ?_
  rintro e w' ⟨rfl, rfl⟩
  go_wp2_with fail
  refine (coders_any w).mono ?_
  rintro e w1 ⟨p, q, rfl, hp, hq, hb⟩
  have H1 := Lib.hid (H.out w1 p q hb hp hq)
  have HB := Lib.hid hb
  have hix := fun W => index_coders2 p q W
  have hkf := kfield0
  obtain ⟨V, hV⟩ : ∃ V, V = codersV p q := ⟨_, rfl⟩
  rw [← hV] at hix ⊢
  clear hb hp hq hV
  go_wp2_with fail
  refine H1.out.mono ?_
  rintro e w2 ⟨A1, c1, rfl, hv, hb⟩
  have H2 := Lib.hid (And.intro hv hb)
  clear hv hb hix hkf
  go_wp2_with fail
  go_ret2
  exact ⟨A1, c1, rfl, Kd.R_lower H2.out.1 HB.out.size, below_tr HB.out H2.out.2⟩
set_option maxRecDepth 100000 in
theorem pickEnc_3 {x : Int × List Int} (A : Option Addr) (c : Nat) (b : List Int) (w : World) (h : ∀ (W : World) (p q : Nat), Below w.heap.size w W → W.cell? ⟨p, 0, none⟩ = some (.int .i64 0) → W.cell? ⟨q, 0, none⟩ = some (.int .i64 1) → Calls Tryz.prog 21 #[.slice A b.length c] W (Told x.1 x.2 W)) :
    Calls Tryz.prog 39 #[.int .i64 3, .slice A b.length c] w (Told x.1 x.2 w) := by
  have H := Lib.hid h
  clear h
  go_enter Tryz.func39, Tryz.ntmps39
  go_wp2_with fail
  refine (pickIs_any 3 w).mono ?_
  rintro e w' ⟨rfl, rfl⟩
  go_wp2_with fail
  refine (coders_any w).mono ?_
  rintro e w1 ⟨p, q, rfl, hp, hq, hb⟩
  have H1 := Lib.hid (H.out w1 p q hb hp hq)
  have HB := Lib.hid hb
  have hix := fun W => index_coders3 p q W
  have hkf := kfield0
  obtain ⟨V, hV⟩ : ∃ V, V = codersV p q := ⟨_, rfl⟩
  rw [← hV] at hix ⊢
  clear hb hp hq hV
  go_wp2_with fail
  refine H1.out.mono ?_
  rintro e w2 ⟨A1, c1, rfl, hv, hb⟩
  have H2 := Lib.hid (And.intro hv hb)
  clear hv hb hix hkf
  go_wp2_with fail
  go_ret2
  exact ⟨A1, c1, rfl, Kd.R_lower H2.out.1 HB.out.size, below_tr HB.out H2.out.2⟩
theorem pickEncode_any (A : Option Addr) (c : Nat) (k : Int) (b : List Int) (w : World) (hr : (Kd.int .u8).C w A b.length b) (hb : Bytes b) (hl : b.length ≤ 40000) :
    Calls Tryz.prog 39 #[.int .i64 k, .slice A b.length c] w (Told (pickE k b).1 (pickE k b).2 w) := by
  by_cases h : 0 ≤ k ∧ k < 4
  · by_cases k0 : k = 0
    · subst k0
      exact pickEnc_0 A c b w (fun W p q hB hp _ => asIs1_any A c p 0 b W hp (by rw [pickE_lo (by decide) (by decide), plainE0 hl]; exact plainE0_any A c b W (Kd.C_below hr hB) hl))
    by_cases k1 : k = 1
    · subst k1
      exact pickEnc_1 A c b w (fun W p q hB _ hq => asIs1_any A c q 1 b W hq (by rw [pickE_lo (by decide) (by decide)]; exact plainE1_any A c b W (Kd.C_below hr hB) hl))
    rcases Nat.eq_zero_or_pos b.length with h0 | h0
    · rw [pickE_nil (by omega) (by omega) h0]
      by_cases k2 : k = 2
      · subst k2
        exact pickEnc_2 (x := (1, [])) A c b w (fun W p q hB _ _ => (encode0_any A c b W (Kd.C_below hr hB) hb hl).mono fun e w' h => by
          rcases h with ⟨_, rfl, hbl⟩ | ⟨h, _⟩
          · exact Told.nil 1 hbl
          · omega)
      · obtain rfl : k = 3 := by omega
        exact pickEnc_3 (x := (1, [])) A c b w (fun W p q hB _ _ => by
          rw [h0]
          exact (encode1_none A c W).mono fun e w' ⟨he, hbl⟩ => by subst he; exact Told.nil 1 hbl)
    · by_cases k2 : k = 2
      · subst k2
        rw [pickE_2 h0]
        exact pickEnc_2 (x := (0, body0L b)) A c b w (fun W p q hB _ _ => encode0_told A c b W (Kd.C_below hr hB) hb hl h0)
      · obtain rfl : k = 3 := by omega
        rw [pickE_3 h0]
        exact pickEnc_3 (x := (0, body1L b)) A c b w (fun W p q hB _ _ => encode1_told A c b W (Kd.C_below hr hB) hb hl h0)
  · rw [pickE_not h]; exact pickEnc_not A c k b w h
end Go.Proofs.YtdkemdcflbadhaaGreat
namespace Go.Proofs.YtdkemdcflbadhaaGreat
open Go.RowKit Go.IntWalk Go.Proofs.YtdkemdcflbadhaaGreatW.PrintWords Go.Proofs.YtdkemdcflbadhaaGreatW.PrintMore
attribute [local go_sem] min_two
theorem cell5 {w : World} {mb : Nat} {a b c d f : Value} {t : Nat} (h : w.heap[mb]? = some (.cells #[a, b, c, d, f] t (0, 0))) : (w.cell? ⟨mb, 0, none⟩ = some a ∧ w.cell? ⟨mb, 1, none⟩ = some b ∧ w.cell? ⟨mb, 2, none⟩ = some c ∧ w.cell? ⟨mb, 3, none⟩ = some d ∧ w.cell? ⟨mb, 4, none⟩ = some f) ∧ (w.frozen? ⟨mb, 0, none⟩ = false ∧ w.frozen? ⟨mb, 1, none⟩ = false ∧ w.frozen? ⟨mb, 2, none⟩ = false ∧ w.frozen? ⟨mb, 3, none⟩ = false ∧ w.frozen? ⟨mb, 4, none⟩ = false) :=
  ⟨⟨(blk_cell h 0).trans rfl, (blk_cell h 1).trans rfl, (blk_cell h 2).trans rfl, (blk_cell h 3).trans rfl, (blk_cell h 4).trans rfl⟩, blk_frozen h 0, blk_frozen h 1, blk_frozen h 2, blk_frozen h 3, blk_frozen h 4⟩
/-- what is known while a head is read -/
structure ScanAt (W0 : World) (p h r8 : Nat) (fs : List Int) (sh : Bool) (a b c : Nat) (d : Bool) (W : World) : Prop where
  rd : RdB W0 p fs sh W
  kh : W.heap[h]? = some (.cells #[.int .i64 a, .int .i64 b, .int .i64 c, .bool d, .int .u32 0] 56 (0, 0))
  kr : W.heap[r8]? = some (.cells #[.int .i64 0, .int .i64 0, .int .i64 0, .bool false, .int .u32 0] 56 (0, 0))
  on : Below r8 W0 W
theorem ScanAt.below {W0 : World} {p h r8 : Nat} {fs : List Int} {sh : Bool} {a b c : Nat} {d : Bool} {W W' : World} (hs : ScanAt W0 p h r8 fs sh a b c d W) (hb : Below W.heap.size W W') : ScanAt W0 p h r8 fs sh a b c d W' :=
  ⟨hs.rd.later (Only.of_below hb), blk_below hs.kh hb, blk_below hs.kr hb, hs.on.trans (hb.mono (Nat.le_of_lt (blk_lt hs.kr)))⟩
theorem RdB.set {W0 : World} {p h : Nat} {fs : List Int} {sh : Bool} {W : World} (hr : RdB W0 p fs sh W) (hlt : p < h) (k : Nat) (v : Value) : RdB W0 p fs sh (W.setCell ⟨h, k, none⟩ v) :=
  hr.later ((Only.refl _ _).setCell (p := ⟨h, k, none⟩) ⟨by show h ≠ p; omega, by show _ ≤ h; have := hr.lo; omega⟩ v)
theorem ScanAt.set1 {W0 : World} {p h r8 : Nat} {fs : List Int} {sh : Bool} {a b c : Nat} {d : Bool} {W : World} (hs : ScanAt W0 p h r8 fs sh a b c d W) (hlt : r8 < p ∧ p < h) (b' : Nat) : ScanAt W0 p h r8 fs sh a b' c d (W.setCell ⟨h, 1, none⟩ (.int .i64 b')) :=
  ⟨hs.rd.set hlt.2 1 _, blk_set hs.kh 1 _, blk_far hs.kr (p := ⟨h, 1, none⟩) (by show r8 ≠ h; omega) _, hs.on.setCell (by show r8 ≤ h; omega) _⟩
theorem ScanAt.cells {W0 : World} {p h r8 : Nat} {fs : List Int} {sh : Bool} {a b c : Nat} {d : Bool} {W : World} (hs : ScanAt W0 p h r8 fs sh a b c d W) : W.cell? ⟨p, 1, none⟩ = some (.bool sh) ∧ (W.cell? ⟨h, 0, none⟩ = some (.int .i64 a) ∧ W.cell? ⟨h, 1, none⟩ = some (.int .i64 b) ∧ W.cell? ⟨h, 2, none⟩ = some (.int .i64 c) ∧ W.cell? ⟨h, 3, none⟩ = some (.bool d) ∧ W.cell? ⟨h, 4, none⟩ = some (.int .u32 0)) ∧ (W.frozen? ⟨h, 0, none⟩ = false ∧ W.frozen? ⟨h, 1, none⟩ = false ∧ W.frozen? ⟨h, 2, none⟩ = false ∧ W.frozen? ⟨h, 3, none⟩ = false ∧ W.frozen? ⟨h, 4, none⟩ = false) ∧ (W.cell? ⟨r8, 0, none⟩ = some (.int .i64 0) ∧ W.cell? ⟨r8, 1, none⟩ = some (.int .i64 0) ∧ W.cell? ⟨r8, 2, none⟩ = some (.int .i64 0) ∧ W.cell? ⟨r8, 3, none⟩ = some (.bool false) ∧ W.cell? ⟨r8, 4, none⟩ = some (.int .u32 0)) ∧ (W.frozen? ⟨r8, 0, none⟩ = false ∧ W.frozen? ⟨r8, 1, none⟩ = false ∧ W.frozen? ⟨r8, 2, none⟩ = false ∧ W.frozen? ⟨r8, 3, none⟩ = false ∧ W.frozen? ⟨r8, 4, none⟩ = false) := by
  obtain ⟨A, n, h1, _, _⟩ := hs.rd.ex
  exact ⟨(cell2 h1).1.2, (cell5 hs.kh).1, (cell5 hs.kh).2, (cell5 hs.kr).1, (cell5 hs.kr).2⟩
end Go.Proofs.YtdkemdcflbadhaaGreat
namespace Go.Proofs.YtdkemdcflbadhaaGreat
open Go.RowKit Go.IntWalk Go.Proofs.YtdkemdcflbadhaaGreatW.PrintWords
/-- the best one of the kinds up to k -/
def bestN (b : List Int) : Nat → Int × List Int
  | 0 => (0, b)
  | k + 1 => betterK ((k + 1 : Nat) : Int) b (bestN b k)
theorem bestN_3 (b : List Int) : bestN b 3 = bestP b := rfl
theorem bestN_len (b : List Int) : ∀ k, (bestN b k).2.length ≤ b.length
  | 0 => Nat.le_refl _
  | k + 1 => Nat.le_trans (better_len _ b _).1 (bestN_len b k)
theorem bestN_kind (b : List Int) : ∀ k, 0 ≤ (bestN b k).1 ∧ (bestN b k).1 ≤ k
  | 0 => ⟨Int.le_refl _, Int.le_refl _⟩
  | k + 1 => by
    have := bestN_kind b k
    unfold bestN betterK
    split
    · exact ⟨by show (0 : Int) ≤ ((k + 1 : Nat) : Int); omega, Int.le_refl _⟩
    · omega
theorem better_take {k : Int} {b : List Int} {x : Int × List Int} (h0 : (pickE k b).1 = 0) (h1 : (pickE k b).2.length < x.2.length) : betterK k b x = (k, (pickE k b).2) := by unfold betterK; rw [if_pos ⟨h0, h1⟩]
theorem better_keep {k : Int} {b : List Int} {x : Int × List Int} (h : ¬ ((pickE k b).1 = 0 ∧ (pickE k b).2.length < x.2.length)) : betterK k b x = x := by unfold betterK; rw [if_neg h]
def BestPost (b : List Int) (w : World) (e : Ending) (w' : World) : Prop :=
  ∃ A c, e = .returned (.tuple #[.int .i64 (bestP b).1, .slice A (bestP b).2.length c, .int .i64 0]) ∧ (Kd.int .u8).R 5 w' w.heap.size (fun _ => True) (.slice A (bestP b).2.length c) (bestP b).2 ∧ Below w.heap.size w w'
set_option maxRecDepth 100000 in
set_option maxHeartbeats 1000000 in
theorem best_any (A : Option Addr) (c : Nat) (b : List Int) (w : World) (hr : (Kd.int .u8).C w A b.length b) (hb : Bytes b) (hl : b.length ≤ 40000) :
    Calls Tryz.prog 37 #[.slice A b.length c] w (BestPost b w) := by
  have HE := Lib.hid (fun (k : Int) (W : World) (hB : Below w.heap.size w W) => pickEncode_any A c k b W (Kd.C_below hr hB) hb hl)
  have HE0 := Lib.hid (HE.out 0 w (Below.refl _ _))
  have e0 : pickE 0 b = (0, b) := by rw [pickE_lo (by decide) (by decide), plainE0 hl]
  rw [e0] at HE0
  have HL := Lib.hid (And.intro hl e0)
  clear hr hb hl e0
  go_enter Tryz.func37, Tryz.ntmps37
  go_wp2_with fail
  refine HE0.out.mono ?_
  rintro e w1 ⟨A1, c1, rfl, hv1, hb1⟩
  have H1 := Lib.hid (And.intro hv1 hb1)
  clear hv1 hb1
  dsimp only
  go_wp2_with fail
  go_loopw [2, 3, 5, 6, 7] (fun nv bv kv xv fv wr => ∃ (k n : Nat) (y : List Int) (B : Option Addr) (cb : Nat), nv = .int .i64 n ∧ bv = .slice B y.length cb ∧ kv = .int .i64 ((k + 1 : Nat) : Int) ∧ k ≤ 3 ∧ Hid (bestN b k = ((n : Int), y) ∧ (Kd.int .u8).R 5 wr w.heap.size (fun _ => True) (.slice B y.length cb) y ∧ Below w.heap.size w wr)) (fun _ _ kv _ _ _ => 4 - (intOf kv).toNat)
  case atStart => exact ⟨0, 0, b, A1, c1, rfl, rfl, rfl, by omega, Lib.hid ⟨rfl, H1.out.1, H1.out.2⟩⟩
  case round =>
    obtain ⟨k, n, y, B, cb, rfl, rfl, rfl, hk, H⟩ := hrel
    by_cases hlt : k < 3
    · have hI : ((k + 1 : Nat) : Int) < 4 := by omega
      have HC := Lib.hid (HE.out ((k + 1 : Nat) : Int) wr H.out.2.2)
      have hyl := bestN_len b k
      rw [H.out.1] at hyl
      have hyl2 : y.length ≤ b.length := hyl
      obtain ⟨x, hx⟩ : ∃ x, x = pickE ((k + 1 : Nat) : Int) b := ⟨_, rfl⟩
      have HX := Lib.hid hx
      rw [← hx] at HC
      obtain ⟨f, z⟩ := x
      have hz : Hid (f = 0 → z.length ≤ 1000000 ∨ True) := Lib.hid (fun _ => .inr trivial)
      clear hx hyl hz
      go_wp2_with fail
      refine HC.out.mono ?_
      rintro e w2 ⟨A2, c2, rfl, hv2, hb2⟩
      have H2 := Lib.hid (And.intro hv2 hb2)
      clear hv2 hb2
      dsimp only at H2 ⊢
      have HB2 := Lib.hid (below_tr H.out.2.2 H2.out.2)
      have HR2 := Lib.hid (Kd.R_below H.out.2.1 H2.out.2)
      by_cases h0 : f = 0
      · subst h0
        by_cases h1 : z.length < y.length
        · have hI1 : decide (z.length < y.length) = true := decide_eq_true h1
          have HN := Lib.hid (show bestN b (k + 1) = (((k + 1 : Nat) : Int), z) from by
            have e1 : bestN b (k + 1) = betterK ((k + 1 : Nat) : Int) b (bestN b k) := rfl
            rw [e1, better_take (by rw [← HX.out]) (by rw [← HX.out, H.out.1]; exact h1), ← HX.out])
          clear h1
          go_wp2_with fail
          go_roundw
          case rel => exact ⟨k + 1, k + 1, z, A2, c2, rfl, rfl, by go_num, by omega, Lib.hid ⟨HN.out, Kd.R_lower H2.out.1 H.out.2.2.size, HB2.out⟩⟩
          case measure => simp [intOf]; omega
        · have hI1 : decide (z.length < y.length) = false := decide_eq_false h1
          have HN := Lib.hid (show bestN b (k + 1) = ((n : Int), y) from by
            have e1 : bestN b (k + 1) = betterK ((k + 1 : Nat) : Int) b (bestN b k) := rfl
            rw [e1, better_keep (by rw [← HX.out, H.out.1]; exact fun h => h1 h.2), H.out.1])
          clear h1
          go_wp2_with fail
          go_roundw
          case rel => exact ⟨k + 1, n, y, B, cb, rfl, rfl, by go_num, by omega, Lib.hid ⟨HN.out, HR2.out, HB2.out⟩⟩
          case measure => simp [intOf]; omega
      · have hf : (f == 0) = false := by simpa using h0
        have HN := Lib.hid (show bestN b (k + 1) = ((n : Int), y) from by
          have e1 : bestN b (k + 1) = betterK ((k + 1 : Nat) : Int) b (bestN b k) := rfl
          rw [e1, better_keep (by rw [← HX.out]; exact fun h => h0 h.1), H.out.1])
        clear h0
        go_wp2_with fail
        go_roundw
        case rel => exact ⟨k + 1, n, y, B, cb, rfl, rfl, by go_num, by omega, Lib.hid ⟨HN.out, HR2.out, HB2.out⟩⟩
        case measure => simp [intOf]; omega
    · obtain rfl : k = 3 := by omega
      go_wp2_with fail
      go_ret3
      have e3 := H.out.1
      rw [bestN_3] at e3
      unfold BestPost
      rw [e3]
      exact ⟨B, cb, rfl, H.out.2.1, H.out.2.2⟩
end Go.Proofs.YtdkemdcflbadhaaGreat
namespace Go.Proofs.YtdkemdcflbadhaaGreat
open Go.RowKit Go.IntWalk Go.Proofs.YtdkemdcflbadhaaGreatW.PrintWords
theorem pickE_pos {k : Int} {b : List Int} (hb : Bytes b) (hl : b.length ≤ 40000) (h0 : 0 < b.length) (he : (pickE k b).1 = 0) : 0 < (pickE k b).2.length := by
  by_cases h : 0 ≤ k ∧ k < 4
  · by_cases k0 : k = 0
    · subst k0; rw [pickE_lo (by decide) (by decide), plainE0 hl]; exact h0
    by_cases k1 : k = 1
    · subst k1
      rw [pickE_lo (by decide) (by decide)] at he ⊢
      cases ha : alikeB b with
      | false => rw [plainE1_not ha] at he; cases he
      | true => rw [plainE1 hl ha]; exact Nat.one_pos
    by_cases k2 : k = 2
    · subst k2; rw [pickE_2 h0]; have := body0L_len hb hl h0; show 0 < (body0L b).length; omega
    · obtain rfl : k = 3 := by omega
      rw [pickE_3 h0]; have := body1L_len hb hl h0; show 0 < (body1L b).length; omega
  · rw [pickE_not h] at he; cases he
theorem better_stay {k : Int} {b : List Int} {x : Int × List Int} (hb : Bytes b) (hl : b.length ≤ 40000) (h0 : 0 < b.length) (h1 : x.2.length ≤ 1) : betterK k b x = x := by
  refine better_keep ?_
  rintro ⟨he, hlt⟩
  have := pickE_pos hb hl h0 he
  omega
theorem best_nil : bestP [] = (0, []) := by
  have h1 : ∀ k x, betterK k [] (x, []) = (x, ([] : List Int)) := fun k x => better_keep (fun h => by simp at h)
  unfold bestP; rw [h1, h1, h1]
theorem best_alike {b : List Int} (hb : Bytes b) (hl : b.length ≤ 40000) (ha : alikeB b = true) : bestP b = (1, [b.getD 0 0]) := by
  have h0 := (alike_rep ha).2
  have e : betterK 1 b (0, b) = (1, [b.getD 0 0]) := by
    have e1 : pickE 1 b = (0, [b.getD 0 0]) := by rw [pickE_lo (by decide) (by decide), plainE1 hl ha]
    rw [better_take (by rw [e1]) (by rw [e1]; exact h0), e1]
  unfold bestP
  have hs : ∀ k, betterK k b (1, [b.getD 0 0]) = (1, [b.getD 0 0]) := fun k => better_stay hb hl (by omega) (Nat.le_refl 1)
  rw [e, hs, hs]
theorem best_single {b : List Int} (hb : Bytes b) (h1 : b.length = 1) : bestP b = (0, b) := by
  have hs : ∀ k, betterK k b (0, b) = (0, b) := fun k => better_stay hb (by omega) (by omega) (by show b.length ≤ 1; omega)
  unfold bestP
  rw [hs, hs, hs]
theorem b4 : Bytes [4] := by intro x hx; simp at hx; omega
theorem b99 : Bytes [9, 9] := by intro x hx; simp at hx; omega
theorem BestPost.out {b : List Int} {w : World} {e : Ending} {w' : World} (h : BestPost b w e w') (hb : Bytes b) : ∃ A c, e = .returned (.tuple #[.int .i64 (bestP b).1, .slice A (bestP b).2.length c, .int .i64 0]) ∧ BSl w' A c (bestP b).2 ∧ Below w.heap.size w w' := by
  obtain ⟨A, c, he, hr, hbl⟩ := h
  exact ⟨A, c, he, BSl.of hr (best_bytes hb), hbl⟩
set_option maxRecDepth 100000 in
set_option maxHeartbeats 1000000 in
theorem awake22_any (w : World) : Calls Tryz.prog 36 #[] w (Ret (.bool true) w) := by
  go_enter Tryz.func36, Tryz.ntmps36
  go_wp2_with fail
  refine (best_any none 0 [] w (Kd.R_reads' (Kd.R_nil (Kd.int .u8) 5 w w.heap.size (fun _ => True))).2.2 (by intro x hx; cases hx) (by decide)).mono ?_
  intro e w1 h1
  obtain ⟨A1, c1, rfl, hs1, hb1⟩ := h1.out (by intro x hx; cases hx)
  rw [best_nil] at hs1 ⊢
  have HB1 := Lib.hid hb1
  clear h1 hs1 hb1
  go_wp2_with fail
  obtain ⟨w2, hw2⟩ : ∃ w2, w2 = w1.alloc (.cells #[.int .u8 4] 5) := ⟨_, rfl⟩
  have HB2 : Hid (Below w.heap.size w w2) := by show Below _ _ _; rw [hw2]; exact HB1.out.alloc HB1.out.size _
  have HS2 : Hid (BSl w2 (some ⟨w1.heap.size, 0, none⟩) 1 [4]) := by show BSl _ _ _ _; rw [hw2]; exact lit_row [4] b4 (by decide)
  rw [← hw2]
  clear hw2
  refine (best_any (some ⟨w1.heap.size, 0, none⟩) 1 [4] w2 HS2.out.row b4 (by decide)).mono ?_
  intro e w3 h3
  obtain ⟨A3, c3, rfl, hs3, hb3⟩ := h3.out b4
  rw [best_single b4 rfl] at hs3 ⊢
  have HB3 := Lib.hid (below_tr HB2.out hb3)
  have HS3 := Lib.hid hs3
  clear h3 hs3 hb3
  go_wp2_with fail
  obtain ⟨w4, hw4⟩ : ∃ w4, w4 = w3.alloc (.cells #[.int .u8 9, .int .u8 9] 5) := ⟨_, rfl⟩
  have HB4 : Hid (Below w.heap.size w w4) := by show Below _ _ _; rw [hw4]; exact HB3.out.alloc HB3.out.size _
  have HB34 : Hid (Below w3.heap.size w3 w4) := by show Below _ _ _; rw [hw4]; exact (Below.refl _ _).alloc (Nat.le_refl _) _
  have HS4 : Hid (BSl w4 (some ⟨w3.heap.size, 0, none⟩) 2 [9, 9]) := by show BSl _ _ _ _; rw [hw4]; exact lit_row [9, 9] b99 (by decide)
  rw [← hw4]
  clear hw4
  refine (best_any (some ⟨w3.heap.size, 0, none⟩) 2 [9, 9] w4 HS4.out.row b99 (by decide)).mono ?_
  intro e w5 h5
  obtain ⟨A5, c5, rfl, hs5, hb5⟩ := h5.out b99
  rw [best_alike b99 (by decide) (by decide)] at hs5 ⊢
  have HB5 := Lib.hid (below_tr HB4.out hb5)
  have h35 := below_tr HB34.out hb5
  have v1 : (convert 22 9 (.slice A3 1 c3)).run Tryz.prog w5 = .ok (.string ⟨#[4]⟩) w5 := (HS3.out.below h35).str
  have v2 : (convert 22 9 (.slice A5 1 c5)).run Tryz.prog w5 = .ok (.string ⟨#[9]⟩) w5 := hs5.str
  clear h5 hs5 hb5 h35
  go_wp2_with fail
  go_ret
  exact ⟨rfl, HB5.out⟩
end Go.Proofs.YtdkemdcflbadhaaGreat
namespace Go.Proofs.YtdkemdcflbadhaaGreat
open Go.RowKit Go.IntWalk Go.Proofs.YtdkemdcflbadhaaGreatW.PrintWords Go.Proofs.YtdkemdcflbadhaaGreat.PRef
theorem rBytes_any (A : Option Addr) (cp n : Nat) (l : List Bool) (w : World) (hr : Kd.bool.C w A n l) (hn : l.length = n) (hc : l.length ≤ cp) (hl : l.length ≤ 1000000) : Calls Tryz.prog 59 #[.slice A n cp] w (MadeU (packB l) w) := by
  subst hn
  obtain ⟨k, hk⟩ := (refBytes_eq l hl).rounds
  exact puncheonref01_Bytes.calls k A cp l _ w hr hc hk
set_option maxRecDepth 100000 in
theorem rEnc18_none (A : Option Addr) (cp : Nat) (w : World) : Calls Tryz.prog 96 #[.slice A 0 cp] w (Told 1 [] w) := by
  go_enter Tryz.func96, Tryz.ntmps96
  go_wp2_with fail
  go_ret2
  exact Told.nil 1 (Below.refl _ _)
set_option maxRecDepth 100000 in
set_option maxHeartbeats 2000000 in
theorem rEnc18_any (A : Option Addr) (cp : Nat) (b : List Int) (w : World) (hr : (Kd.int .u8).C w A b.length b) (hc : b.length ≤ cp) (hb : Bytes b) (hl : b.length ≤ 5000) (h0 : 0 < b.length) :
    Calls Tryz.prog 96 #[.slice A b.length cp] w (Told 0 (body0L b) w) := by
  have d1 : ((b.length : Int) == 0) = false := by simp; intro e; subst e; simp at h0
  have d2 : decide ((131072 : Int) < (b.length : Int)) = false := decide_eq_false (by omega)
  have HZ := Lib.hid (rZero_any A cp b w hr hc hb (by omega) h0)
  have HR := Lib.hid (And.intro hr (And.intro hc (And.intro hb hl)))
  have HCan : Hid (canM (zeroR b : Nat) true [zeroQ b] b = true) := of_can (one := true) hb (by omega) h0
  have HN := Lib.hid (zero_nrm hb (by omega) h0)
  have HFit := Lib.hid (encBits_len (can_log HCan.out).1 hb)
  have HB : Hid (body0L b = packB (lowBits (zeroR b) 8 ++ hdrB (zeroQ b) 257 0 (2 ^ zeroR b)) ++ packB (encBits (zeroR b : Nat) true [zeroQ b] b ++ [true])) := Lib.hid (by unfold body0L headB; rfl)
  obtain ⟨Bd, hBd⟩ : ∃ B, B = body0L b := ⟨_, rfl⟩
  rw [← hBd] at HB ⊢
  obtain ⟨r, hrz⟩ : ∃ r, r = zeroR b := ⟨_, rfl⟩
  obtain ⟨q, hqz⟩ : ∃ q, q = zeroQ b := ⟨_, rfl⟩
  rw [← hrz, ← hqz] at HZ HCan HN HFit HB
  have hr12 : r ≤ 12 := HN.out.r12
  have hwr : IntKind.u32.wrap (r : Int) = (r : Int) := by rw [IntKind.wrap_u32']; omega
  obtain ⟨hd, hhd⟩ : ∃ l, l = lowBits r 8 ++ hdrB q 257 0 (2 ^ r) := ⟨_, rfl⟩
  have HHd : Hid (hd.length ≤ 880000) := Lib.hid (by
    have hn := HN.out
    have e2 : (2 : Int) ^ r = ((2 ^ r : Nat) : Int) := by simp
    have h1 := hdrB_len hn.r12 hn.len hn.nn 257 0 (2 ^ r) (by omega) (by rw [List.drop_zero, hn.sum, e2]) (by rw [Nat.pow_succ]; have := Nat.two_pow_pos r; omega)
    have h2 : (256 - 0) * (r + 3) ≤ 256 * 15 := Nat.mul_le_mul (by omega) (by omega)
    rw [hhd, List.length_append, lowBits_len]; omega)
  have HHD := Lib.hid hhd
  rw [← hhd] at HB
  obtain ⟨Pl, hPl⟩ : ∃ P, P = packB (encBits (r : Nat) true [q] b ++ [true]) := ⟨_, rfl⟩
  have HPl := Lib.hid hPl
  have HPll : Hid (Pl.length ≤ 700000) := Lib.hid (by
    rw [hPl, packB_len, List.length_append]
    have := HFit.out; simp only [List.length_singleton]; omega)
  rw [← hPl] at HB
  obtain ⟨Hp, hHp⟩ : ∃ P, P = packB hd := ⟨_, rfl⟩
  have HHp := Lib.hid (And.intro hHp (show Hp.length ≤ 200000 from by rw [hHp, packB_len]; have := HHd.out; omega))
  rw [← hHp] at HB
  clear hr hc hb hl h0 hBd hrz hqz hhd hPl hHp
  go_enter Tryz.func96, Tryz.ntmps96
  go_wp2_with fail
  refine HZ.out.mono ?_
  rintro e w1 ⟨v, rfl, hv, hb1⟩
  obtain ⟨Am, cm, rfl⟩ := Kd.R_slice hv
  have hv1 := hv
  obtain ⟨w2, hw2⟩ : ∃ w2, w2 = w1.alloc (.cells #[.int .i64 r, .bool true, .slice Am 1 cm] 31) := ⟨_, rfl⟩
  have hM : MAt w1.heap.size r true Am cm [q] w2 := by rw [hw2]; exact MAt.new (lg := (r : Int)) (one := true) (qs := [q]) hv
  have HB2 := Lib.hid (show Below w.heap.size w w2 from by rw [hw2]; exact hb1.alloc hb1.size _)
  obtain ⟨mb, hmb⟩ : ∃ m, m = w1.heap.size := ⟨_, rfl⟩
  rw [← hmb] at hM
  have HM := Lib.hid hM
  have HCm := Lib.hid (show 1 ≤ cm from (Kd.R_reads' hv).2.1)
  obtain ⟨⟨m0, m1, m2⟩, _⟩ := cell3 hM.blk
  clear hv hv1 hb1 hM
  have HP1 := Lib.hid (rPut_any none 0 [] r 8 w2 (Kd.R_reads' (Kd.R_nil Kd.bool 4 w2 w2.heap.size (fun _ => True))).2.2 (by decide) (by decide) (by omega) (by decide))
  rw [List.nil_append] at HP1
  subst hw2
  rw [hmb] at m0 m1 m2
  go_wp2_with fail
  obtain ⟨w2, hw2⟩ : ∃ w2, w2 = w1.alloc (.cells #[.int .i64 r, .bool true, .slice Am 1 cm] 31) := ⟨_, rfl⟩
  rw [← hw2] at HB2 HM HP1 ⊢
  rw [← hmb]
  clear m0 m1 m2 hw2 hmb
  obtain ⟨h8, hh8⟩ : ∃ l, l = lowBits r 8 := ⟨_, rfl⟩
  have HH8 : Hid (h8.length = 8) := Lib.hid (by rw [hh8]; exact lowBits_len _ _)
  rw [← hh8] at HP1 HHD
  clear hh8
  refine HP1.out.mono ?_
  intro e w3 h3
  obtain ⟨A3, c3, rfl, hC3, hc3, hb3⟩ := h3.out
  have HM3 := Lib.hid (HM.out.later hb3)
  have HB3 := Lib.hid (below_tr HB2.out hb3)
  obtain ⟨⟨m0, m1, m2⟩, _⟩ := cell3 HM3.out.blk
  obtain ⟨ad, B, cq, hA3, hcq, hcql, hCq⟩ := kq_at HM3.out.row 0 (by simp)
  subst hA3
  rw [Addr.add_zero'] at hcq
  have hql : (([q] : List (List Int)).getD 0 []).length = 256 := HN.out.len
  rw [hql] at hcq hcql hCq
  have HP15 := Lib.hid (rPut15_any A3 B c3 cq r h8 q w3 hC3 hc3 (by rw [HN.out.len]; exact hCq) (by rw [HN.out.len]; exact hcql) HN.out (by rw [HH8.out]; decide))
  rw [← HHD.out] at HP15
  clear h3 hC3 hc3 hb3 hcql hCq hql
  go_wp2_with fail
  refine HP15.out.mono ?_
  rintro e w4 ⟨A4, c4, rfl, hC4, hc4, hb4⟩
  have HBy := Lib.hid (rBytes_any A4 c4 hd.length hd w4 hC4 rfl hc4 (by have := HHd.out; omega))
  rw [← HHp.out.1] at HBy
  have HB4 := Lib.hid (below_tr HB3.out hb4)
  have HM4 := Lib.hid (HM3.out.later hb4)
  clear hC4 hc4 hb4 m0 m1 m2 hcq
  go_wp2_with fail
  refine HBy.out.mono ?_
  rintro e w5 ⟨v5, rfl, hv5, hb5⟩
  obtain ⟨A5, c5, rfl⟩ := Kd.R_slice hv5
  have HM5 := Lib.hid (HM4.out.later hb5)
  have HB5 := Lib.hid (below_tr HB4.out hb5)
  have HO5 := Lib.hid (Kd.R_lower hv5 HB4.out.size)
  obtain ⟨⟨m0, m1, m2⟩, _⟩ := cell3 HM5.out.blk
  have HEn := Lib.hid (rEncode_any r true (some ad) cm [q] A cp b w5 HM5.out.row HCm.out (by simp) (Kd.C_below HR.out.1 HB5.out) HR.out.2.1 HR.out.2.2.1 HR.out.2.2.2)
  clear hv5 hb5
  go_wp2_with fail
  refine HEn.out.mono ?_
  rintro e w6 ⟨_, h2, hb6⟩
  obtain ⟨v6, rfl, hv6⟩ := h2 HCan.out
  rw [← HPl.out] at hv6
  obtain ⟨A6, c6, rfl⟩ := Kd.R_slice hv6
  have HO6 := Lib.hid (Kd.R_below HO5.out hb6)
  have HD6 := Lib.hid (Kd.R_reads' hv6).2.2
  have HB6 := Lib.hid (below_tr HB5.out hb6)
  have HS6 := Lib.hid HB6.out.size
  have HL6 : Hid ((Hp.length + Pl.length) * 1 ≤ 140737488355328) := Lib.hid (by have := HHp.out.2; have := HPll.out; omega)
  clear h2 hv6 hb6
  go_wp2_with (at_builtin; refine Kd.R_append_rows (Kd.int .u8) (Rr := (Kd.int .u8).K w6) (w0 := w) (W := w6) w.heap.size rfl (.tmp 36) (.tmp 37) 22 5 (.int .u8 0) 1 rfl Tryz.underlying22 infoU8 rfl (by decide) (by decide) (.slice A5 Hp.length c5) Hp Pl A6 Pl.length c6 (fun _ => True) (fun _ => False) rfl rfl HO6.out HD6.out (fun _ _ h => h) (fun _ h => h.elim) (fun _ _ => trivial) HB6.out HS6.out HL6.out ?_; intro v7 w7 hr7 hb7 hg7 hat7; rw [← HB.out] at hr7; obtain ⟨A7, c7, rfl⟩ := Kd.R_slice hr7; have HA7 := Lib.hid (And.intro hr7 hb7); clear hr7 hb7 hg7 hat7)
  go_ret2
  exact ⟨A7, c7, rfl, HA7.out.1, HA7.out.2⟩
end Go.Proofs.YtdkemdcflbadhaaGreat
namespace Go.Proofs.YtdkemdcflbadhaaGreat
open Go.RowKit Go.IntWalk Go.Proofs.YtdkemdcflbadhaaGreatW.PrintWords
theorem byteL_set : ∀ (l : List Bool) (k : Nat), k < l.length → l.getD k false = false → byteL (l.set k true) = byteL l + 2 ^ k
  | [], k, h, _ => by simp at h
  | b :: l, 0, _, h => by
    have hb : b = false := h
    subst hb
    show (true.toNat + 2 * byteL l) = (false.toNat + 2 * byteL l) + 1
    simp; omega
  | b :: l, k + 1, h, h2 => by
    have ih := byteL_set l k (by simpa using h) h2
    show b.toNat + 2 * byteL (l.set k true) = (b.toNat + 2 * byteL l) + 2 ^ (k + 1)
    rw [ih, Nat.pow_succ]; omega
theorem packB_set {l : List Bool} {c : Nat} (hc : c < l.length) (h : l.getD c false = false) : packB (l.set c true) = (packB l).set (c / 8) ((packB l).getD (c / 8) 0 + ((2 ^ (c % 8) : Nat) : Int)) := by
  have hl : (packB (l.set c true)).length = (packB l).length := by rw [packB_len, packB_len, List.length_set]
  have hcl : c / 8 < (packB l).length := by rw [packB_len]; omega
  refine List.ext_getElem (by rw [List.length_set]; exact hl) fun j h1 h2 => ?_
  rw [packB_at, List.getElem_set, List.drop_set]
  by_cases hj : c / 8 = j
  · subst hj
    rw [if_pos rfl, if_neg (by omega), List.take_set]
    have hdl : (l.drop (8 * (c / 8))).length = l.length - 8 * (c / 8) := List.length_drop
    have hk : c - 8 * (c / 8) = c % 8 := by omega
    rw [hk, byteL_set _ _ (by rw [List.length_take]; omega) (by
      rw [List.getD_eq_getElem?_getD, List.getElem?_take, if_pos (by omega), List.getElem?_drop, show 8 * (c / 8) + c % 8 = c by omega, ← List.getD_eq_getElem?_getD]; exact h)]
    rw [List.getD_eq_getElem?_getD, List.getElem?_eq_getElem hcl, Option.getD_some, packB_at]
    simp
  · rw [if_neg hj]
    have hjl : j < (packB l).length := by rw [← hl]; exact h1
    rw [packB_at]
    by_cases h8 : c < 8 * j
    · rw [if_pos h8]
    · rw [if_neg h8, List.take_set, List.set_eq_of_length_le]
      rw [List.length_take]; omega
theorem dirB_step {l : List Int} (hA : Asc l) {i c : Nat} (hi : i < l.length) (hc : l.getD i 0 = (c : Int)) (hc256 : c < 256) : dirB (l.take (i + 1)) = (dirB (l.take i)).set c true ∧ (dirB (l.take i)).getD c false = false := by
  have ht : l.take (i + 1) = l.take i ++ [(c : Int)] := by rw [List.take_succ_eq_append_getElem hi, ← hc, List.getD_eq_getElem?_getD, List.getElem?_eq_getElem hi, Option.getD_some]
  constructor
  · refine List.ext_getElem (by rw [List.length_set, dirB_len, dirB_len]) fun j h1 h2 => ?_
    rw [List.getElem_set]
    simp only [dirB, List.getElem_map, List.getElem_range, ht]
    by_cases e : c = j
    · subst e; rw [if_pos rfl]; simp
    · rw [if_neg e]
      have : ((j : Int) ∈ l.take i ++ [(c : Int)]) ↔ (j : Int) ∈ l.take i := by
        rw [List.mem_append, List.mem_singleton]
        constructor
        · rintro (h | h)
          · exact h
          · omega
        · exact Or.inl
      rw [Bool.eq_iff_iff]; simp [this]
  · rw [dirB_get _ hc256]
    refine decide_eq_false (fun hm => ?_)
    obtain ⟨j, hj, e⟩ := mem_getD hm
    rw [List.length_take] at hj
    rw [List.getD_eq_getElem?_getD, List.getElem?_take, if_pos (by omega), ← List.getD_eq_getElem?_getD] at e
    have := hA.lt' (show j < i by omega) hi
    omega
theorem dirL_step {l : List Int} (hA : Asc l) {i c : Nat} (hi : i < l.length) (hc : l.getD i 0 = (c : Int)) (hc256 : c < 256) : dirL (l.take (i + 1)) = (dirL (l.take i)).set (c / 8) ((dirL (l.take i)).getD (c / 8) 0 + ((2 ^ (c % 8) : Nat) : Int)) := by
  obtain ⟨h1, h2⟩ := dirB_step hA hi hc hc256
  unfold dirL
  rw [h1, packB_set (by rw [dirB_len]; exact hc256) h2]
theorem dirL_nil (l : List Int) : dirL (l.take 0) = List.replicate 32 0 := by
  rw [List.take_zero]; decide +kernel
theorem dirL_bytes (l : List Int) : Bytes (dirL l) := packB_bytes _
def DirAt (w : World) (g : Nat) (L : List Int) (wr : World) : Prop := (Kd.int .u8).R 5 wr w.heap.size (fun _ => True) (.slice (some ⟨g, 0, none⟩) 32 32) L ∧ Below w.heap.size w wr
set_option maxRecDepth 100000 in
set_option maxHeartbeats 2000000 in
theorem rPut19_any (A : Option Addr) (cp : Nat) (l : List Int) (w : World) (hr : (Kd.int .i64).C w A l.length l) (hA : Asc l) (hll : l.length ≤ 256) :
    Calls Tryz.prog 56 #[.slice A l.length cp] w (fun e w' => ∃ c, ∃ Ad, e = .returned (.tuple #[.slice Ad 32 c, .bool true]) ∧ (Kd.int .u8).C w' Ad 32 (dirL l) ∧ 32 ≤ c ∧ Below w.heap.size w w') := by
  have HR := Lib.hid hr
  have HA := Lib.hid hA
  have hpos := hA.pos
  have hlp : ((l.length : Int) == 0) = false := by simp; intro e; subst e; simp at hpos
  obtain ⟨ad, hA0, hc0⟩ := ints_get hr 0 hpos
  rw [hA.zero] at hc0
  subst hA0
  have e0 : ad.add 0 = ad := by simp [Addr.add]
  have hc00 : w.cell? ad = some (.int .i64 0) := by rw [e0] at hc0; exact hc0
  have hl0 : (0 : Int) < (l.length : Int) := by omega
  have hmk := made_u8 32 (by decide)
  have hmk2 : ∀ w : World, (Instr.makeSlice 22 (.int .i64 32) (.int .i64 32)).run Tryz.prog w = .ok (.slice (some ⟨w.heap.size, 0, none⟩) 32 32) (w.alloc (.cells (madeCells #[.int .u8 0] 32) 5)) := fun w => hmk w
  obtain ⟨W, hW⟩ : ∃ W, W = w.alloc (.cells (madeCells #[.int .u8 0] 32) 5) := ⟨_, rfl⟩
  have H0 : Hid (DirAt w w.heap.size (dirL (l.take 0)) W) := Lib.hid ⟨by rw [dirL_nil, hW]; exact made_row 32 (by decide) w (fun _ => True) trivial w.heap.size (Nat.le_refl _), by rw [hW]; exact (Below.refl _ _).alloc (Nat.le_refl _) _⟩
  obtain ⟨g, hg⟩ : ∃ g, g = w.heap.size := ⟨_, rfl⟩
  rw [← hg] at H0
  have HG := Lib.hid hg
  clear hr hA hpos hmk
  go_enter Tryz.func56, Tryz.ntmps56
  go_wp2_with fail
  rw [← hW, ← hg]
  clear hW hg hc0 hc00 e0
  go_wp2_with fail
  go_loopw [5] (fun iv wr => ∃ i : Nat, i ≤ l.length ∧ iv = .int .i64 i ∧ Hid (DirAt w g (dirL (l.take i)) wr)) (fun iv _ => l.length - (intOf iv).toNat)
  case atStart => exact ⟨0, by omega, rfl, H0⟩
  case round =>
    obtain ⟨i, hi, rfl, H⟩ := hrel
    by_cases hlt : i < l.length
    · obtain ⟨c, hc, hc256⟩ := HA.out.get hlt
      have hrow := Kd.C_below HR.out H.out.2
      obtain ⟨ad2, hA2, hcell⟩ := ints_get hrow i hlt
      injection hA2 with hA2
      subst hA2
      rw [hc] at hcell
      have HStep := Lib.hid (dirL_step HA.out hlt hc hc256)
      obtain ⟨q, hq⟩ : ∃ q, q = c / 8 := ⟨_, rfl⟩
      obtain ⟨j, hj⟩ : ∃ j, j = c % 8 := ⟨_, rfl⟩
      rw [← hq, ← hj] at HStep
      obtain ⟨cx, fx⟩ := ints_cells H.out.1 q (by omega)
      have hyb := (dirL_bytes (l.take i)).get q
      obtain ⟨y, hy⟩ : ∃ y : Nat, (dirL (l.take i)).getD q 0 = y := ⟨((dirL (l.take i)).getD q 0).toNat, by omega⟩
      have hnb := (dirL_bytes (l.take (i + 1))).get q
      rw [HStep.out, getD_setE _ _ _ _ (by rw [dirL_len]; omega), if_pos rfl] at hnb
      rw [hy] at cx HStep hyb hnb
      have hqI : (c : Int) / 8 = (q : Int) := by omega
      have hqT : (c : Int).tdiv 8 = (q : Int) := by rw [Int.tdiv_eq_ediv_of_nonneg (by omega)]; exact hqI
      have hjI : (c : Int) % 8 = (j : Int) := by omega
      have hjT : (c : Int).tmod 8 = (j : Int) := by rw [Int.tmod_eq_emod_of_nonneg (by omega)]; exact hjI
      have hqw : IntKind.i64.wrap (q : Int) = (q : Int) := i64_in _ (by omega)
      have hjw : IntKind.i64.wrap (j : Int) = (j : Int) := i64_in _ (by omega)
      have hj8 : j < 8 := by omega
      have hj0 : ¬ (j : Int) < 0 := by omega
      have hq32 : (q : Int) < 32 := by omega
      have d1 : decide ((c : Int) < 0) = false := decide_eq_false (by omega)
      have d2 : decide ((255 : Int) < (c : Int)) = false := decide_eq_false (by omega)
      have hiI : (i : Int) < (l.length : Int) := by omega
      have HH := Lib.hid H.out
      have HP : Hid (((y : Int) + 2 ^ j) % 256 = (y : Int) + ((2 ^ j : Nat) : Int)) := Lib.hid (by
        have h8 : 2 ^ j < 2 ^ 8 := Nat.pow_lt_pow_right (by omega) hj8
        rw [show ((2 : Int) ^ j) = ((2 ^ j : Nat) : Int) by simp]
        generalize 2 ^ j = P at h8 hnb ⊢
        omega)
      have HHIi := Lib.hid hlt
      have HCC := Lib.hid hc
      have HRW := Lib.hid hrow
      have hrelN : ∀ w1 : World, Kd.R (.int .u8) 5 w1 w.heap.size (fun _ => True) (.slice (some ⟨g, 0, none⟩) 32 32) ((dirL (l.take i)).set q ((y : Int) + ((2 ^ j : Nat) : Int))) → Below w.heap.size w w1 → ∃ i' : Nat, i' ≤ l.length ∧ (Value.int .i64 ((i : Int) + 1)) = .int .i64 i' ∧ Hid (DirAt w g (dirL (l.take i')) w1) := fun w1 h1 h2 => ⟨i + 1, HHIi.out, by simp, Lib.hid ⟨by rw [HStep.out]; exact h1, h2⟩⟩
      have HRN := Lib.hid hrelN
      clear hrelN hc hq hj hy hyb hnb hrow
      have HST : Hid (∀ n : Nat, Kd.R (.int .u8) 5 ((wr.drewN n).setCell ⟨g, q, none⟩ (.int .u8 (((y : Int) + 2 ^ j) % 256))) w.heap.size (fun _ => True) (.slice (some ⟨g, 0, none⟩) 32 32) ((dirL (l.take i)).set q ((y : Int) + ((2 ^ j : Nat) : Int))) ∧ Below w.heap.size w ((wr.drewN n).setCell ⟨g, q, none⟩ (.int .u8 (((y : Int) + 2 ^ j) % 256)))) := Lib.hid (by
        intro n
        have h9 := Kd.R_putn (Kd.R_below HH.out.1 (pw_below_drewN (Below.refl _ _) n)) (q : Int) ((y : Int) + ((2 ^ j : Nat) : Int))
        rw [HP.out]
        simp only [Int.toNat_natCast] at h9
        exact ⟨h9, (pw_below_drewN HH.out.2 n).setCell (p := ⟨g, q, none⟩) (by rw [HG.out]; exact Nat.le_refl _) _⟩)
      rcases Nat.eq_zero_or_pos i with h0 | h0
      · subst h0
        have e0 : ad.add 0 = ad := by simp [Addr.add]
        have hcell0 : wr.cell? ad = some (.int .i64 c) := by rw [e0] at hcell; exact hcell
        go_wp2_with fail
        go_quiet (fail)
        go_wp2_with fail
        go_region
        go_wp2_with fail
        go_roundw
        case rel =>
          exact HRN.out _ (HST.out _).1 (HST.out _).2
        case measure => simp [intOf]; omega
      · obtain ⟨b, hb, hb256⟩ : ∃ b : Nat, l.getD (i - 1) 0 = b ∧ b < 256 := HA.out.get (by omega)
        have hlt2 : b < c := by have := HA.out.lt' (show i - 1 < i by omega) hlt; rw [HCC.out, hb] at this; omega
        obtain ⟨k, hk⟩ : ∃ k, k = i - 1 := ⟨_, rfl⟩
        rw [← hk] at hb
        obtain ⟨ad3, hA3, hcell3⟩ := ints_get HRW.out k (by omega)
        injection hA3 with hA3
        subst hA3
        rw [hb] at hcell3
        have d4 : decide ((0 : Int) < (i : Int)) = true := decide_eq_true (by omega)
        have d5 : decide (c ≤ b) = false := decide_eq_false (by omega)
        have k1 : (i : Int) - 1 = (k : Int) := by omega
        have k2 : IntKind.i64.wrap (k : Int) = (k : Int) := i64_in _ (by omega)
        have k3 : (k : Int) < (l.length : Int) := by omega
        have k4 : ¬ (k : Int) < 0 := by omega
        clear hb hlt2 hk
        go_wp2_with fail
        go_quiet (fail)
        go_wp2_with fail
        go_region
        go_wp2_with fail
        go_roundw
        case rel =>
          exact HRN.out _ (HST.out _).1 (HST.out _).2
        case measure => simp [intOf]; omega
    · obtain rfl : i = l.length := by omega
      have hgo : decide ((l.length : Int) < (l.length : Int)) = false := decide_eq_false (by omega)
      have HF : Hid (DirAt w g (dirL l) wr) := Lib.hid (by have := H.out; rw [List.take_length] at this; exact this)
      go_wp2_with fail
      refine bodyPost_ret (v := .tuple #[.slice (some ⟨g, 0, none⟩) 32 32, .bool true]) ?_ rfl ⟨32, _, rfl, ?_, Nat.le_refl _, HF.out.2⟩
      · simp [results, Tryz.f56, go_sem]
      · have h := (Kd.R_reads' HF.out.1).2.2
        rw [dirL_len] at h
        exact h
end Go.Proofs.YtdkemdcflbadhaaGreat
namespace Go.Proofs.YtdkemdcflbadhaaGreat
open Go.RowKit Go.IntWalk Go.Proofs.YtdkemdcflbadhaaGreatW.PrintWords Go.Proofs.YtdkemdcflbadhaaGreat.PRef
set_option maxRecDepth 100000 in
theorem rEnc20_none (A : Option Addr) (cp : Nat) (w : World) : Calls Tryz.prog 22 #[.slice A 0 cp] w (Told 1 [] w) := by
  go_enter Tryz.func22, Tryz.ntmps22
  go_wp2_with fail
  go_ret2
  exact Told.nil 1 (Below.refl _ _)
def BoolsAt (w : World) (xs : List Bool) (v : Value) (wr : World) : Prop := ∃ A c, v = .slice A xs.length c ∧ Kd.bool.C wr A xs.length xs ∧ xs.length ≤ c ∧ Below w.heap.size w wr
theorem BoolsAt.drew {w : World} {xs : List Bool} {v : Value} {wr : World} (h : BoolsAt w xs v wr) : BoolsAt w xs v wr.drew := by
  obtain ⟨A, c, h1, h2, h3, h4⟩ := h
  exact ⟨A, c, h1, Kd.C_drew h2, h3, below_drew h4⟩
set_option maxRecDepth 100000 in
set_option maxHeartbeats 2000000 in
theorem rEnc20_of (A : Option Addr) (cp : Nat) (b : List Int) (w : World) (hr : (Kd.int .u8).C w A b.length b) (hc : b.length ≤ cp) (hb : Bytes b) (hl : b.length ≤ 5000) (h0 : 0 < b.length)
    (hF : Calls Tryz.prog 54 #[.slice A b.length cp] w (MadeM (firstR b) false (firstL b) w))
    (hP : ∀ w1, Below w.heap.size w w1 → Calls Tryz.prog 55 #[.slice A b.length cp] w1 (MadeI (presN b 256) w1)) :
    Calls Tryz.prog 22 #[.slice A b.length cp] w (Told 0 (body1L b) w) := by
  have d1 : ((b.length : Int) == 0) = false := by simp; intro e; subst e; simp at h0
  have d2 : decide ((131072 : Int) < (b.length : Int)) = false := decide_eq_false (by omega)
  have HF := Lib.hid hF
  have HPr := Lib.hid hP
  have HR := Lib.hid (And.intro hr (And.intro hc (And.intro hb hl)))
  have HCan : Hid (canM (firstR b : Nat) false (firstL b) b = true) := of_can (one := false) hb (by omega) h0
  have HNr := Lib.hid (first_nrm hb (by omega : b.length ≤ 1000000))
  have HFit := Lib.hid (encBits_len (can_log HCan.out).1 hb)
  have HRok := Lib.hid (firstR_ok b)
  have HB : Hid (body1L b = [(firstR b : Int)] ++ dirL (presN b 256) ++ packB (hdrsB (firstR b) (firstL b) (presN b 256)) ++ packB (encBits (firstR b : Nat) false (firstL b) b ++ [true])) := Lib.hid rfl
  obtain ⟨Bd, hBd⟩ : ∃ B, B = body1L b := ⟨_, rfl⟩
  rw [← hBd] at HB ⊢
  have HQl := Lib.hid (firstL_len b)
  have HL0 : Hid (Asc (presN b 256) ∧ (presN b 256).length ≤ 256) := Lib.hid ⟨pres_asc h0, presN_len b 256⟩
  obtain ⟨r, hr'⟩ : ∃ r, r = firstR b := ⟨_, rfl⟩
  obtain ⟨q, hq'⟩ : ∃ q, q = firstL b := ⟨_, rfl⟩
  obtain ⟨L, hL⟩ : ∃ L, L = presN b 256 := ⟨_, rfl⟩
  have HLe := Lib.hid hL
  rw [← hr', ← hq'] at HF HCan HFit HNr HB
  rw [← hr'] at HRok
  rw [← hq'] at HQl
  rw [← hL] at HNr HB HL0
  obtain ⟨D, hD⟩ : ∃ D, D = dirL L := ⟨_, rfl⟩
  have HD := Lib.hid (And.intro hD (show D.length = 32 by rw [hD]; exact dirL_len L))
  rw [← hD] at HB
  obtain ⟨hd, hhd⟩ : ∃ l, l = hdrsB r q L := ⟨_, rfl⟩
  have hbl := hdrsB_len (r := r) (qs := q) (by have := HRok.out; omega) L HNr.out
  have HHd := Lib.hid (And.intro hhd (show hd.length ≤ 800000 by rw [hhd]; have := HL0.out.2; omega))
  rw [← hhd] at HB
  obtain ⟨X, hX⟩ : ∃ P, P = packB hd := ⟨_, rfl⟩
  have HX := Lib.hid (And.intro hX (show X.length ≤ 200000 by rw [hX, packB_len]; have := HHd.out.2; omega))
  rw [← hX] at HB
  obtain ⟨Pl, hPl⟩ : ∃ P, P = packB (encBits (r : Nat) false q b ++ [true]) := ⟨_, rfl⟩
  have HPl := Lib.hid (And.intro hPl (show Pl.length ≤ 700000 by
    rw [hPl, packB_len, List.length_append]
    have := HFit.out; simp only [List.length_singleton]; omega))
  rw [← hPl] at HB
  have hrw : IntKind.u8.wrap (r : Int) = (r : Int) := by rw [IntKind.wrap_u8]; have := HRok.out; omega
  clear hF hP hr hc hb hl h0 hBd hr' hq' hL hD hhd hbl hX hPl
  go_enter Tryz.func22, Tryz.ntmps22
  go_wp2_with fail
  refine HF.out.mono ?_
  rintro e w1 ⟨v, rfl, hv, hb1⟩
  obtain ⟨Am, cm, rfl⟩ := Kd.R_slice hv
  obtain ⟨w2, hw2⟩ : ∃ w2, w2 = w1.alloc (.cells #[.int .i64 r, .bool false, .slice Am q.length cm] 31) := ⟨_, rfl⟩
  have hM : MAt w1.heap.size r false Am cm q w2 := by rw [hw2]; exact MAt.new (lg := (r : Int)) (one := false) (qs := q) hv
  have HB2 := Lib.hid (show Below w.heap.size w w2 from by rw [hw2]; exact hb1.alloc hb1.size _)
  obtain ⟨mb, hmb⟩ : ∃ m, m = w1.heap.size := ⟨_, rfl⟩
  rw [← hmb] at hM
  have HM := Lib.hid hM
  have HCm := Lib.hid (show q.length ≤ cm from (Kd.R_reads' hv).2.1)
  clear hv hb1 hM
  have HP1 := Lib.hid (HPr.out w2 HB2.out)
  rw [← HLe.out] at HP1
  go_wp2_with fail
  rw [← hw2, ← hmb]
  clear hw2 hmb
  refine HP1.out.mono ?_
  rintro e w3 ⟨v3, rfl, hv3, hb3⟩
  obtain ⟨Al, cl, rfl⟩ := Kd.R_slice hv3
  have HV3 := Lib.hid (Kd.R_reads' hv3).2.2
  have HB3 := Lib.hid (below_tr HB2.out hb3)
  have HM3 := Lib.hid (HM.out.later hb3)
  have HP19 := Lib.hid (rPut19_any Al cl L w3 HV3.out HL0.out.1 HL0.out.2)
  rw [← HD.out.1] at HP19
  clear hv3 hb3
  go_wp2_with fail
  refine HP19.out.mono ?_
  rintro e w4 ⟨c4, A4, rfl, hC4, hc4, hb4⟩
  have HB4 := Lib.hid (below_tr HB3.out hb4)
  have HM4 := Lib.hid (HM3.out.later hb4)
  have HV4 := Lib.hid (Kd.C_below HV3.out hb4)
  have HD4 := Lib.hid (And.intro hC4 hc4)
  clear hC4 hc4 hb4
  go_wp2_with fail
  go_loopw [8, 9] (fun bv iv wr => ∃ i : Nat, i ≤ L.length ∧ iv = .int .i64 i ∧ Hid (BoolsAt w4 (hdrsB r q (L.take i)) bv wr)) (fun _ iv _ => L.length - (intOf iv).toNat)
  case atStart => exact ⟨0, by omega, rfl, Lib.hid ⟨none, 0, rfl, (Kd.R_reads' (Kd.R_nil Kd.bool 4 w4 w4.heap.size (fun _ => True))).2.2, by simp [hdrsB], Below.refl _ _⟩⟩
  case round =>
    obtain ⟨i, hiL, rfl, HW⟩ := hrel
    obtain ⟨A5, c5, rfl, hC5, hc5, hbw⟩ := HW.out
    have HMr := HM4.out.later hbw
    obtain ⟨⟨m0, m1, m2⟩, -⟩ := cell3 HMr.blk
    by_cases hlt : i < L.length
    · obtain ⟨cx, hc, hc256⟩ := HL0.out.1.get hlt
      obtain ⟨adl, hA2, hcx⟩ := ints_get (Kd.C_below HV4.out hbw) i hlt
      subst hA2
      rw [hc] at hcx
      have hm := hd_mem hlt
      rw [hc] at hm
      have hn := HNr.out _ hm
      rw [Int.toNat_natCast] at hn
      obtain ⟨aq, B, cq, hA3, hcq, hcql, hCq⟩ := kq_at HMr.row cx (by rw [HQl.out]; exact hc256)
      subst hA3
      rw [hn.len] at hcq
      have ht : L.take (i + 1) = L.take i ++ [(cx : Int)] := by rw [List.take_succ_eq_append_getElem hlt, ← hc, List.getD_eq_getElem?_getD, List.getElem?_eq_getElem hlt, Option.getD_some]
      have HS := Lib.hid (show hdrsB r q (L.take (i + 1)) = hdrsB r q (L.take i) ++ hdrB (q.getD cx []) 257 0 (2 ^ r) by rw [ht, hdrsB_app, Int.toNat_natCast])
      have hlb := hdrsB_len (r := r) (qs := q) (by have := HRok.out; omega) (L.take i) (fun x hx => HNr.out x (List.mem_of_mem_take hx))
      have hlb2 : (hdrsB r q (L.take i)).length ≤ 800000 := by rw [List.length_take] at hlb; have := HL0.out.2; omega
      obtain ⟨pb, hpb⟩ : ∃ l, l = hdrsB r q (L.take i) := ⟨_, rfl⟩
      rw [← hpb] at hC5 hc5 hlb2 HS ⊢
      have HPut : Hid (∀ W : World, SLater wr W → Calls Tryz.prog 57 #[.slice A5 pb.length c5, .slice B 256 cq] W fun e w' => ∃ Ax cx', e = .returned (.slice Ax (hdrsB r q (L.take (i + 1))).length cx') ∧ BoolsAt w4 (hdrsB r q (L.take (i + 1))) (.slice Ax (hdrsB r q (L.take (i + 1))).length cx') w' ∧ Below W.heap.size W w') := Lib.hid fun W hW => by
        rw [HS.out]
        refine (rPut15_any A5 B c5 cq r pb (q.getD cx []) W (Kd.C_below hC5 hW) hc5 (Kd.C_below hCq hW) hcql hn hlb2).mono ?_
        rintro e w' ⟨Ax, cx', rfl, h1, h2, h3⟩
        exact ⟨Ax, cx', rfl, ⟨Ax, cx', rfl, h1, h2, below_tr (below_tr hbw hW) h3⟩, h3⟩
      have hI : (i : Int) < (L.length : Int) := by omega
      have hqI : (cx : Int) < (q.length : Int) := by rw [HQl.out]; omega
      have s0 : SLater wr wr := Below.refl _ _
      have hi256 : i ≤ 256 := by have := HL0.out.2; omega
      clear hc hm hn hcql hCq ht hlb hlb2 hpb HS HMr HW hC5 hc5
      go_wp2_with fail
      go_region_law (go_simp; go_at_call 57; refine (HPut.out _ (by first | assumption | exact SLater.drew ‹_›)).mono ?_; rintro e w' ⟨Ax, cx', rfl, hbits, hb⟩; have HBits := Lib.hid hbits; have s1 := (by first | exact SLater.keep ‹_› hb | exact SLater.keep (SLater.drew ‹_›) hb : SLater wr w'); clear hb hbits)
      all_goals
        go_wp2_with fail
        go_roundw
        case rel => exact ⟨i + 1, by omega, by go_num, Lib.hid (by first | exact HBits.out | exact HBits.out.drew)⟩
        case measure => simp [intOf]; omega
    · obtain rfl : i = L.length := by omega
      have hgo : decide ((L.length : Int) < (L.length : Int)) = false := decide_eq_false (by omega)
      rw [List.take_length, ← HHd.out.1] at hC5 hc5 ⊢
      clear m0 m1 m2
      obtain ⟨⟨m0, m1, m2⟩, -⟩ := cell3 HMr.blk
      have HB5 := Lib.hid (below_tr HB4.out hbw)
      have HM5 := Lib.hid HMr
      have HD5 := Lib.hid (Kd.C_below HD4.out.1 hbw)
      have HC5 := Lib.hid (And.intro hC5 hc5)
      have HEn := Lib.hid (rEncode_any r false Am cm q A cp b wr HMr.row HCm.out (by have := HQl.out; omega) (Kd.C_below HR.out.1 HB5.out) HR.out.2.1 HR.out.2.2.1 HR.out.2.2.2)
      clear hC5 hc5 hbw HMr HW
      go_wp2_with fail
      refine HEn.out.mono ?_
      rintro e w6 ⟨_, h2, hb6⟩
      obtain ⟨v6, rfl, hv6⟩ := h2 HCan.out
      rw [← HPl.out.1] at hv6
      obtain ⟨A6, c6, rfl⟩ := Kd.R_slice hv6
      have HB6 := Lib.hid (below_tr HB5.out hb6)
      have HM6 := Lib.hid (HM5.out.later hb6)
      have HD6 := Lib.hid (Kd.C_below HD5.out hb6)
      have HC6 := Lib.hid (Kd.C_below HC5.out.1 hb6)
      have HP6 := Lib.hid (Kd.R_reads' hv6).2.2
      obtain ⟨⟨m0, m1, m2⟩, -⟩ := cell3 HM6.out.blk
      have hWl : Below w6.heap.size w6 (w6.alloc (.cells #[.int .u8 (r : Int)] 5)) := (Below.refl _ _).alloc (Nat.le_refl _) _
      have HWl := Lib.hid (And.intro hWl hWl.size)
      have HO1 : Hid ((Kd.int .u8).R 5 (w6.alloc (.cells #[.int .u8 (r : Int)] 5)) w6.heap.size (fun _ => True) (.slice (some ⟨w6.heap.size, 0, none⟩) 1 1) [(r : Int)]) := Lib.hid (row_lit .u8 5 w6 w6.heap.size (fun _ => True) trivial (Nat.le_refl _) [(r : Int)] (by simp))
      have HDl : Hid ((Kd.int .u8).C (w6.alloc (.cells #[.int .u8 (r : Int)] 5)) A4 32 D) := Lib.hid (Kd.C_alloc HD6.out (.cells #[.int .u8 (r : Int)] 5))
      have HL1 : Hid ((([(r : Int)] : List Int).length + 32) * 1 ≤ 140737488355328) := Lib.hid (by simp)
      have HZ33 : Hid (([(r : Int)] ++ D).length = 33) := Lib.hid (by rw [List.length_append, HD.out.2]; rfl)
      clear h2 hb6 hv6 hWl
      go_wp2_with (at_builtin; refine Kd.R_append_rows (Kd.int .u8) (Rr := (Kd.int .u8).K (w6.alloc (.cells #[.int .u8 (r : Int)] 5))) (w0 := w6) (W := w6.alloc (.cells #[.int .u8 (r : Int)] 5)) w6.heap.size rfl (.tmp 55) (.tmp 56) 22 5 (.int .u8 0) 1 rfl Tryz.underlying22 infoU8 rfl (by decide) (by decide) (.slice (some ⟨w6.heap.size, 0, none⟩) 1 1) [(r : Int)] D A4 32 c4 (fun _ => True) (fun _ => False) rfl rfl HO1.out HDl.out (fun _ _ h => h) (fun _ h => h.elim) (fun _ _ => trivial) HWl.out.1 HWl.out.2 HL1.out ?_; intro v7 w7 hr7 hb7 hg7 hat7; obtain ⟨A7, c7, rfl⟩ := Kd.R_slice hr7; rw [HZ33.out] at hr7 ⊢; have HR7 := Lib.hid (And.intro hr7 hb7); clear hr7 hb7 hg7 hat7)
      obtain ⟨Z, hZ⟩ : ∃ Z, Z = [(r : Int)] ++ D := ⟨_, rfl⟩
      rw [← hZ] at HR7 HB
      have HZ := Lib.hid (show Z.length = 33 by rw [hZ]; exact HZ33.out)
      have HBy := Lib.hid (rBytes_any A5 c5 hd.length hd w7 (Kd.C_below HC6.out HR7.out.2) rfl HC5.out.2 (by have := HHd.out.2; omega))
      rw [← HX.out.1] at HBy
      clear hZ HZ33
      refine HBy.out.mono ?_
      rintro e w8 ⟨v8, rfl, hv8, hb8⟩
      obtain ⟨A8, c8, rfl⟩ := Kd.R_slice hv8
      have HO8 := Lib.hid (Kd.R_below HR7.out.1 hb8)
      have HX8 := Lib.hid (Kd.R_reads' hv8).2.2
      have hb78 := below_tr HR7.out.2 hb8
      have HB8 := Lib.hid hb78
      have HS8 := Lib.hid hb78.size
      have HL8 : Hid ((Z.length + X.length) * 1 ≤ 140737488355328) := Lib.hid (by have := HZ.out; have := HX.out.2; omega)
      obtain ⟨ZX, hZX⟩ : ∃ l, l = Z ++ X := ⟨_, rfl⟩
      rw [← hZX] at HB
      have HZX := Lib.hid hZX
      have HL9 : Hid ((ZX.length + Pl.length) * 1 ≤ 140737488355328) := Lib.hid (by have := HZ.out; have := HX.out.2; have := HPl.out.2; rw [hZX, List.length_append]; omega)
      clear hv8 hb8 hb78 hZX
      go_wp2_with (at_builtin; first
        | (refine Kd.R_append_rows (Kd.int .u8) (Rr := (Kd.int .u8).K w8) (w0 := w6) (W := w8) w6.heap.size rfl (.tmp 58) (.tmp 60) 22 5 (.int .u8 0) 1 rfl Tryz.underlying22 infoU8 rfl (by decide) (by decide) (.slice A7 33 c7) Z X A8 X.length c8 (fun _ => True) (fun _ => False) rfl rfl HO8.out HX8.out (fun _ _ h => h) (fun _ h => h.elim) (fun _ _ => trivial) HB8.out HS8.out HL8.out ?_
           intro v9 w9 hr9 hb9 hg9 hat9
           rw [← HZX.out] at hr9
           obtain ⟨A9, c9, rfl⟩ := Kd.R_slice hr9
           have HR9 := Lib.hid hr9
           have HB9 := Lib.hid hb9
           have HP9 := Lib.hid (Kd.C_below HP6.out hb9)
           have HS9 := Lib.hid hb9.size
           clear hr9 hb9 hg9 hat9)
        | (refine Kd.R_append_rows (Kd.int .u8) (Rr := (Kd.int .u8).K w9) (w0 := w6) (W := w9) w6.heap.size rfl (.tmp 61) (.tmp 62) 22 5 (.int .u8 0) 1 rfl Tryz.underlying22 infoU8 rfl (by decide) (by decide) (.slice A9 ZX.length c9) ZX Pl A6 Pl.length c6 (fun _ => True) (fun _ => False) rfl rfl HR9.out HP9.out (fun _ _ h => h) (fun _ h => h.elim) (fun _ _ => trivial) HB9.out HS9.out HL9.out ?_
           intro v10 w10 hr10 hb10 hg10 hat10
           rw [← HB.out] at hr10
           obtain ⟨A10, c10, rfl⟩ := Kd.R_slice hr10
           have HA10 := Lib.hid (And.intro (Kd.R_lower hr10 HB6.out.size) (below_tr HB6.out hb10))
           clear hr10 hb10 hg10 hat10))
      go_ret2
      exact ⟨A10, c10, rfl, HA10.out.1, HA10.out.2⟩
theorem rEnc20_any (A : Option Addr) (cp : Nat) (b : List Int) (w : World) (hr : (Kd.int .u8).C w A b.length b) (hc : b.length ≤ cp) (hb : Bytes b) (hl : b.length ≤ 5000) (h0 : 0 < b.length) :
    Calls Tryz.prog 22 #[.slice A b.length cp] w (Told 0 (body1L b) w) :=
  rEnc20_of A cp b w hr hc hb hl h0 (rFirst_any A cp b w hr hc hb (by omega)) (fun w1 h => rPres_any A cp b w1 (Kd.C_below hr h) hc hb (by omega))
end Go.Proofs.YtdkemdcflbadhaaGreat
namespace Go.Proofs.YtdkemdcflbadhaaGreat
open Go.RowKit Go.IntWalk Go.Proofs.YtdkemdcflbadhaaGreatW.PrintWords
/-- bytes are handed back, made or as they came in -/
def RTold (k : Int) (y : List Int) (w : World) (e : Ending) (w' : World) : Prop :=
  ∃ A c, e = .returned (.tuple #[.slice A y.length c, .int .i64 k]) ∧ ((Kd.int .u8).C w' A y.length y ∧ y.length ≤ c) ∧ Below w.heap.size w w'
theorem RTold.nil (k : Int) {w w' : World} (hb : Below w.heap.size w w') : RTold k [] w (.returned (.tuple #[.slice none 0 0, .int .i64 k])) w' := ⟨none, 0, rfl, ⟨(Kd.R_reads' (Kd.R_nil (Kd.int .u8) 5 w' w'.heap.size (fun _ => True))).2.2, by simp⟩, hb⟩
theorem Told.rtold {k : Int} {y : List Int} {w : World} {e : Ending} {w' : World} (h : Told k y w e w') : RTold k y w e w' := by
  obtain ⟨A, c, he, hr, hb⟩ := h
  exact ⟨A, c, he, ⟨(Kd.R_reads' hr).2.2, (Kd.R_reads' hr).2.1⟩, hb⟩
theorem alike_of {b : List Int} (h1 : 1 < b.length) (h : ∀ j, j < b.length → b.getD j 0 = b.getD 0 0) : alikeB b = true := by
  unfold alikeB
  rw [decide_eq_true h1, Bool.true_and, List.all_eq_true]
  intro x hx
  obtain ⟨j, hj, e⟩ := mem_getD hx
  exact decide_eq_true (by rw [← e]; exact h j hj)
theorem alike_not {b : List Int} {i : Nat} (hi : i < b.length) (h : b.getD i 0 ≠ b.getD 0 0) : alikeB b = false := by
  unfold alikeB
  rw [Bool.and_eq_false_iff]
  refine .inr ?_
  rw [List.all_eq_false]
  refine ⟨b.getD i 0, ?_, by simpa using h⟩
  rw [List.getD_eq_getElem?_getD, List.getElem?_eq_getElem hi]; exact List.getElem_mem hi
set_option maxRecDepth 100000 in
theorem rEnc21_0 (A : Option Addr) (c : Nat) (b : List Int) (w : World) (hr : (Kd.int .u8).C w A b.length b) (hc : b.length ≤ c) (hl : b.length ≤ 40000) :
    Calls Tryz.prog 95 #[.int .i64 0, .slice A b.length c] w (RTold 0 b w) := by
  have hI : decide ((131072 : Int) < (b.length : Int)) = false := decide_eq_false (by omega)
  have HR := Lib.hid (And.intro hr hc)
  clear hr hc hl
  go_enter Tryz.func95, Tryz.ntmps95
  go_wp2_with fail
  go_ret2
  exact ⟨A, c, rfl, HR.out, Below.refl _ _⟩
set_option maxRecDepth 100000 in
set_option maxHeartbeats 1000000 in
theorem rEnc21_1 (A : Option Addr) (c : Nat) (b : List Int) (w : World) (hr : (Kd.int .u8).C w A b.length b) (hc : b.length ≤ c) (hl : b.length ≤ 40000) :
    Calls Tryz.prog 95 #[.int .i64 1, .slice A b.length c] w (RTold (plainE 1 b).1 (plainE 1 b).2 w) := by
  have hI : decide ((131072 : Int) < (b.length : Int)) = false := decide_eq_false (by omega)
  have HR := Lib.hid (And.intro hr (And.intro hc hl))
  by_cases h2 : b.length < 2
  · have hn : alikeB b = false := by unfold alikeB; rw [decide_eq_false (by omega)]; rfl
    rw [plainE1_not hn]
    have h2I : decide ((b.length : Int) < 2) = true := decide_eq_true (by omega)
    clear hr hc hl
    go_enter Tryz.func95, Tryz.ntmps95
    go_wp2_with fail
    go_ret2
    exact RTold.nil 1 (Below.refl _ _)
  · have h2I : decide ((b.length : Int) < 2) = false := decide_eq_false (by omega)
    obtain ⟨ad, hA, hc0⟩ := ints_get hr 0 (by omega)
    subst hA
    have e0 : ad.add 0 = ad := by simp [Addr.add]
    have hc00 : w.cell? ad = some (.int .u8 (b.getD 0 0)) := by rw [e0] at hc0; exact hc0
    have hl0 : (0 : Int) < (b.length : Int) := by omega
    have hcut : ∀ W : World, (Instr.slice 22 (.slice (some ad) b.length c) none (some (.int .i64 1)) none).run Tryz.prog W = .ok (.slice (some ad) 1 c) W := by
      intro W
      obtain ⟨i0, hi0, _⟩ := Option.map_eq_some_iff.1 infoU8
      have := cut_to (P := Tryz.prog) 22 5 .i64 Tryz.underlying22 hi0 (some ad) b.length c 1 (by omega) (by omega) hc W
      simpa using this
    obtain ⟨x0, hx0⟩ : ∃ x, x = b.getD 0 0 := ⟨_, rfl⟩
    rw [← hx0] at hc00
    have HX0 := Lib.hid hx0
    have HC0 := Lib.hid hc00
    have HH2 := Lib.hid h2
    clear hr hc hl hc0 hc00 hx0 h2
    go_enter Tryz.func95, Tryz.ntmps95
    go_wp2_with fail
    go_loopw [6] (fun kv wr => ∃ (k : Nat), kv = .int .i64 k ∧ k ≤ b.length ∧ Hid ((∀ j, j < k → b.getD j 0 = x0) ∧ Below w.heap.size w wr)) (fun kv _ => b.length - (intOf kv).toNat)
    case atStart => exact ⟨0, rfl, by omega, Lib.hid ⟨fun j hj => absurd hj (by omega), Below.refl _ _⟩⟩
    case round =>
      obtain ⟨k, rfl, hk, H⟩ := hrel
      have hc00 := pw_cell_below H.out.2 HC0.out
      by_cases hlt : k < b.length
      · obtain ⟨ad1, e1, hck⟩ := ints_get (Kd.C_below HR.out.1 H.out.2) k hlt
        injection e1 with e1
        subst e1
        have hkI : (k : Int) < (b.length : Int) := by omega
        have hk4 : k ≤ 40000 := by have := HR.out.2.2; omega
        obtain ⟨q, hq⟩ : ∃ q, q = b.getD k 0 := ⟨_, rfl⟩
        rw [← hq] at hck
        have HQ := Lib.hid hq
        clear hq
        have hck0 : k = 0 → wr.cell? ad = some (.int .u8 q) := by intro e; subst e; rw [HQ.out, ← HX0.out]; exact hc00
        have HK0 := Lib.hid hck0
        clear hck0
        by_cases he : q = x0
        · subst he
          go_wp2_with fail
          go_quiet (fail)
          go_wp2_with fail
          go_roundw
          case rel =>
            exact ⟨k + 1, by go_num, by omega, Lib.hid ⟨fun j hj => (by
              by_cases e : j = k
              · rw [e]; exact HQ.out.symm
              · exact H.out.1 j (by omega)), pw_below_drewN H.out.2 _⟩⟩
          case measure => simp [intOf]; omega
        · have hne : (q != x0) = true := by simpa using he
          have hn : alikeB b = false := alike_not hlt (by rw [← HQ.out, ← HX0.out]; exact he)
          have HPE := Lib.hid (plainE1_not hn)
          clear he hn
          go_wp2_with fail
          go_quiet (fail)
          go_wp2_with fail
          go_ret2
          rw [HPE.out]
          exact RTold.nil 1 (pw_below_drewN H.out.2 _)
      · obtain rfl : k = b.length := by omega
        have ha : alikeB b = true := alike_of (by have := HH2.out; omega) (fun j hj => by rw [H.out.1 j hj, HX0.out])
        have HPE := Lib.hid (show plainE 1 b = (0, [x0]) by rw [plainE1 HR.out.2.2 ha, ← HX0.out])
        have h1 := Kd.C_take (k := Kd.int .u8) (m := 1) (Kd.C_below HR.out.1 H.out.2) (by have := HH2.out; omega)
        have ht : b.take 1 = [x0] := by
          have := HH2.out
          rw [HX0.out]
          cases b with
          | nil => simp at this
          | cons z l => rfl
        rw [ht] at h1
        have H1 := Lib.hid h1
        clear h1 ht ha
        go_wp2_with fail
        go_ret2
        rw [HPE.out]
        exact ⟨some ad, c, rfl, ⟨H1.out, by have := HR.out.2.1; have := HH2.out; show 1 ≤ c; omega⟩, H.out.2⟩
end Go.Proofs.YtdkemdcflbadhaaGreat
namespace Go.Proofs.YtdkemdcflbadhaaGreat
open Go.RowKit Go.IntWalk Go.Proofs.YtdkemdcflbadhaaGreatW.PrintWords
/-- the reference's body by contexts, or why there is none -/
def E20 (A : Option Addr) (c : Nat) (b : List Int) (w : World) : Prop := Calls Tryz.prog 22 #[.slice A b.length c] w (Told (pickE 3 b).1 (pickE 3 b).2 w)
theorem rEnc18_all (A : Option Addr) (c : Nat) (b : List Int) (w : World) (hr : (Kd.int .u8).C w A b.length b) (hc : b.length ≤ c) (hb : Bytes b) (hl : b.length ≤ 5000) :
    Calls Tryz.prog 96 #[.slice A b.length c] w (Told (pickE 2 b).1 (pickE 2 b).2 w) := by
  rcases Nat.eq_zero_or_pos b.length with h0 | h0
  · rw [pickE_nil (by decide) (by decide) h0, h0]
    exact rEnc18_none A c w
  · rw [pickE_2 h0]
    exact rEnc18_any A c b w hr hc hb hl h0
set_option maxRecDepth 100000 in
set_option maxHeartbeats 1000000 in
theorem rPickEnc_of (A : Option Addr) (c : Nat) (k : Int) (b : List Int) (w : World) (hr : (Kd.int .u8).C w A b.length b) (hc : b.length ≤ c) (hb : Bytes b) (hl : b.length ≤ 5000) (h20 : E20 A c b w) :
    Calls Tryz.prog 40 #[.int .i64 k, .slice A b.length c] w (RTold (pickE k b).1 (pickE k b).2 w) := by
  by_cases k0 : k = 0
  · subst k0
    have H := Lib.hid (rEnc21_0 A c b w hr hc (by omega))
    have HP := Lib.hid (show pickE 0 b = (0, b) by rw [pickE_lo (by decide) (by decide), plainE0 (by omega)])
    clear hr hc hb hl h20
    go_enter Tryz.func40, Tryz.ntmps40
    go_wp2_with fail
    refine H.out.mono ?_
    rintro e w1 ⟨A1, c1, rfl, h1, hb1⟩
    have H1 := Lib.hid (And.intro h1 hb1)
    clear h1 hb1
    go_wp2_with fail
    go_ret2
    rw [HP.out]
    exact ⟨A1, c1, rfl, H1.out.1, H1.out.2⟩
  · by_cases k1 : k = 1
    · subst k1
      have H := Lib.hid (rEnc21_1 A c b w hr hc (by omega))
      have HP := Lib.hid (show pickE 1 b = plainE 1 b from pickE_lo (by decide) (by decide))
      obtain ⟨⟨f, y⟩, hx⟩ : ∃ x, x = plainE 1 b := ⟨_, rfl⟩
      rw [← hx] at H HP
      clear hr hc hb hl h20 k0 hx
      go_enter Tryz.func40, Tryz.ntmps40
      go_wp2_with fail
      refine H.out.mono ?_
      rintro e w1 ⟨A1, c1, rfl, h1, hb1⟩
      have H1 := Lib.hid (And.intro h1 hb1)
      clear h1 hb1
      dsimp only at H1 ⊢
      go_wp2_with fail
      go_ret2
      rw [HP.out]
      exact ⟨A1, c1, rfl, H1.out.1, H1.out.2⟩
    · by_cases k2 : k = 2
      · subst k2
        have H := Lib.hid (rEnc18_all A c b w hr hc hb hl)
        obtain ⟨⟨f, y⟩, hx⟩ : ∃ x, x = pickE 2 b := ⟨_, rfl⟩
        have HP := Lib.hid hx.symm
        rw [← hx] at H
        clear hr hc hb hl h20 k0 k1 hx
        go_enter Tryz.func40, Tryz.ntmps40
        go_wp2_with fail
        refine H.out.mono ?_
        intro e w1 h
        obtain ⟨A1, c1, rfl, h1, hb1⟩ := h.rtold
        have H1 := Lib.hid (And.intro h1 hb1)
        clear h h1 hb1
        dsimp only at H1 ⊢
        go_wp2_with fail
        go_ret2
        rw [HP.out]
        exact ⟨A1, c1, rfl, H1.out.1, H1.out.2⟩
      · by_cases k3 : k = 3
        · subst k3
          have H := Lib.hid h20
          obtain ⟨⟨f, y⟩, hx⟩ : ∃ x, x = pickE 3 b := ⟨_, rfl⟩
          have HP := Lib.hid hx.symm
          unfold E20 at H
          rw [← hx] at H
          clear hr hc hb hl h20 k0 k1 k2 hx
          go_enter Tryz.func40, Tryz.ntmps40
          go_wp2_with fail
          refine H.out.mono ?_
          intro e w1 h
          obtain ⟨A1, c1, rfl, h1, hb1⟩ := h.rtold
          have H1 := Lib.hid (And.intro h1 hb1)
          clear h h1 hb1
          dsimp only at H1 ⊢
          go_wp2_with fail
          go_ret2
          rw [HP.out]
          exact ⟨A1, c1, rfl, H1.out.1, H1.out.2⟩
        · have HP := Lib.hid (pickE_not (b := b) (show ¬ (0 ≤ k ∧ k < 4) by omega))
          have d0 : (k == 0) = false := by simpa using k0
          have d1 : (k == 1) = false := by simpa using k1
          have d2 : (k == 2) = false := by simpa using k2
          have d3 : (k == 3) = false := by simpa using k3
          clear hr hc hb hl h20 k0 k1 k2 k3
          go_enter Tryz.func40, Tryz.ntmps40
          go_wp2_with fail
          go_ret2
          rw [HP.out]
          exact RTold.nil 10 (Below.refl _ _)
def RBestPost (b : List Int) (w : World) (e : Ending) (w' : World) : Prop :=
  ∃ A c, e = .returned (.tuple #[.int .i64 (bestP b).1, .slice A (bestP b).2.length c]) ∧ ((Kd.int .u8).C w' A (bestP b).2.length (bestP b).2 ∧ (bestP b).2.length ≤ c) ∧ Below w.heap.size w w'
set_option maxRecDepth 100000 in
set_option maxHeartbeats 1000000 in
theorem rBest_of (A : Option Addr) (c : Nat) (b : List Int) (w : World) (hr : (Kd.int .u8).C w A b.length b) (hc : b.length ≤ c) (hb : Bytes b) (hl : b.length ≤ 5000) (h20 : ∀ w1, Below w.heap.size w w1 → E20 A c b w1) :
    Calls Tryz.prog 38 #[.slice A b.length c] w (RBestPost b w) := by
  have HE := Lib.hid (fun (k : Int) (W : World) (hB : Below w.heap.size w W) => rPickEnc_of A c k b W (Kd.C_below hr hB) hc hb hl (h20 W hB))
  have HP0 := Lib.hid (show pickE 0 b = (0, b) by rw [pickE_lo (by decide) (by decide), plainE0 (by omega)])
  clear hr hc hb hl h20
  go_enter Tryz.func38, Tryz.ntmps38
  go_wp2_with fail
  go_loopw [4, 5, 6] (fun nv bv kv wr => ∃ (k : Nat) (m : Int) (y : List Int) (B : Option Addr) (cb : Nat), nv = .int .i64 m ∧ bv = .slice B y.length cb ∧ kv = .int .i64 (k : Int) ∧ k ≤ 4 ∧ Hid ((k = 0 → m = -1) ∧ (∀ j, k = j + 1 → bestN b j = (m, y)) ∧ ((Kd.int .u8).C wr B y.length y ∧ y.length ≤ cb) ∧ Below w.heap.size w wr)) (fun _ _ kv _ => 4 - (intOf kv).toNat)
  case atStart => exact ⟨0, -1, [], none, 0, rfl, rfl, rfl, by omega, Lib.hid ⟨fun _ => rfl, fun j hj => by omega, ⟨(Kd.R_reads' (Kd.R_nil (Kd.int .u8) 5 w w.heap.size (fun _ => True))).2.2, by simp⟩, Below.refl _ _⟩⟩
  case round =>
    obtain ⟨k, m, y, B, cb, rfl, rfl, rfl, hk, H⟩ := hrel
    by_cases hlt : k < 4
    · have hI : (k : Int) < 4 := by omega
      have HC := Lib.hid (HE.out (k : Int) wr H.out.2.2.2)
      obtain ⟨x, hx⟩ : ∃ x, x = pickE (k : Int) b := ⟨_, rfl⟩
      have HX := Lib.hid hx
      rw [← hx] at HC
      obtain ⟨f, z⟩ := x
      clear hx
      go_wp2_with fail
      refine HC.out.mono ?_
      rintro e w2 ⟨A2, c2, rfl, hv2, hb2⟩
      dsimp only at hv2 ⊢
      have HB2 := Lib.hid (below_tr H.out.2.2.2 hb2)
      have HR2 := Lib.hid hv2
      have HY2 := Lib.hid (And.intro (Kd.C_below H.out.2.2.1.1 hb2) H.out.2.2.1.2)
      clear hv2 hb2
      rcases Nat.eq_zero_or_pos k with hk0 | hk0
      · subst hk0
        have hm := H.out.1 rfl
        subst hm
        have e1 : ((f, z) : Int × List Int) = (0, b) := by rw [HX.out]; exact HP0.out
        injection e1 with e1 e2
        subst e1
        have HN := Lib.hid (show bestN b 0 = (0, z) by rw [e2]; rfl)
        clear e2
        go_wp2_with fail
        go_roundw
        case rel => exact ⟨1, 0, z, A2, c2, rfl, rfl, by go_num, by omega, Lib.hid ⟨fun h => by omega, fun j hj => (by have e : j = 0 := (by omega); rw [e]; exact HN.out), HR2.out, HB2.out⟩⟩
        case measure => simp [intOf]
      · obtain ⟨j, hj⟩ : ∃ j, k = j + 1 := ⟨k - 1, by omega⟩
        have hbn := H.out.2.1 j hj
        have hkn := (bestN_kind b j).1
        rw [hbn] at hkn
        obtain ⟨n, hn⟩ : ∃ n : Nat, m = n := ⟨m.toNat, by have : 0 ≤ m := hkn; omega⟩
        subst hn
        have dn : decide ((n : Int) < 0) = false := decide_eq_false (by omega)
        have HBN := Lib.hid hbn
        have HJ := Lib.hid hj
        have HK := Lib.hid (show bestN b k = betterK (k : Int) b (bestN b j) by rw [hj]; rfl)
        clear hbn hkn hj hk0
        by_cases h0 : f = 0
        · subst h0
          by_cases h1 : z.length < y.length
          · have hI1 : decide (z.length < y.length) = true := decide_eq_true h1
            have HN := Lib.hid (show bestN b k = ((k : Int), z) from by
              rw [HK.out, better_take (by rw [← HX.out]) (by rw [← HX.out, HBN.out]; exact h1), ← HX.out])
            clear h1
            go_wp2_with fail
            go_roundw
            case rel => exact ⟨k + 1, k, z, A2, c2, rfl, rfl, by go_num, by omega, Lib.hid ⟨fun h => by omega, fun j2 hj2 => (by have e : j2 = k := (by omega); rw [e]; exact HN.out), HR2.out, HB2.out⟩⟩
            case measure => simp [intOf]; omega
          · have hI1 : decide (z.length < y.length) = false := decide_eq_false h1
            have HN := Lib.hid (show bestN b k = ((n : Int), y) from by
              rw [HK.out, better_keep (by rw [← HX.out, HBN.out]; exact fun h => h1 h.2), HBN.out])
            clear h1
            go_wp2_with fail
            go_roundw
            case rel => exact ⟨k + 1, n, y, B, cb, rfl, rfl, by go_num, by omega, Lib.hid ⟨fun h => by omega, fun j2 hj2 => (by have e : j2 = k := (by omega); rw [e]; exact HN.out), HY2.out, HB2.out⟩⟩
            case measure => simp [intOf]; omega
        · have hf : (f == 0) = false := by simpa using h0
          have HN := Lib.hid (show bestN b k = ((n : Int), y) from by
            rw [HK.out, better_keep (by rw [← HX.out]; exact fun h => h0 h.1), HBN.out])
          clear h0
          go_wp2_with fail
          go_roundw
          case rel => exact ⟨k + 1, n, y, B, cb, rfl, rfl, by go_num, by omega, Lib.hid ⟨fun h => by omega, fun j2 hj2 => (by have e : j2 = k := (by omega); rw [e]; exact HN.out), HY2.out, HB2.out⟩⟩
          case measure => simp [intOf]; omega
    · obtain rfl : k = 4 := by omega
      have HN := Lib.hid (show bestP b = (m, y) from by rw [← bestN_3]; exact H.out.2.1 3 rfl)
      go_wp2_with fail
      go_ret2
      unfold RBestPost
      rw [HN.out]
      exact ⟨B, cb, rfl, H.out.2.2.1, H.out.2.2.2⟩
end Go.Proofs.YtdkemdcflbadhaaGreat
namespace Go.Proofs.YtdkemdcflbadhaaGreat
open Go.RowKit Go.IntWalk Go.Proofs.YtdkemdcflbadhaaGreatW.PrintWords
set_option maxRecDepth 100000 in
set_option maxHeartbeats 1000000 in
theorem pickBest_of (A : Option Addr) (ca : Nat) (b : List Int) (kind : Int) (w : World) (hr : (Kd.int .u8).C w A b.length b) (hc : b.length ≤ ca) (hby : Bytes b) (h20 : b.length ≤ 60 → ∀ w1, Below w.heap.size w w1 → E20 A ca b w1) :
    Calls Tryz.prog 8 #[.slice A b.length ca, .int .i64 kind] w (Ret (.bool true) w) := by
  by_cases h1 : b.length ≤ 60
  · have d1 : decide (60 < (b.length : Int)) = false := decide_eq_false (by omega)
    have HR := Lib.hid (And.intro hr (And.intro hc (And.intro hby h1)))
    have HE := Lib.hid (h20 h1)
    clear hr hc hby h1 h20
    go_enter Tryz.func8, Tryz.ntmps8
    go_wp2_with fail
    refine (awake22_any w).mono ?_
    rintro e w1 ⟨rfl, hb1⟩
    have HB1 := Lib.hid hb1
    clear hb1
    go_wp2_with fail
    refine (best_any A ca b w1 (Kd.C_below HR.out.1 HB1.out) HR.out.2.2.1 (by have := HR.out.2.2.2; omega)).mono ?_
    intro e w2 h2
    obtain ⟨A2, c2, rfl, hs2, hb2⟩ := h2.out HR.out.2.2.1
    have HB2 := Lib.hid (below_tr HB1.out hb2)
    have HRB := Lib.hid (rBest_of A ca b w2 (Kd.C_below HR.out.1 HB2.out) HR.out.2.1 HR.out.2.2.1 (by have := HR.out.2.2.2; omega) (fun w3 h3 => HE.out w3 (below_tr HB2.out h3)))
    unfold RBestPost at HRB
    have HBy := Lib.hid (best_bytes HR.out.2.2.1)
    obtain ⟨⟨k, x⟩, hx⟩ : ∃ x, x = bestP b := ⟨_, rfl⟩
    rw [← hx] at HRB HBy hs2 ⊢
    have HS2 := Lib.hid hs2.row
    clear h2 hs2 hb2 hx
    dsimp only at HRB HBy HS2 ⊢
    go_wp2_with fail
    refine HRB.out.mono ?_
    rintro e w3 ⟨A3, c3, rfl, hs3, hb3⟩
    have HB3 := Lib.hid (below_tr HB2.out hb3)
    have HS3 := Lib.hid (And.intro (Kd.C_below HS2.out hb3) hs3.1)
    have HPE := Lib.hid (pickEncode_any A ca kind b w3 (Kd.C_below HR.out.1 HB3.out) HR.out.2.2.1 (by have := HR.out.2.2.2; omega))
    have HBz := Lib.hid (pickE_bytes (k := kind) HR.out.2.2.1)
    have HRE := Lib.hid (fun w4 (h4 : Below w.heap.size w w4) => rPickEnc_of A ca kind b w4 (Kd.C_below HR.out.1 h4) HR.out.2.1 HR.out.2.2.1 (by have := HR.out.2.2.2; omega) (HE.out w4 h4))
    obtain ⟨⟨f, z⟩, hz⟩ : ∃ z, z = pickE kind b := ⟨_, rfl⟩
    rw [← hz] at HPE HRE HBz
    clear hs3 hb3 hz
    dsimp only at HPE HRE HBz
    go_wp2_with fail
    refine HPE.out.mono ?_
    intro e w4 h4
    obtain ⟨A4, c4, rfl, h4, hb4⟩ := h4.rtold
    have HB4 := Lib.hid (below_tr HB3.out hb4)
    have HS4 := Lib.hid (And.intro (Kd.C_below HS3.out.1 hb4) (And.intro (Kd.C_below HS3.out.2 hb4) h4.1))
    have HR4 := Lib.hid (HRE.out w4 HB4.out)
    clear h4 hb4
    go_wp2_with fail
    refine HR4.out.mono ?_
    rintro e w5 ⟨A5, c5, rfl, h5, hb5⟩
    have HB5 := Lib.hid (below_tr HB4.out hb5)
    have HS5 := Lib.hid (And.intro (And.intro (Kd.C_below HS4.out.1 hb5) (Kd.C_below HS4.out.2.1 hb5)) (And.intro (Kd.C_below HS4.out.2.2 hb5) h5.1))
    clear h5 hb5
    go_wp2_with fail
    refine (same_same A2 A3 c2 c3 x w5 HS5.out.1.1 HS5.out.1.2 HBy.out).mono ?_
    rintro e w6 ⟨rfl, rfl⟩
    go_wp2_with fail
    refine (same_same A4 A5 c4 c5 z w5 HS5.out.2.1 HS5.out.2.2 HBz.out).mono ?_
    rintro e w6 ⟨rfl, rfl⟩
    go_wp2_with fail
    go_ret
    exact ⟨rfl, HB5.out⟩
  · have d1 : decide (60 < (b.length : Int)) = true := decide_eq_true (by omega)
    clear hr hc hby h1 h20
    go_enter Tryz.func8, Tryz.ntmps8
    go_wp2_with fail
    refine (awake22_any w).mono ?_
    rintro e w1 ⟨rfl, hb1⟩
    have HB1 := Lib.hid hb1
    clear hb1
    go_wp2_with fail
    go_ret
    exact ⟨rfl, HB1.out⟩
theorem e20_any (A : Option Addr) (c : Nat) (b : List Int) (w : World) (hr : (Kd.int .u8).C w A b.length b) (hc : b.length ≤ c) (hb : Bytes b) (hl : b.length ≤ 5000) : E20 A c b w := by
  unfold E20
  rcases Nat.eq_zero_or_pos b.length with h0 | h0
  · rw [pickE_nil (by decide) (by decide) h0, h0]; exact rEnc20_none A c w
  · rw [pickE_3 h0]; exact rEnc20_any A c b w hr hc hb hl h0
theorem pickBest_law (A : Option Addr) (ca : Nat) (b : List Int) (kind : Int) (w : World) (hr : (Kd.int .u8).C w A b.length b) (hc : b.length ≤ ca) (hby : Bytes b) (_ : b.length * 1 ≤ 140737488351232) (_ : (Lit.int .i64 kind).wf = true) :
    Calls Tryz.prog 8 #[.slice A b.length ca, .int .i64 kind] w (Ret (.bool true) w) := pickBest_of A ca b kind w hr hc hby (fun hl w1 h => e20_any A ca b w1 (Kd.C_below hr h) hc hby (by omega))
end Go.Proofs.YtdkemdcflbadhaaGreat
