/- The walk of norm.take. -/
import Derived.Test.YtipjlneepponpaaGreatYM1
import Derived.Test.YtipjlneepponpaaGreatYS1
import Derived.Test.YtipjlneepponpaaGreatYM2
import Derived.Test.YtipjlneepponpaaGreatYM4
import Derived.Test.YtipjlneepponpaaGreatYR1
import Derived.Test.YtipjlneepponpaaGreatYM0
import Derived.BigQuiet
import Derived.RangeFuncRecord
import Derived.RangeFuncSeq
import Derived.WalkKit
import Derived.OwnWalkIn
import Derived.TacticsInMore
import Derived.BigFrameIn
import Derived.LoopNIn
import Derived.LoopIn
import Derived.Maps.OwnIn
import Derived.Maps.AppendAt
import Derived.RangeFuncBox
import Derived.OwnWalk
import Derived.Laws.EntriesVeiled
namespace Go.Proofs.YtipjlneepponpaaGreat
open Go.RowKit Go.IntWalk Go.Proofs.YtipjlneepponpaaGreatW.PrintWords HeapL
structure TkRel (gq cq B : Nat) (W0 : World) (qs : List Int) (p : Nat) (v : Value) (ys : List K3) (wr : World) : Prop where
 q : (Kd.int .i64).R 3 wr B (λ _=>True) (.slice (some ⟨gq,0,none⟩) 256 cq) qs
 h : CKp p B wr v ys
 ne : p ≠ gq /\ v.ownBlock ≠ some gq
 below : Below B W0 wr
 pB : B <= p
theorem TkRel.start {gq cq B : Nat} {W0 w : World} {qs : List Int} (hq : (Kd.int .i64).R 3 w B (λ _=>True) (.slice (some ⟨gq,0,none⟩) 256 cq) qs) (hb : Below B W0 w) (hB : B <= w.heap.size) :
    TkRel gq cq B W0 qs w.heap.size (.slice none 0 0) [] (w.alloc (.cells #[.slice none 0 0] 165)):=by
 have h1:=Kd.R_lt hq gq rfl
 exact ⟨Kd.R_alloc hq _,⟨a0m _ _,Kd.R_nil _ _ _ _ _⟩,⟨by omega,by simp [Value.ownBlock]⟩,hb.alloc hB _,hB⟩
theorem TkRel.app {gq cq B : Nat} {W0 W wa : World} {qs : List Int} {p : Nat} {v v1 : Value} {ys zs : List K3} (H : TkRel gq cq B W0 qs p v ys W) (hB : B <= W.heap.size) (hr : k3.R 167 wa B (λ k=>k ≠ p) v1 zs) (hg : W.grownBy wa v.ownBlock)
    (hat : v1.ownBlock = v.ownBlock \/ ∃ b,v1.ownBlock = some b /\ W.heap.size <= b) : TkRel gq cq B W0 qs p v1 zs (wa.setCell ⟨p,0,none⟩ v1):=by
 have hpv : some p ≠ v.ownBlock:=λ e=>H.h.row.1 p e.symm rfl
 have hgl:=Kd.R_lt H.q gq rfl
 have hb1:=a0Z H.h.blk hg hpv
 have hne1 : v1.ownBlock ≠ some gq:=λ e=>by
  rcases hat with h | ⟨b,h,hle⟩
  · exact H.ne.2 (by rw [<- h]; exact e)
  · rw [h] at e; injection e with e; omega
 have h1:=Kd.R_grown1 H.q rfl hg H.ne.2
 have ho : Only (λ k=>k = p) wa (wa.setCell ⟨p,0,none⟩ v1):=(Only.refl _ _).set1 _ _
 refine ⟨a2O rfl h1 ho (λ k hk e=>H.ne.1 (by rw [<- e]; simpa [Value.ownBlock] using hk.symm)),⟨a0v hb1 0 _,Kd.R_far (p:=⟨p,0,none⟩) hr (λ k hk=>hk) _⟩,⟨H.ne.1,hne1⟩,?_,H.pB⟩
 exact (b7P H.below hg (λ k hk=>Kd.R_base H.h.row k hk) hB).setCell H.pB _
theorem GvRel.alloc {gq c B : Nat} {w : World} {qs : List Int} {p : Nat} {v : Value} {ys : List K3} {wr : World} (H : GvRel gq c B w qs p v ys wr) (hB : B <= wr.heap.size) (o : Obj) : GvRel gq c B w qs p v ys (wr.alloc o):=
 ⟨Kd.R_alloc H.q o,H.h.below ((Below.refl _ _).alloc (Nat.le_refl _) o),H.ne,H.heap,H.below.alloc hB o,H.pB⟩
theorem GvRel.far {gq c B : Nat} {w : World} {qs : List Int} {p : Nat} {v : Value} {ys : List K3} {wr : World} (H : GvRel gq c B w qs p v ys wr) {g : Nat} (h1 : g ≠ gq) (h2 : p ≠ g) (h3 : v.ownBlock ≠ some g) (hB : B <= g) (j : Nat) (u : Value) : GvRel gq c B w qs p v ys (wr.setCell ⟨g,j,none⟩ u):=by
 have ho : Only (λ k=>k = g) wr (wr.setCell ⟨g,j,none⟩ u):=(Only.refl _ _).set1 _ _
 refine ⟨a2O rfl H.q ho (λ k hk e=>h1 (by rw [<- e]; simpa [Value.ownBlock] using hk.symm)),⟨a1U H.h.blk (p:=⟨g,j,none⟩) h2 _,?_⟩,H.ne,H.heap,H.below.setCell hB _,H.pB⟩
 exact Kd.R_mono (Kd.R_step (Kd.R_tight rfl H.h.row) (λ k hk hlt=>ho.block k hlt (λ e=>h3 (by rw [<- e]; exact hk.symm)))) (λ k hk=>H.h.row.1 k hk.symm)
theorem GvRel.pushed {gq c B : Nat} {w w1 w2 : World} {qs : List Int} {p : Nat} {v v' : Value} {ys zs : List K3} (H : GvRel gq c B w qs p v ys w1) (hB : B <= w1.heap.size) (h : CKp p B w2 v' zs) (hh : From lessC z3 zs 0 zs.length)
    (hat : v'.ownBlock = v.ownBlock \/ ∃ b,v'.ownBlock = some b /\ w1.heap.size <= b) (ho : Only (λ k=>k = p \/ v.ownBlock = some k) w1 w2) : GvRel gq c B w qs p v' zs w2:=by
 have hgl:=Kd.R_lt H.q gq rfl
 refine ⟨a2O rfl H.q ho (λ k hk e=>?_),h,⟨H.ne.1,λ e=>?_⟩,hh,H.below.trans (ho.below hB (λ k e=>?_)),H.pB⟩
 · have hk' : gq = k:=by simpa [Value.ownBlock] using hk
   subst hk'
   rcases e with e | e
   · exact H.ne.1 e.symm
   · exact H.ne.2 e
 · rcases hat with h | ⟨b,h,hle⟩
   · exact H.ne.2 (by rw [<- h]; exact e)
   · rw [h] at e; injection e with e; omega
 · rcases e with e | e
   · exact e ▸ H.pB
   · exact Kd.R_base H.h.row k e
theorem c4r (c : List Int) (m : Nat) (q : List Int) : a0N c (m + 1) q = (a0N c m q).set (richN (a0N c m q) c 256) ((a0N c m q).getD (richN (a0N c m q) c 256) 0 - 1):=rfl
def a8Z (c q : List Int) (m : Nat) : Prop:=∀ k,k <= m -> (a0N c k q).length = 256 /\ (∀ s,0 <= (a0N c k q).getD s 0 /\ (a0N c k q).getD s 0 <= 100000) /\ ∀ s,0 < (a0N c k q).getD s 0 ↔ 0 < c.getD s 0
def b4s (gq cq B : Nat) (qs' : List Int) (W0 : World) (e : Ending) (w' : World) : Prop:=e = .returned (.tuple #[]) /\ (Kd.int .i64).R 3 w' B (λ _=>True) (.slice (some ⟨gq,0,none⟩) 256 cq) qs' /\ Below B W0 w'
set_option maxRecDepth 100000 in
set_option maxHeartbeats 2000000 in
theorem c4s (gq cq cc : Nat) (A : Option Addr) (W0 : World) (qs c : List Int) (m : Nat) (w : World) (hq : (Kd.int .i64).R 3 w W0.heap.size (λ _=>True) (.slice (some ⟨gq,0,none⟩) 256 cq) qs)
    (hc : (Kd.int .i64).C W0 A 256 c) (hb : Below W0.heap.size W0 w) (hcl : c.length = 256) (hcr : ∀ s,0 <= c.getD s 0 /\ c.getD s 0 <= 1073741824) (hok : a8Z c qs m) (hm2 : m <= 2000000) (hpos : 0 < m -> ∃ s,s < 256 /\ 0 < c.getD s 0) :
    Calls Tryz.prog 151 #[.slice (some ⟨gq,0,none⟩) 256 cq,.slice A 256 cc,.int .i64 m] w (b4s gq cq W0.heap.size (a0N c m qs) W0):=by
 have HQ:=Lib.hid hq
 have HC:=Lib.hid (And.intro hc (And.intro hcl hcr))
 have HO:=Lib.hid hok
 have HP:=Lib.hid hpos
 have HB:=Lib.hid hb
 have HI : Hid (TkRel gq cq W0.heap.size W0 qs w.heap.size (.slice none 0 0) [] (w.alloc (.cells #[.slice none 0 0] 165))):=TkRel.start hq hb hb.size
 clear hq hc hb hcl hcr hok hpos
 go_enter Tryz.func151,Tryz.ntmps151
 go_wp2_with fail
 go_loopw [12] (λ kv wr=>∃ (k : Nat) (v : Value),kv = .int .i64 k /\ k <= 256 /\ Hid (TkRel gq cq W0.heap.size W0 qs w.heap.size v (candT c qs k) wr)) (λ kv _=>256 - (intOf kv).toNat)
 case atStart=>exact ⟨0,_,rfl,by omega,HI⟩
 case round=>
  obtain ⟨k,v,rfl,hk,H⟩:=hrel
  by_cases hlt : k < 256
  · obtain ⟨hqc,-⟩:=a1A H.out.q k hlt
    obtain ⟨y,hy⟩ : ∃ y,y = qs.getD k 0:=⟨_,rfl⟩
    rw [<- hy] at hqc
    have hy2:=(HO.out 0 (Nat.zero_le _)).2.1 k
    have hyc:=(HO.out 0 (Nat.zero_le _)).2.2 k
    simp only [a0N] at hy2 hyc
    rw [<- hy] at hy2 hyc
    obtain ⟨hy0,hy1⟩:=hy2
    have HY:=Lib.hid (And.intro hy hyc)
    clear hy hyc
    by_cases hpos : 0 < y
    · obtain ⟨ad,rfl,hcc⟩:=a0G HC.out.1 k hlt
      obtain ⟨z,hz⟩ : ∃ z,z = c.getD k 0:=⟨_,rfl⟩
      obtain ⟨hz0,hz1⟩:=HC.out.2.2 k
      rw [<- hz] at hcc hz0 hz1
      have hcw:=a0t H.out.below hcc
      have hcw2 : (wr.alloc (.cells #[.int .i64 k,.int .i64 y,.int .i64 (IntKind.i64.wrap (IntKind.i64.wrap (IntKind.i64.wrap (1073741824 - z) * 256) + (k : Int)))] 167)).cell? (ad.add k) = some (.int .i64 z):=a0t ((Below.refl _ _).alloc (Nat.le_refl _) _) hcw
      have HZ:=Lib.hid hz
      have HE : Hid (IntKind.i64.wrap (IntKind.i64.wrap (IntKind.i64.wrap (1073741824 - z) * 256) + (k : Int)) = (1073741824 - z) * 256 + k):=by
       show _ = _
       rw [i64_in (1073741824 - z) (by omega),i64_in ((1073741824 - z) * 256) (by omega),i64_in ((1073741824 - z) * 256 + (k : Int)) (by omega)]
      clear hz hcc
      have hpc:=H.out.h.cell
      have hpf:=a0e H.out.h.blk 0
      have hpl:=a0f H.out.h.blk
      have hpn : ¬ w.heap.size = wr.heap.size:=by omega
      have hpn' : ¬ wr.heap.size = w.heap.size:=by omega
      have hfr : Hid (∀ k,wr.heap.size <= k -> k ≠ w.heap.size):=λ k hk e=>by omega
      have HL : Hid (((candT c qs k).length + 1) * 24 <= 140737488355328):=by show _ <= _; have:=a8Y c qs k; omega
      have HN : Hid (some w.heap.size ≠ v.ownBlock):=λ e=>H.out.h.row.1 _ e.symm rfl
      have HBr : Hid (W0.heap.size <= wr.heap.size):=H.out.below.size
      go_wp2_with fail
      go_region_law (first | (refine a4F k3 (w0:=W0) (W:=wr) W0.heap.size rfl (.tmp 19) (.tmp 31) 165 167 _ 24 rfl Tryz.underlying165 a8S rfl (by decide) (by decide) v (candT c qs k) ((k : Int),y,IntKind.i64.wrap (IntKind.i64.wrap (IntKind.i64.wrap (1073741824 - z) * 256) + (k : Int))) [.int .i64 k,.int .i64 y,.int .i64 (IntKind.i64.wrap (IntKind.i64.wrap (IntKind.i64.wrap (1073741824 - z) * 256) + (k : Int)))] (λ k=>k ≠ w.heap.size) (λ _=>False) rfl rfl (a4I _ _ _ _) (λ _ h=>h.elim) hfr.out H.out.h.row H.out.below HBr.out HL.out ?_; intro v1 w1 hr1 hb1 hg1 hat1; have hb2:=a0Z H.out.h.blk hg1 HN.out; have hc2 : w1.cell? ⟨w.heap.size,0,none⟩ = some v:=(a0a hb2 0).trans rfl; have hf2:=a0e hb2 0; have HT:=Lib.hid (TkRel.app H.out HBr.out hr1 hg1 hat1); obtain ⟨A1,c1,rfl⟩:=Kd.R_slice hr1; simp only [List.length_append,List.length_singleton] at HT; clear hr1 hb1 hg1 hat1) | fail)
      all_goals
       go_wp2_with fail
       go_roundw
       case rel=>
        refine ⟨k + 1,.slice A1 ((candT c qs k).length + 1) c1,by go_num,by omega,?_⟩
        rw [b4k,if_pos (HY.out.2.1 hpos)]
        unfold a1q
        rw [<- HY.out.1,<- HZ.out,<- HE.out]
        exact HT.out
       case measure=>simp [intOf]; omega
    · go_wp2_with fail
      go_roundw
      case rel=>
       refine ⟨k + 1,v,by go_num,by omega,?_⟩
       rw [b4k,if_neg (λ h=>hpos (HY.out.2.2 h))]
       exact H.out
      case measure=>simp [intOf]; omega
  · obtain rfl : k = 256:=by omega
    obtain ⟨A1,c1,rfl⟩:=Kd.R_slice H.out.h.row
    have ta:=a8T
    go_wp2_with fail
    refine (b4j _ H.out.h (by have:=a8Y c qs 256; omega)).mono ?_
    rintro e w2 ⟨rfl,ys,h1,h2,h3,h4⟩
    have HI2 : Hid (GvRel gq cq W0.heap.size W0 qs w.heap.size (.slice A1 (candT c qs 256).length c1) ys w2 /\ ys.Perm (candT c qs 256)):=
     ⟨GvRel.of_init H.out.q H.out.ne.1 H.out.ne.2 H.out.below H.out.pB H.out.below.size h1 h3 h4,h2⟩
    clear h1 h2 h3 h4 H
    go_wp2_with fail
    go_loopw [37] (λ kv wr=>∃ (k : Nat) (v : Value) (ys : List K3),kv = .int .i64 k /\ k <= m /\ Hid (GvRel gq cq W0.heap.size W0 (a0N c k qs) w.heap.size v ys wr /\ ys.Perm (candT c (a0N c k qs) 256))) (λ kv _=>m - (intOf kv).toNat)
    case atStart=>exact ⟨0,_,ys,rfl,by omega,HI2⟩
    case round=>
     obtain ⟨k,v,ys,rfl,hk,H⟩:=hrel
     by_cases hlt : k < m
     · obtain ⟨hql,hqr,hqi⟩:=HO.out k hk
       have hpos : 0 < ys.length:=by
        obtain ⟨s,hs,hsp⟩:=HP.out (by omega)
        exact List.length_pos_of_mem (H.out.2.symm.subset (b4r hs hsp))
       obtain ⟨g,cap,rfl,-⟩:=Kd.R_form H.out.1.h.row hpos
       obtain ⟨t,ht⟩ : ∃ t,t = richN (a0N c k qs) c 256:=⟨_,rfl⟩
       obtain ⟨ht1,ht2,ht3⟩:=c4l hqi H.out.2 H.out.1.heap hpos
       rw [<- ht] at ht1 ht2 ht3
       obtain ⟨n,hn⟩ : ∃ n,ys.length = n + 1:=⟨ys.length - 1,by omega⟩
       rw [hn] at H
       have hn6 : n <= 100000:=by have:=H.out.2.length_eq; have:=a8Y c (a0N c k qs) 256; omega
       have HT:=Lib.hid (And.intro ht (And.intro ht1 (And.intro ht2 (And.intro ht3 hn))))
       have HBr : Hid (W0.heap.size <= wr.heap.size):=H.out.1.below.size
       obtain ⟨hy0,hy1⟩:=hqr t
       have HQL:=Lib.hid (And.intro hql hqi)
       have hct:=(HC.out.2.2 t)
       clear ht ht2 ht3 hn hpos hqr hql hqi
       go_wp2_with fail
       refine (b4i ordC _ H.out.1.h hn6 (λ _ _=>trivial) (by have:=H.out.1.heap; rw [HT.out.2.2.2.2] at this; exact this)).mono ?_
       rintro e w3 ⟨rfl,zs,h1,h2,h3,h4⟩
       have H3 : Hid (GvRel gq cq W0.heap.size W0 (a0N c k qs) w.heap.size (.slice (some ⟨g,0,none⟩) n cap) zs w3):=GvRel.popped H.out.1 HBr.out h1 h3 h4
       rw [HT.out.2.2.2.1] at h2 ⊢
       have HZ:=Lib.hid h2
       clear h1 h2 h3 h4
       obtain ⟨hc3,hf3⟩:=a1A H3.out.q t ht1
       obtain ⟨y,hy⟩ : ∃ y,y = (a0N c k qs).getD t 0:=⟨_,rfl⟩
       have HY:=Lib.hid hy
       simp only [a1q]
       rw [<- hy] at hc3 hy0 hy1 ⊢
       obtain ⟨z,hz⟩ : ∃ z,z = (1073741824 - c.getD t 0) * 256 + (t : Int):=⟨_,rfl⟩
       rw [<- hz]
       have HZ2:=Lib.hid hz
       clear hy hz
       have hgl : gq < w3.heap.size:=Kd.R_lt H3.out.q gq rfl
       have hg1 : ¬ gq = w3.heap.size:=by omega
       have hg2 : ¬ w3.heap.size = gq:=by omega
       have ht256 : (t : Int) < 256:=by omega
       go_wp2_with fail
       have H4 : Hid (GvRel gq cq W0.heap.size W0 ((a0N c k qs).set t (y - 1)) w.heap.size (.slice (some ⟨g,0,none⟩) n cap) zs ((w3.setCell ⟨gq,t,none⟩ (.int .i64 (y - 1))).alloc (.cells #[.int .i64 t,.int .i64 (y - 1),.int .i64 z] 167))):=
        (H3.out.put t (y - 1)).alloc (H3.out.put t (y - 1)).below.size _
       have hzl : zs.length = n:=by have:=HZ.out.length_eq; rw [HT.out.2.2.2.2] at this; simpa using this
       refine (c4f ordC ((t : Int),y - 1,z) _ H4.out.h H4.out.below.size (by omega) (λ _ _=>trivial) trivial H4.out.heap).mono ?_
       rintro e w5 ⟨rfl,v',us,h1,h2,h3,h4,h5⟩
       have H5 : Hid (GvRel gq cq W0.heap.size W0 (a0N c (k + 1) qs) w.heap.size v' us w5 /\ us.Perm (candT c (a0N c (k + 1) qs) 256)):=by
        have e:=c4r c k qs
        rw [<- HT.out.1,<- HY.out] at e
        refine ⟨by rw [e]; exact H4.out.pushed H4.out.below.size h1 h3 h4 h5,?_⟩
        rw [e,HY.out]
        refine c4m HQL.out.1 ht1 HT.out.2.2.1 H.out.2 HZ.out ?_
        rw [<- HY.out,<- HZ2.out]
        exact h2
       clear h1 h2 h3 h4 h5
       go_wp2_with fail
       go_roundw
       case rel=>exact ⟨k + 1,v',us,by go_num,by omega,H5⟩
       case measure=>simp [intOf]; omega
     · have hkm : k = m:=by omega
       subst hkm
       go_wp2_with fail
       go_end0
       exact ⟨rfl,H.out.1.q,H.out.1.below⟩
theorem c4t (gq cq cc : Nat) (A : Option Addr) (W0 : World) (B : Nat) (hB : B = W0.heap.size) (qs c : List Int) (m : Nat) (w : World) (hq : (Kd.int .i64).R 3 w B (λ _=>True) (.slice (some ⟨gq,0,none⟩) 256 cq) qs)
    (hc : (Kd.int .i64).C W0 A 256 c) (hb : Below B W0 w) (hcl : c.length = 256) (hcr : ∀ s,0 <= c.getD s 0 /\ c.getD s 0 <= 1073741824) (hok : a8Z c qs m) (hm2 : m <= 2000000) (hpos : 0 < m -> ∃ s,s < 256 /\ 0 < c.getD s 0) :
    Calls Tryz.prog 151 #[.slice (some ⟨gq,0,none⟩) 256 cq,.slice A 256 cc,.int .i64 m] w (b4s gq cq B (a0N c m qs) W0):=by
 subst hB; exact c4s gq cq cc A W0 qs c m w hq hc hb hcl hcr hok hm2 hpos
end Go.Proofs.YtipjlneepponpaaGreat
namespace Go.Proofs.YtipjlneepponpaaGreat
open Go.RowKit Go.IntWalk Go.Proofs.YtipjlneepponpaaGreatW.PrintWords Go.Proofs.YtipjlneepponpaaGreatW.PrintLast Go.Proofs.YtipjlneepponpaaGreatW.PrintMore
set_option maxRecDepth 100000 in
set_option maxHeartbeats 400000 in
theorem a5c (A : Option Addr) (cp : Nat) (c : List Int) (w : World) (hr : (Kd.int .i64).C w A c.length c) (hR : a0M c = true) :
    Calls Tryz.prog 57 #[.slice A c.length cp] w λ e w'=>e = .returned (.int .i64 (manyC c)) /\ w = w':=by
 have hm:=hr.2.1
 have HR:=Lib.hid (And.intro hr hR)
 clear hr hR
 go_enter Tryz.func57,Tryz.ntmps57
 go_wp2_with fail
 go_loop [3,8] (λ mv kv=>∃ (k pc : Nat),mv = .int .i64 pc /\ kv = .int .i64 k /\ k <= c.length /\ pc <= k /\ Hid (pc = posC c k)) (λ _ kv=>c.length - (intOf kv).toNat)
 case atStart=>exact ⟨0,0,rfl,rfl,by omega,by omega,by show _ = _; simp [posC]⟩
 case round=>
  obtain ⟨k,pc,rfl,rfl,hk,hpc,H⟩:=hrel
  by_cases hlt : k < c.length
  · obtain ⟨ad,rfl,hcell⟩:=a0G HR.out.1 k hlt
    obtain ⟨x,hx⟩ : ∃ x,x = c.getD k 0:=⟨_,rfl⟩
    rw [<- hx] at hcell
    have HX:=Lib.hid hx
    clear hx
    by_cases h0 : 0 < x
    · have HP : Hid (pc + 1 = posC c (k + 1)):=by show _ = _; rw [a6k _ _ hlt,<- HX.out,if_pos h0,<- H.out]
      go_wp2_with fail
      refine (a7z _ _ _ _ HR.out.1).mono ?_
      rintro e w' ⟨rfl,rfl⟩
      rw [HR.out.2]
      go_wp2_with fail
      go_round
      case rel=>exact ⟨k + 1,pc + 1,by go_num,by go_num,by omega,by omega,HP⟩
      case measure=>simp [intOf]; omega
    · have HP : Hid (pc = posC c (k + 1)):=by show _ = _; rw [a6k _ _ hlt,<- HX.out,if_neg h0,<- H.out]; rfl
      go_wp2_with fail
      go_round
      case rel=>exact ⟨k + 1,pc,rfl,by go_num,by omega,by omega,HP⟩
      case measure=>simp [intOf]; omega
  · obtain rfl : k = c.length:=by omega
    have HE : Hid (pc = manyC c):=by
     show _ = _; rw [H.out]; unfold posC manyC; rw [if_pos HR.out.2,List.take_length]
    go_wp2_with fail
    go_ret
    exact ⟨a1y (by rw [HE.out]),rfl⟩
set_option maxRecDepth 100000 in
theorem c4u (n : Nat) (w : World) (h : n <= 1000000) : Calls Tryz.prog 109 #[.int .i64 n] w λ e w'=>e = .returned (.int .i64 (ceilI n)) /\ w = w':=by
 by_cases h2 : n < 2
 · have HE : Hid (ceilI n = 0):=by
     show _ = _
     have : n = 0 \/ n = 1:=by omega
     rcases this with rfl | rfl <;> rfl
   go_enter Tryz.func109,Tryz.ntmps109
   go_wp2_with fail
   go_ret
   exact ⟨a1y (by rw [HE.out]; rfl),rfl⟩
 · go_enter Tryz.func109,Tryz.ntmps109
   go_wp2_with fail
   refine (a4L _ _ (by omega)).mono ?_
   rintro e w' ⟨rfl,rfl⟩
   go_wp2_with fail
   go_ret
   exact ⟨rfl,rfl⟩
theorem b4t (a b : Int) : mx a b = max a b:=by unfold mx; split <;> omega
theorem c4v (a b : Int) : mn a b = min a b:=by unfold mn; split <;> omega
set_option maxRecDepth 100000 in
theorem c4w (first x y : Int) (A : Option Addr) (cp : Nat) (w : World) (hr : (Kd.int .i64).C w A 2 [x,y]) :
    Calls Tryz.prog 107 #[.int .i64 first,.slice A 2 cp] w λ e w'=>e = .returned (.int .i64 (mx (mx first x) y)) /\ w = w':=by
 obtain ⟨ad,rfl,hc⟩:=a4G hr (by decide)
 have h0:=hc 0 (by decide)
 have h1:=hc 1 (by decide)
 simp only [List.getD_cons_zero,List.getD_cons_succ] at h0 h1
 rw [show ad.add 0 = ad from rfl] at h0
 clear hc hr
 have h2 : w.cell? ⟨ad.block,ad.off + 1,none⟩ = some (.int .i64 y):=by rw [<- h1]; simp [Addr.add]
 clear h1
 go_enter Tryz.func107,Tryz.ntmps107
 go_wp2_with fail
 go_loop [0,9] (λ mv kv=>(mv = .int .i64 first /\ kv = .int .i64 0) \/ (mv = .int .i64 (max first x) /\ kv = .int .i64 1) \/ (mv = .int .i64 (max (max first x) y) /\ kv = .int .i64 2)) (λ _ kv=>2 - (intOf kv).toNat)
 case atStart=>exact .inl ⟨rfl,rfl⟩
 case round=>
  rcases hrel with ⟨rfl,rfl⟩ | ⟨rfl,rfl⟩ | ⟨rfl,rfl⟩
  · go_wp2_with fail
    go_round
    case rel=>exact .inr (.inl ⟨rfl,rfl⟩)
    case measure=>simp [intOf]
  · go_wp2_with fail
    go_round
    case rel=>exact .inr (.inr ⟨by rw [Int.max_assoc],rfl⟩)
    case measure=>simp [intOf]
  · go_wp2_with fail
    go_ret
    exact ⟨a1y (by rw [b4t,b4t,Int.max_assoc]),rfl⟩
theorem c4x {W : World} (x y : Int) {ok : Nat -> Prop} (hok : ok W.heap.size) (base : Nat) (hb : base <= W.heap.size) : (Kd.int .i64).R 3 (W.alloc (.cells #[.int .i64 x,.int .i64 y] 3)) base ok (.slice (some ⟨W.heap.size,0,none⟩) 2 2) [x,y]:=by
 refine ⟨λ k hk=>by cases hk; exact hok,[.int .i64 x,.int .i64 y],⟨rfl,.inr ⟨W.heap.size,2,#[.int .i64 x,.int .i64 y],by simp,hb,a0m W _,by simp,by unfold maxLen; omega,rfl,rfl⟩⟩,?_⟩
 refine Reps.snoc (ps:=[x]) (cs:=[.int .i64 x]) (p:=y) (c:=[.int .i64 y]) (Reps.snoc (ps:=[]) (cs:=[]) (p:=x) (c:=[.int .i64 x]) (Reps.none _ _) ?_ rfl) ?_ rfl
 · rfl
 · rfl
set_option maxRecDepth 100000 in
theorem b4u (n m : Nat) (most : Int) (w : World) (hn : n <= 1000000) (hm : m <= 1000000) :
    Calls Tryz.prog 56 #[.int .i64 n,.int .i64 m,.int .i64 most] w λ e w'=>e = .returned (.int .i64 (pickI n m most)) /\ Below w.heap.size w w':=by
 have hf:=b3a n (by omega)
 obtain ⟨f,hf1⟩ : ∃ f,f = a0r (n : Int):=⟨_,rfl⟩
 rw [<- hf1] at hf
 have H:=Lib.hid hf1
 clear hf1
 have HC : Hid (∀ W : World,(Kd.int .i64).C (W.alloc (.cells #[.int .i64 5,.int .i64 (ceilI m)] 3)) (some ⟨W.heap.size,0,none⟩) 2 [5,(ceilI m : Int)]):=λ W=>by
  have:=c4x (W:=W) 5 (ceilI m : Int) (ok:=λ _=>True) trivial W.heap.size (Nat.le_refl _)
  exact (Kd.R_reads' this).2.2
 go_enter Tryz.func56,Tryz.ntmps56
 go_wp2_with fail
 refine (a5Q _ _ (by omega)).mono ?_
 rintro e w' ⟨rfl,rfl⟩
 rw [<- H.out]
 go_wp2_with fail
 refine (c4u _ _ hm).mono ?_
 rintro e w' ⟨rfl,rfl⟩
 go_wp2_with fail
 refine (c4w _ _ _ _ _ _ (HC.out _)).mono ?_
 rintro e w' ⟨rfl,rfl⟩
 go_wp2_with fail
 go_ret
 refine ⟨a1y ?_,(Below.refl _ _).alloc (Nat.le_refl _) _⟩
 unfold pickI
 rw [<- H.out,c4v]
end Go.Proofs.YtipjlneepponpaaGreat
namespace Go.Proofs.YtipjlneepponpaaGreat
open Go.RowKit Go.IntWalk Go.Proofs.YtipjlneepponpaaGreatW.PrintWords HeapL
structure CnRel (N : Nat) (w0 : World) (c : List Int) (P n : Int) (k : Nat) (v : Value) (S : Int) (w : World) : Prop where
 q : (Kd.int .i64).R 3 w N (λ _=>True) (.slice (some ⟨N,0,none⟩) 256 256) (qTo c P n k)
 l : k3.R 167 w N (λ b=>b ≠ N) v (candN (restL c P n) (hadL c P n) k)
 below : Below N w0 w
 sum : S = (qTo c P n k).sum
 rng : 0 <= S /\ S <= 4096 * k
theorem c4y (c : List Int) (P n : Int) {k : Nat} (hk : k < 256) : (hadL c P n).getD k false = decide (c.getD k 0 * P / n = 0):=by
 unfold hadL; rw [List.getD_eq_getElem?_getD,List.getElem?_map,List.getElem?_range hk]; rfl
theorem b4v (c : List Int) (P n : Int) {k : Nat} (hk : k < 256) : qTo c P n (k + 1) = (qTo c P n k).set k (q0F c P n k):=(a6t (q0F c P n) hk).symm
theorem c4z (c : List Int) (P n : Int) {k : Nat} (hk : k < 256) : (qTo c P n k).getD k 0 = 0:=by unfold qTo; rw [a3L _ hk,if_neg (by omega)]
theorem c4A (c : List Int) (P n : Int) {k : Nat} (hk : k < 256) : (qTo c P n (k + 1)).sum = (qTo c P n k).sum + q0F c P n k:=by
 rw [b4v c P n hk,a6q _ _ _ (by unfold qTo; rw [a1r]; exact hk)]
 have : (qTo c P n k).getD k 0 = 0:=by unfold qTo; rw [a3L _ hk,if_neg (by omega)]
 omega
theorem CnRel.next {N : Nat} {w0 wr wr' : World} {c : List Int} {P n : Int} {k : Nat} {v v' : Value} {S y : Int} (H : CnRel N w0 c P n k v S wr) (hk : k < 256) (hq : (Kd.int .i64).R 3 wr' N (λ _=>True) (.slice (some ⟨N,0,none⟩) 256 256) ((qTo c P n k).set k y))
    (hl : k3.R 167 wr' N (λ b=>b ≠ N) v' (candN (restL c P n) (hadL c P n) (k + 1))) (hb : Below N w0 wr') (hy : y = q0F c P n k) (hy2 : 0 <= y /\ y <= 4096) : CnRel N w0 c P n (k + 1) v' (S + y) wr':=by
 have hs:=H.sum; have hr:=H.rng
 refine ⟨by rw [b4v c P n hk,<- hy]; exact hq,hl,hb,by rw [c4A c P n hk,<- hy,hs],by omega,by omega⟩
theorem CnRel.far {N : Nat} {w0 wr : World} {c : List Int} {P n : Int} {k : Nat} {v : Value} {S : Int} (H : CnRel N w0 c P n k v S wr) (j : Nat) (y : Int) :
    (Kd.int .i64).R 3 (wr.setCell ⟨N,j,none⟩ (.int .i64 y)) N (λ _=>True) (.slice (some ⟨N,0,none⟩) 256 256) ((qTo c P n k).set j y) /\ k3.R 167 (wr.setCell ⟨N,j,none⟩ (.int .i64 y)) N (λ b=>b ≠ N) v (candN (restL c P n) (hadL c P n) k) /\ Below N w0 (wr.setCell ⟨N,j,none⟩ (.int .i64 y)):=by
 have:=Kd.R_putn H.q (j : Int) y
 rw [Int.toNat_natCast] at this
 exact ⟨this,Kd.R_far (p:=⟨N,j,none⟩) H.l (λ k hk=>hk) _,H.below.setCell (Nat.le_refl _) _⟩
theorem b4w : ∀ {l : List Int},(∀ x ∈ l,x = 0) -> l.sum = 0
 | [],_=>rfl
 | a :: l,h=>by rw [List.sum_cons,h a (by simp),b4w (λ x hx=>h x (by simp [hx]))]; rfl
theorem c4B {c : List Int} {r : Nat} (h : Can c r) : ∃ s,s < 256 /\ 0 < c.getD s 0:=by
 refine Classical.byContradiction λ hn=>?_
 have : c.sum = 0:=b4w (λ x hx=>by
  obtain ⟨s,hs,rfl⟩:=List.getElem_of_mem hx
  have h1:=h.nonneg _ hx
  have h2 : ¬ 0 < c.getD s 0:=λ hp=>hn ⟨s,by have:=h.len; omega,hp⟩
  rw [List.getD_eq_getElem?_getD,List.getElem?_eq_getElem hs] at h2
  simp only [Option.getD_some] at h2
  omega)
 have:=h.pos
 omega
set_option maxRecDepth 100000 in
set_option maxHeartbeats 2000000 in
theorem b4x (A : Option Addr) (cp : Nat) (c : List Int) (r : Nat) (w : World) (hr : (Kd.int .i64).C w A 256 c) (h : Can c r) :
    Calls Tryz.prog 106 #[.slice A 256 cp,.int .i64 r] w (a8s c r w):=by
 have HR:=Lib.hid hr
 have HC:=Lib.hid h
 have hR : a0M c = true:=rightC_iff.2 ⟨h.len,h.nonneg,h.le⟩
 have hT : a0Y c = c.sum:=by unfold a0Y; rw [if_pos hR]
 have hM : manyC c <= 2 ^ r:=by unfold manyC; rw [if_pos hR]; exact h.many
 obtain ⟨n,hn⟩ : ∃ n : Nat,c.sum = n:=⟨c.sum.toNat,by have:=h.pos; omega⟩
 have hr' : (Kd.int .i64).C w A c.length c:=by rw [h.len]; exact hr
 have HTot:=Lib.hid (b1f A cp c w hr')
 rw [hT,hn,h.len] at HTot
 obtain ⟨P,hP⟩ : ∃ P : Nat,2 ^ r = P:=⟨_,rfl⟩
 have hPI : (2 : Int) ^ r = (P : Int):=by rw [<- hP]; simp
 have hPb : 1 <= P /\ P <= 4096:=by have:=a1s h.r12; rw [hPI] at this; omega
 have HM2 : Hid (∀ W,Below w.heap.size w W -> Calls Tryz.prog 57 #[.slice A 256 cp] W λ e w'=>e = .returned (.int .i64 (manyC c)) /\ W = w'):=λ W hb=>by
  have:=a5c A cp c W (Kd.C_below hr' hb) hR
  rw [h.len] at this; exact this
 have HN : Hid (c.sum = n /\ 2 ^ r = P /\ (2 : Int) ^ r = (P : Int) /\ manyC c <= P):=⟨hn,hP,hPI,by omega⟩
 have hn0 : ((n : Int) == 0) = false:=by have:=h.pos; simp; omega
 have hn1 : 1 <= n /\ n <= 1073741824:=by have:=h.pos; have:=h.le; omega
 have hr1 : decide ((r : Int) < 1) = false:=decide_eq_false (by have:=h.r1; omega)
 have hr2 : decide (12 < (r : Int)) = false:=decide_eq_false (by have:=h.r12; omega)
 have hr0 : (0 : Int) <= r:=by omega
 have hr12 : (r : Int) <= 12:=by have:=h.r12; omega
 have hw1 : IntKind.i64.wrap (2 ^ r) = (P : Int):=by rw [hPI]; exact i64_in _ (by omega)
 have hmp : decide (P < manyC c) = false:=decide_eq_false (by have:=HN.out.2.2.2; omega)
 clear hr hr' h hR hT hM hn hP hPI
 have hmi : ∀ w : World,(Instr.makeSlice 47 (.int .i64 256) (.int .i64 256)).run Tryz.prog w = .ok (.slice (some ⟨w.heap.size,0,none⟩) 256 256) (w.alloc (.cells (madeCells #[.int .i64 0] 256) 3)):=λ w=>a8o 256 (by omega) w
 go_enter Tryz.func106,Tryz.ntmps106
 go_wp2_with fail
 refine HTot.out.mono ?_
 rintro e w1 ⟨rfl,rfl⟩
 go_wp2_with fail
 go_quiet ((go_at_call 57; refine Calls.quiet_of_same ((HM2.out _ (a0c (Below.refl _ _) _)).mono λ e w' h=>⟨h.1,h.2.symm⟩)))
 have HB0 : Hid (Below w.heap.size w (w.drewN nq)):=a0c (Below.refl _ _) _
 obtain ⟨w1,hw1'⟩ : ∃ w1,w1 = w.drewN nq:=⟨_,rfl⟩
 rw [<- hw1'] at HB0 ⊢
 clear hw1'
 obtain ⟨N,hNs⟩ : ∃ N,N = w1.heap.size:=⟨_,rfl⟩
 have HNs:=Lib.hid hNs
 have HI : Hid (CnRel N w1 c P n 0 (.slice none 0 0) 0 (w1.alloc (.cells (madeCells #[.int .i64 0] 256) 3))):=by
  refine ⟨?_,?_,?_,?_,by omega⟩
  · rw [(a8q c P n).1,hNs]; exact a8M 256 3 w1 _ trivial _ (Nat.le_refl _) (by omega)
  · exact Kd.R_nil _ _ _ _ _
  · rw [hNs]; exact (Below.refl _ _).alloc (Nat.le_refl _) _
  · rw [(a8q c P n).1]; decide
 go_wp2_with fail
 rw [<- hNs]
 obtain ⟨W,hW⟩ : ∃ W,W = w1.alloc (.cells (madeCells #[.int .i64 0] 256) 3):=⟨_,rfl⟩
 rw [<- hW] at HI ⊢
 clear hW hNs hmi hmp
 go_loopw [8,9,34] (λ lv sv kv wr=>∃ (k : Nat) (S : Int),sv = .int .i64 S /\ kv = .int .i64 k /\ k <= 256 /\ 0 <= S /\ S <= 4096 * k /\ Hid (CnRel N w1 c P n k lv S wr)) (λ _ _ kv _=>256 - (intOf kv).toNat)
 case atStart=>exact ⟨0,0,rfl,rfl,by omega,by omega,by omega,HI⟩
 case round=>
  obtain ⟨k,S,rfl,rfl,hk,hS0,hS1,H⟩:=hrel
  by_cases hlt : k < 256
  · have hC:=Kd.C_below HR.out (HB0.out.trans (H.out.below.mono (by have:=HB0.out.size; have:=HNs.out; omega)))
    obtain ⟨ad,rfl,hcx⟩:=a0G hC k (by omega)
    have hcg:=HC.out.get k
    have hq0:=HC.out.q0 k
    rw [HN.out.2.2.1,HN.out.1] at hq0
    obtain ⟨x,hx⟩ : ∃ x : Nat,c.getD k 0 = x:=⟨(c.getD k 0).toNat,by omega⟩
    rw [hx] at hcx hcg
    obtain ⟨hq1,hq2⟩:=a1A H.out.q k hlt
    rw [c4z c P n hlt] at hq1
    obtain ⟨m,hm⟩ : ∃ m : Nat,m = x * P:=⟨_,rfl⟩
    have hxn : x <= n:=by have:=HN.out.1; omega
    have hm42 : m <= 4398046511104:=by
     rw [hm]
     calc x * P <= 1073741824 * 4096:=Nat.mul_le_mul (by omega) (by omega)
      _ = 4398046511104:=by decide
    have hmI : (x : Int) * (P : Int) = (m : Int):=by rw [hm]; simp
    have hmR : (x : Int) * 2 ^ r = (m : Int):=by rw [HN.out.2.2.1]; exact hmI
    have hdq : (m : Int) / (n : Int) = ((m / n : Nat) : Int):=by simp
    have hrm : (m : Int) % (n : Int) = ((m % n : Nat) : Int):=by simp
    obtain ⟨dq,hdqe⟩ : ∃ dq,dq = m / n:=⟨_,rfl⟩
    obtain ⟨rm,hrme⟩ : ∃ rm,rm = m % n:=⟨_,rfl⟩
    rw [<- hdqe] at hdq
    rw [<- hrme] at hrm
    have hdb : dq <= 4398046511104:=by rw [hdqe]; exact Nat.le_trans (Nat.div_le_self _ _) hm42
    have hn00 : ¬ (n : Int) = 0:=by omega
    have HX:=Lib.hid (And.intro hx (And.intro hm (And.intro hdqe (And.intro hrme hq0))))
    have hwm : IntKind.i64.wrap ((x : Int) * 2 ^ r) = (m : Int):=by rw [hmR]; exact i64_in _ (by omega)
    clear hx hm hdqe hrme hC hmR hq0
    obtain ⟨A1,c1,rfl⟩:=Kd.R_slice H.out.l
    have HL0:=Lib.hid (H.out.far k (dq : Int))
    have HQF : Hid (q0F c P n k = if dq = 0 then min (x : Int) 1 else dq):=by
     show _ = _
     unfold q0F
     rw [HX.out.1,hmI,hdq]
     by_cases e : dq = 0
     · rw [if_pos e,if_pos (by omega)]
     · rw [if_neg e,if_neg (by omega)]
    have HHD : Hid ((hadL c P n).getD k false = decide (dq = 0)):=by
     show _ = _
     rw [c4y c P n hlt,HX.out.1,hmI,hdq]
     by_cases e : dq = 0
     · rw [decide_eq_true (by omega),decide_eq_true e]
     · rw [decide_eq_false (by omega),decide_eq_false e]
    by_cases hz : 0 < dq
    · have hdq4 : dq <= 4096:=by
        have:=HX.out.2.2.2.2.2.1
        rw [HQF.out,if_neg (by omega)] at this; omega
      have HSz : Hid (N <= (wr.setCell ⟨N,k,none⟩ (.int .i64 (dq : Int))).heap.size):=by show _ <= _; have:=Kd.R_lt HL0.out.1 N rfl; omega
      have HLn : Hid (((candN (restL c P n) (hadL c P n) k).length + 1) * 24 <= 140737488355328):=by show _ <= _; have:=a8X (restL c P n) (hadL c P n) k; omega
      have HFr : Hid (∀ j,(wr.setCell ⟨N,k,none⟩ (.int .i64 (dq : Int))).heap.size <= j -> j ≠ N):=λ j hj e=>by have:=Kd.R_lt HL0.out.1 N rfl; omega
      have HNe : Hid ((Value.slice A1 (candN (restL c P n) (hadL c P n) k).length c1).ownBlock ≠ some N):=λ e=>HL0.out.2.1.1 N e rfl
      have hqg : ((qTo c P n k).set k (dq : Int)).getD k 0 = (dq : Int):=by rw [a2U _ _ _ _ (by unfold qTo; rw [a1r]; omega),if_pos rfl]
      obtain ⟨L,hL⟩ : ∃ L,L = candN (restL c P n) (hadL c P n) k:=⟨_,rfl⟩
      obtain ⟨Q,hQ⟩ : ∃ Q,Q = (qTo c P n k).set k (dq : Int):=⟨_,rfl⟩
      rw [<- hL] at HLn HNe
      have HL1 : Hid (k3.R 167 (wr.setCell ⟨N,k,none⟩ (.int .i64 (dq : Int))) N (λ b=>b ≠ N) (.slice A1 L.length c1) L):=by rw [hL]; exact HL0.out.2.1
      have HQ1 : Hid ((Kd.int .i64).R 3 (wr.setCell ⟨N,k,none⟩ (.int .i64 (dq : Int))) N (λ _=>True) (.slice (some ⟨N,0,none⟩) 256 256) Q):=by rw [hQ]; exact HL0.out.1
      rw [<- hQ] at hqg
      have HQG:=Lib.hid (And.intro hqg (And.intro hL hQ))
      have HB1:=Lib.hid HL0.out.2.2
      have HH:=Lib.hid H.out
      rw [<- hL]
      clear hqg hL hQ HL0 H
      go_wp2_with (at_builtin; refine Kd.R_append k3 (w0:=w1) (W:=wr.setCell ⟨N,k,none⟩ (.int .i64 (dq : Int))) N rfl (.tmp 53) (.tmp 61) 165 167 _ 24 rfl Tryz.underlying165 a8S rfl (by decide) (by decide) (.slice A1 L.length c1) L ((k : Int),(rm : Int),0) [.int .i64 k,.int .i64 rm,.int .i64 0] (λ b=>b ≠ N) (λ _=>False) rfl (by simp [go_sem]) (a4I _ _ _ _) (λ _ h=>h.elim) HFr.out HL1.out HB1.out HSz.out HLn.out ?_; intro v2 w2 hr2 hb2 hg2 hat2; have HQ2:=Lib.hid (Kd.R_grown1 HQ1.out rfl hg2 HNe.out); have hq5:=(a1A HQ2.out k hlt).1; rw [HQG.out.1] at hq5; have HR2:=Lib.hid hr2; have HB2:=Lib.hid hb2; clear hr2 hb2 hg2 hat2)
      go_roundw
      case rel=>
       refine ⟨k + 1,S + dq,rfl,by go_num,by omega,by omega,by omega,?_⟩
       have hq2:=HQ2.out
       rw [HQG.out.2.2] at hq2
       refine HH.out.next hlt hq2 ?_ HB2.out (by rw [HQF.out,if_neg (by omega)]) (by omega)
       rw [a8W,if_pos (by rw [HHD.out]; exact decide_eq_false (by omega))]
       have e : a1B (restL c P n) k = ((k : Int),(rm : Int),0):=by
        unfold a1B restL
        rw [a3L _ hlt,HX.out.1,hmI,hrm]
       rw [e,<- HQG.out.2.1]; exact HR2.out
      case measure=>simp [intOf]; omega
    · have hz0 : dq = 0:=by omega
      subst hz0
      by_cases hx0 : 0 < x
      · go_wp2_with fail
        go_roundw
        case rel=>
         refine ⟨k + 1,S + 1,by go_num,by go_num,by omega,by omega,by omega,?_⟩
         have hqq:=Kd.R_putn HL0.out.1 (k : Int) (1 : Int)
         rw [Int.toNat_natCast,b3k] at hqq
         refine H.out.next hlt hqq ?_ (HL0.out.2.2.setCell (Nat.le_refl _) _) (by rw [HQF.out,if_pos rfl]; omega) (by omega)
         rw [a8W,if_neg (by rw [HHD.out]; simp)]
         exact Kd.R_far (p:=⟨N,k,none⟩) HL0.out.2.1 (λ k hk=>hk) _
        case measure=>simp [intOf]; omega
      · go_wp2_with fail
        go_roundw
        case rel=>
         refine ⟨k + 1,S + 0,by go_num,by go_num,by omega,by omega,by omega,?_⟩
         refine H.out.next hlt HL0.out.1 ?_ HL0.out.2.2 (by rw [HQF.out,if_pos rfl]; omega) (by omega)
         rw [a8W,if_neg (by rw [HHD.out]; simp)]
         exact HL0.out.2.1
        case measure=>simp [intOf]; omega
  · obtain rfl : k = 256:=by omega
    obtain ⟨A1,c1,rfl⟩:=Kd.R_slice H.out.l
    have HQ0 : Hid ((Kd.int .i64).R 3 wr N (λ _=>True) (.slice (some ⟨N,0,none⟩) 256 256) (q0L c P n)):=by rw [<- (a8r c P n).1]; exact H.out.q
    have HS : Hid (S = (q0L c P n).sum):=by rw [<- (a8r c P n).1]; exact H.out.sum
    have HPP : Hid ((P : Int) = 2 ^ r /\ (n : Int) = c.sum):=⟨HN.out.2.2.1.symm,HN.out.1.symm⟩
    have HB1:=Lib.hid H.out.below
    have HL1:=Lib.hid H.out.l
    obtain ⟨M,hM⟩ : ∃ M : Nat,M = giveM c (2 ^ r) c.sum:=⟨_,rfl⟩
    have hMv : max (0 : Int) ((P : Int) - S) = (M : Int):=by
     rw [hM]; unfold giveM; rw [<- HPP.out.1,<- HPP.out.2,<- HS.out]; omega
    have hM4 : M <= 4096:=by omega
    obtain ⟨T,hT⟩ : ∃ T : Nat,T = (S - P).toNat:=⟨_,rfl⟩
    have hTv : max (0 : Int) (S - (P : Int)) = (T : Int):=by rw [hT]; omega
    have HMT:=Lib.hid (And.intro hM hT)
    have hTb : T <= 2000000:=by omega
    obtain ⟨L,hL⟩ : ∃ L,L = candN (restL c P n) (hadL c P n) 256:=⟨_,rfl⟩
    rw [<- hL]
    have HLE:=Lib.hid hL
    clear hM hT hL H
    go_wp2_with fail
    have hgw0:=a4o HC.out 0 (Nat.zero_le _)
    have hen:=HC.out.enough
    rw [<- HPP.out.1,<- HPP.out.2] at hgw0 hen
    refine (c4q N 256 N (q0L c P n) (.slice A1 L.length c1) (restL c P n) (hadL c P n) M wr HQ0.out (by rw [HLE.out]; exact HL1.out) (by have:=Kd.R_lt HQ0.out N rfl; omega) (a1r _) (by simp [hadL])
     (λ s=>⟨(hgw0.2.2.1 s).1,by have:=(hgw0.2.2.1 s).2; simp only [a0Q] at this; omega⟩) (by rw [<- HS.out] at hen; omega) hM4).mono ?_
    clear hgw0 hen
    rintro e w3 ⟨rfl,hq3,hb3⟩
    obtain ⟨G,hG⟩ : ∃ G,G = (a0Q (restL c P n) M (q0L c P n,hadL c P n)).1:=⟨_,rfl⟩
    rw [<- hG] at hq3
    have H3:=Lib.hid (And.intro hq3 (And.intro hb3 hG))
    clear hq3 hb3 hG hMv
    go_wp2_with fail
    have hge:=a8n HC.out
    have hgw:=(a4o HC.out M (by rw [<- HMT.out.1]; exact Nat.le_refl _)).2.2.2.2.1
    rw [<- HMT.out.1,<- HPP.out.1,<- HPP.out.2,<- H3.out.2.2] at hge
    rw [<- HPP.out.1,<- HPP.out.2,<- H3.out.2.2,<- HS.out] at hgw
    have hTe : (G.sum - 2 ^ r).toNat = T:=by
     rw [<- HPP.out.1,hgw]
     have h1 : M = ((P : Int) - S).toNat:=by
      have:=HMT.out.1; unfold giveM at this; rw [<- HPP.out.1,<- HPP.out.2,<- HS.out] at this; exact this
     have h2:=HMT.out.2
     omega
    have HT2 : Hid (a8Z c G T):=λ k hk=>by
     have:=(a6r HC.out hge.1 k (by rw [hTe]; exact hk)).1
     exact ⟨this.len,this.rng,this.iff⟩
    have HNL : Hid (a0N c T G = normL c r):=by
     show _ = _
     unfold normL
     simp only []
     rw [<- HMT.out.1,<- HPP.out.1,<- HPP.out.2,<- H3.out.2.2,HPP.out.1,hTe]
    have HB3 : Hid (Below N w1 w3):=HB1.out.trans H3.out.2.1
    have hcs:=HC.out.le
    clear hge hgw
    refine (c4t N 256 cp A w1 N HNs.out G c T w3 H3.out.1 (Kd.C_below HR.out HB0.out) HB3.out HC.out.len (λ s=>⟨(HC.out.get s).1,by have:=(HC.out.get s).2; omega⟩) HT2.out hTb (λ _=>c4B HC.out)).mono ?_
    rintro e w4 ⟨rfl,hq4,hb4⟩
    have H4:=Lib.hid (And.intro hq4 hb4)
    clear hq4 hb4 hTe
    go_wp2_with fail
    go_ret2
    have hNl : w.heap.size <= N:=by rw [HNs.out]; exact HB0.out.size
    refine ⟨_,rfl,?_,HB0.out.trans (H4.out.2.mono hNl)⟩
    rw [<- HNL.out]
    exact Kd.R_lower H4.out.1 hNl
end Go.Proofs.YtipjlneepponpaaGreat
namespace Go.Proofs.YtipjlneepponpaaGreat
open Go.RowKit Go.IntWalk Go.Proofs.YtipjlneepponpaaGreatW.PrintWords
set_option maxRecDepth 100000 in
theorem c4C (i : Int) (p : Nat) (v : Value) (w : World) (h : w.cell? ⟨p,0,none⟩ = some v) :
    Calls Tryz.prog 58 #[.int .i64 i,.pointer (some ⟨p,0,none⟩)] w λ e w'=>e = .returned v /\ w = w':=by
 go_enter Tryz.func58,Tryz.ntmps58
 go_wp2_with fail
 go_ret
 exact ⟨rfl,rfl⟩
set_option maxRecDepth 100000 in
set_option maxHeartbeats 2000000 in
theorem c4D (p ch r : Nat) (Ah : Option Addr) (h : List Int) (w : World) (hp : w.heap[p]? = some (.cells #[.slice Ah 256 ch] 47 (0,0))) (hv : (Kd.int .i64).C w Ah 256 h) (hc : Can h r) (hm : 0 < manyC h) :
    Calls Tryz.prog 55 #[.int .i64 r,.int .i64 1,.func (Fn.func 58) #[] #[.pointer (some ⟨p,0,none⟩)]] w (MadeM r true [normL h r] w):=by
 obtain ⟨W2,hW2⟩ : ∃ W2,W2 = (w.alloc (.cells #[.int .i64 0,.bool false,.slice none 0 0] 31)).alloc (.cells #[.int .i64 r,.bool true,.slice none 0 0] 31):=⟨_,rfl⟩
 have hb2 : Below w.heap.size w W2:=by rw [hW2]; exact ((Below.refl w.heap.size w).alloc (Nat.le_refl _) _).alloc (by simp) _
 have hs2 : W2.heap.size = w.heap.size + 2:=by rw [hW2]; simp
 have hm1 : W2.heap[w.heap.size + 1]? = some (.cells #[.int .i64 r,.bool true,.slice none 0 0] 31 (0,0)):=by rw [hW2]; exact a2C _ _ _
 have hm0 : W2.heap[w.heap.size]? = some (.cells #[.int .i64 0,.bool false,.slice none 0 0] 31 (0,0)):=by rw [hW2]; exact a0q (a0m _ _) _
 have HP2:=Lib.hid (a0l hp hb2)
 have HV2:=Lib.hid (Kd.C_below hv hb2)
 have H2:=Lib.hid (And.intro hb2 (And.intro hs2 (And.intro hm1 hm0)))
 have HC:=Lib.hid (And.intro hc hm)
 clear hp hv hb2 hs2 hm1 hm0 hc hm
 go_enter Tryz.func55,Tryz.ntmps55
 go_wp2_with fail
 rw [<- hW2]
 clear hW2
 obtain ⟨m0,hm0⟩ : ∃ m0,m0 = w.heap.size:=⟨_,rfl⟩
 have HM0:=Lib.hid hm0
 rw [<- hm0] at H2 ⊢
 clear hm0
 obtain ⟨m1,hm1⟩ : ∃ m1,m1 = m0 + 1:=⟨_,rfl⟩
 have HM1:=Lib.hid hm1
 rw [<- hm1] at H2 ⊢
 clear hm1
 go_loopw [16] (λ kv wr=>(kv = .int .i64 0 /\ wr = W2) \/ (kv = .int .i64 1 /\ Hid (∃ A1 c1,wr.heap[m1]? = some (.cells #[.int .i64 r,.bool true,.slice A1 1 c1] 31 (0,0)) /\ wr.heap[m0]? = some (.cells #[.int .i64 0,.bool false,.slice none 0 0] 31 (0,0)) /\ kq.R 47 wr W2.heap.size (λ _=>True) (.slice A1 1 c1) [normL h r] /\ Below m0 w wr))) (λ kv _=>1 - (intOf kv).toNat)
 case atStart=>exact .inl ⟨rfl,rfl⟩
 case round=>
  rcases hrel with ⟨rfl,rfl⟩ | ⟨rfl,H⟩
  · have hpc : wr.cell? ⟨p,0,none⟩ = some (.slice Ah 256 ch):=(a0a HP2.out 0).trans rfl
    go_wp2_with fail
    refine (c4C 0 p (.slice Ah 256 ch) wr hpc).mono ?_
    rintro e w' ⟨rfl,rfl⟩
    go_wp2_with fail
    have hmany:=a5c Ah ch h wr (by rw [HC.out.1.len]; exact HV2.out) (rightC_iff.2 ⟨HC.out.1.len,HC.out.1.nonneg,HC.out.1.le⟩)
    rw [HC.out.1.len] at hmany
    refine hmany.mono ?_
    rintro e w' ⟨rfl,rfl⟩
    have hmp : 0 < manyC h:=HC.out.2
    clear hmany
    go_wp2_with fail
    refine (b4x Ah ch h r wr HV2.out HC.out.1).mono ?_
    rintro e w5 ⟨vq,rfl,hq,hb5⟩
    obtain ⟨Aq,cq,rfl⟩:=Kd.R_slice hq
    obtain ⟨ql,hql⟩ : ∃ ql,ql = (normL h r).length:=⟨_,rfl⟩
    have HQ:=Lib.hid hq
    rw [<- hql] at HQ ⊢
    have HB5:=Lib.hid hb5
    have h15 : w5.heap[m1]? = some (.cells #[.int .i64 r,.bool true,.slice none 0 0] 31 (0,0)):=a0l H2.out.2.2.1 hb5
    have H05:=Lib.hid (a0l H2.out.2.2.2 hb5)
    obtain ⟨⟨ca,cb,cc⟩,fa,fb,fc⟩:=cell3 h15
    have H15:=Lib.hid h15
    have HBB : Hid (Below wr.heap.size wr w5):=hb5
    have HS5 : Hid (wr.heap.size <= w5.heap.size):=hb5.size
    have hm1l:=a0f h15
    have hm1n : ¬ m1 = w5.heap.size:=by omega
    have hm1n' : ¬ w5.heap.size = m1:=by omega
    have HL : Hid ((([] : List (List Int)).length + 1) * 24 <= 140737488355328):=by show _ <= _; simp
    clear hq hb5 h15 hql
    go_wp2_with (at_builtin; refine Kd.R_append kq (w0:=wr) (W:=w5) wr.heap.size rfl (.tmp 32) (.tmp 34) 29 47 (.slice none 0 0) 24 rfl Tryz.underlying29 a6w rfl (by decide) (by decide) (.slice none 0 0) [] (normL h r) [.slice Aq ql cq] (λ _=>True) (λ _=>True) rfl (by simp [go_sem]) ⟨_,rfl,HQ.out⟩ (λ _ _=>⟨trivial,by simp [Value.ownBlock]⟩) (λ _ _=>trivial) (Kd.R_nil _ _ _ _ _) HBB.out HS5.out HL.out ?_; intro v1 w6 hr6 hb6 hg6 hat6; have h16:=a0Z H15.out hg6 (by simp [Value.ownBlock]); have H16:=Lib.hid h16; have H06:=Lib.hid (a0Z H05.out hg6 (by simp [Value.ownBlock])); obtain ⟨⟨da,db,dc⟩,ga,gb,gc⟩:=cell3 h16; obtain ⟨A1,c1,rfl⟩:=Kd.R_slice hr6; have HR6:=Lib.hid hr6; have HB6:=Lib.hid hb6; clear hr6 hb6 hg6 hat6 h16)
    go_roundw
    case rel=>
     have hmm : m0 <= wr.heap.size /\ m1 < wr.heap.size /\ m0 ≠ m1:=by have:=a0f H2.out.2.2.1; have:=a0f H2.out.2.2.2; have:=HM1.out; omega
     have h1:=H16.out
     have h0:=H06.out
     refine .inr ⟨rfl,A1,c1,?_,?_,?_,?_⟩
     · exact a0v h1 2 _
     · exact a1U h0 (p:=⟨m1,2,none⟩) hmm.2.2 _
     · refine Kd.R_mono (Kd.R_far (p:=⟨m1,2,none⟩) (Kd.R_bound HR6.out) (λ k hk=>?_) _) (λ _ _=>trivial)
       show k ≠ m1
       have:=hk.2.1
       omega
     · refine (H2.out.1.trans (HB6.out.mono hmm.1)).setCell ?_ _
       show m0 <= m1
       have:=HM1.out; omega
    case measure=>simp [intOf]
  · obtain ⟨A1,c1,h1,h2,h3,h4⟩:=H.out
    obtain ⟨⟨ca,cb,cc⟩,fa,fb,fc⟩:=cell3 h1
    obtain ⟨⟨da,db,dc⟩,ga,gb,gc⟩:=cell3 h2
    have HH:=Lib.hid (And.intro h2 (And.intro h3 h4))
    clear h1 h2 h3 h4 H
    go_wp2_with fail
    have hmm : m0 < W2.heap.size:=a0f H2.out.2.2.2
    refine bodyPost_ret (results_cell_row (fn:=Tryz.f55) (p:=6) (ty:=31) rfl _ _ _ _ _ _ _ rfl (a1D HH.out.1 _ _ _) Tryz.underlying31 rfl a4W) rfl ?_
    have hw0:=HM0.out
    subst hw0
    refine ⟨_,rfl,?_,((HH.out.2.2.setCell (Nat.le_refl _) _).setCell (Nat.le_refl _) _).setCell (Nat.le_refl _) _⟩
    have h4 : kq.R 47 wr w.heap.size (λ k=>k ≠ w.heap.size) (.slice A1 1 c1) [normL h r]:=Kd.R_mono (Kd.R_lower (Kd.R_bound HH.out.2.1) (by omega)) (λ k hk=>by have:=hk.2.1; omega)
    exact Kd.R_mono (a2D h4 _ _ _) (λ _ _=>trivial)
theorem a1E {w : World} {g : Nat} {a b c : Value} (hg : w.heap[g]? = some (.cells #[a,b,c] 31 (0,0))) : (loadVar 31 ⟨g,0,none⟩).run Tryz.prog w = .ok (.agg #[a,b,c]) w:=
 run_loadVar_row w g _ _ _ _ _ hg Tryz.underlying31 rfl a4W
theorem a6P {fn : Func} {p u : Tmp} {ty : TypeId} (h : fn.results = #[.cell p ty,.tmp u]) (tmps : Array Value) (w : World) (g : Nat) (cs : Array Value)
    (hp : tmps.getD p undef = .pointer (some ⟨g,0,none⟩)) (hl : (loadVar ty ⟨g,0,none⟩).run Tryz.prog w = .ok (.agg cs) w) :
    (results fn tmps).run Tryz.prog w = .ok (.tuple #[.agg cs,tmps.getD u undef]) w:=by
 have hp' : tmps[p]?.getD undef = .pointer (some ⟨g,0,none⟩):=by simpa using hp
 simp [results,h,hp',asAddr,hl]
def a9a (b : List Int) (w : World) (e : Ending) (w' : World) : Prop:=
 (b.length = 0 /\ e = .returned (.tuple #[.agg #[.int .i64 0,.bool false,.slice none 0 0],.int .i64 1]) /\ Below w.heap.size w w') \/
 (0 < b.length /\ ∃ v,e = .returned (.tuple #[.agg #[.int .i64 (zeroR b),.bool true,v],.int .i64 0]) /\ kq.R 47 w' w.heap.size (λ _=>True) v [zeroQ b] /\ Below w.heap.size w w')
theorem b4y {b : List Int} (hb : Bytes b) (hl : b.length <= 1000000) (h0 : 0 < b.length) : 0 < manyC (histL b):=by
 rw [b3o (a4T b hb hl)]
 have hx:=hb _ (List.getElem_mem h0)
 obtain ⟨s,hs⟩ : ∃ s : Nat,b[0] = (s : Int):=⟨(b[0]).toNat,by omega⟩
 have hs2 : s < 256:=by omega
 have hp:=(a8u b hs2).2 (by rw [<- hs]; exact List.getElem_mem h0)
 refine List.countP_pos_iff.2 ⟨(histL b).getD s 0,a1Z (by unfold histL; rw [a1r]; exact hs2),by simpa using hp⟩
set_option maxRecDepth 100000 in
set_option maxHeartbeats 1000000 in
theorem b4z (A : Option Addr) (cp : Nat) (b : List Int) (w : World) (hr : (Kd.int .u8).C w A b.length b) (hb : Bytes b) (hl : b.length <= 1000000) (h0 : 0 < b.length) :
    Calls Tryz.prog 23 #[.slice A b.length cp] w (a9a b w):=by
 have hne : ((b.length : Int) == 0) = false:=by simp; intro e; subst e; simp at h0
 have hne2 : ¬ b = []:=by intro e; subst e; simp at h0
 obtain ⟨W1,hW1⟩ : ∃ W1,W1 = w.alloc (.cells #[.int .i64 0,.bool false,.slice none 0 0] 31):=⟨_,rfl⟩
 have hb1 : Below w.heap.size w W1:=by rw [hW1]; exact (Below.refl w.heap.size w).alloc (Nat.le_refl _) _
 have hk1 : W1.heap[w.heap.size]? = some (.cells #[.int .i64 0,.bool false,.slice none 0 0] 31 (0,0)):=by rw [hW1]; exact a0m _ _
 have HB1:=Lib.hid hb1
 have HK1:=Lib.hid hk1
 have HR:=Lib.hid hr
 have HX:=Lib.hid (And.intro hb (And.intro hl h0))
 have hZ:=a3N b
 obtain ⟨zr,hzr⟩ : ∃ zr,zr = zeroR b:=⟨_,rfl⟩
 rw [<- hzr] at hZ
 have HZ:=Lib.hid (And.intro hzr hZ)
 clear hb1 hk1 hr hb hl h0 hZ hzr
 go_enter Tryz.func23,Tryz.ntmps23
 go_wp2_with fail
 rw [<- hW1]
 clear hW1
 refine (b3V A cp b W1 (Kd.C_below HR.out HB1.out) HX.out.2.1 HX.out.1).mono ?_
 rintro e w2 ⟨v,rfl,hv,hb2⟩
 obtain ⟨Ah,ch,rfl⟩:=Kd.R_slice hv
 have hhl : (histL b).length = 256:=a1r _
 have hrd:=(Kd.R_reads' hv).2.2
 have hmany:=a5c Ah ch (histL b) (w2.alloc (.cells #[.slice Ah 256 ch] 47)) (Kd.C_alloc hrd _) (a4T b HX.out.1 HX.out.2.1)
 rw [hhl] at hrd hmany ⊢
 have HV:=Lib.hid (Kd.C_alloc hrd (.cells #[.slice Ah 256 ch] 47))
 have HMa:=Lib.hid hmany
 have HB2 : Hid (Below w.heap.size w w2):=HB1.out.trans (hb2.mono HB1.out.size)
 have HK2:=Lib.hid (a0l HK1.out hb2)
 clear hv hb2 hrd hmany hhl
 go_wp2_with fail
 have HP3:=Lib.hid (a0m w2 (.cells #[.slice Ah 256 ch] 47))
 have HB3 : Hid (Below w.heap.size w (w2.alloc (.cells #[.slice Ah 256 ch] 47))):=HB2.out.alloc HB2.out.size _
 have HK3:=Lib.hid (a0q HK2.out (.cells #[.slice Ah 256 ch] 47))
 obtain ⟨w3,hw3⟩ : ∃ w3,w3 = w2.alloc (.cells #[.slice Ah 256 ch] 47):=⟨_,rfl⟩
 rw [<- hw3] at HP3 HB3 HK3 HV HMa ⊢
 obtain ⟨p0,hp0⟩ : ∃ p0,p0 = w2.heap.size:=⟨_,rfl⟩
 rw [<- hp0] at HP3 ⊢
 clear hw3 hp0
 refine HMa.out.mono ?_
 rintro e w4 ⟨rfl,rfl⟩
 go_wp2_with fail
 refine (b4u b.length (manyC (histL b)) 11 _ HX.out.2.1 (by have:=a4k (histL b); omega)).mono ?_
 rw [HZ.out.2.1]
 rintro e w4 ⟨rfl,hb4⟩
 have HB4 : Hid (Below w.heap.size w w4):=HB3.out.trans (hb4.mono HB3.out.size)
 have HK4:=Lib.hid (a0l HK3.out hb4)
 have HP4:=Lib.hid (a0l HP3.out hb4)
 have HV4:=Lib.hid (Kd.C_below HV.out hb4)
 clear hb4
 go_wp2_with fail
 refine (c4D p0 ch zr Ah (histL b) w4 HP4.out HV4.out (by rw [HZ.out.1]; exact a4U HX.out.1 HX.out.2.1 HX.out.2.2) (b4y HX.out.1 HX.out.2.1 HX.out.2.2)).mono ?_
 rintro e w5 ⟨v,rfl,hv,hb5⟩
 obtain ⟨Av,cv,rfl⟩:=Kd.R_slice hv
 obtain ⟨⟨m0,m1,m2⟩,⟨f0,f1,f2⟩⟩:=cell3 (a0l HK4.out hb5)
 have HE:=Lib.hid (c2C (lg:=(zr : Nat)) (one:=true) HB4.out (a0f HK4.out) HK4.out hv hb5)
 clear hv hb5
 go_wp2_with fail
 refine bodyPost_ret (a6P (fn:=Tryz.f23) (p:=2) (u:=3) (ty:=31) rfl _ _ _ _ rfl (a1E HE.out.1)) rfl ?_
 obtain ⟨v2,h1,h2,h3⟩:=HE.out.2
 injection h1 with h1
 injection h1 with h1
 have h1' : Value.slice Av [normL (histL b) zr].length cv = v2:=by
  have:=congrArg (λ a : Array Value=>a.getD 2 Go.undef) h1
  simpa using this
 refine .inr ⟨HX.out.2.2,Value.slice Av [normL (histL b) zr].length cv,?_,?_,h3⟩
 · rw [<- HZ.out.1]; rfl
 · rw [<- h1'] at h2
   unfold zeroQ; rw [<- HZ.out.1]; exact h2
set_option maxRecDepth 100000 in
theorem c4E (A : Option Addr) (cp : Nat) (w : World) : Calls Tryz.prog 23 #[.slice A 0 cp] w (a9a [] w):=by
 have hk1 : (w.alloc (.cells #[.int .i64 0,.bool false,.slice none 0 0] 31)).heap[w.heap.size]? = some (.cells #[.int .i64 0,.bool false,.slice none 0 0] 31 (0,0)):=a0m _ _
 have HB : Hid (Below w.heap.size w (w.alloc (.cells #[.int .i64 0,.bool false,.slice none 0 0] 31))):=(Below.refl _ _).alloc (Nat.le_refl _) _
 have HK:=Lib.hid hk1
 clear hk1
 go_enter Tryz.func23,Tryz.ntmps23
 go_wp2_with fail
 refine bodyPost_ret (a6P (fn:=Tryz.f23) (p:=2) (u:=3) (ty:=31) rfl _ _ _ _ rfl (a1E HK.out)) rfl ?_
 exact .inl ⟨rfl,rfl,HB.out⟩
theorem a2r {fn : Func} {p u v : Tmp} {ty : TypeId} (h : fn.results = #[.cell p ty,.tmp u,.tmp v]) (tmps : Array Value) (w : World) (g : Nat) (cs : Array Value)
    (hp : tmps.getD p undef = .pointer (some ⟨g,0,none⟩)) (hl : (loadVar ty ⟨g,0,none⟩).run Tryz.prog w = .ok (.agg cs) w) :
    (results fn tmps).run Tryz.prog w = .ok (.tuple #[.agg cs,tmps.getD u undef,tmps.getD v undef]) w:=by
 have hp' : tmps[p]?.getD undef = .pointer (some ⟨g,0,none⟩):=by simpa using hp
 simp [results,h,hp',asAddr,hl]
set_option maxRecDepth 100000 in
theorem b4A (v : Nat) (w : World) (hv : v < 256) : Calls Tryz.prog 33 #[.int .u8 v] w λ e w'=>e = .returned (.bool (decide (5 <= v /\ v <= 11))) /\ w = w':=by
 by_cases h : 5 <= v
 · have e : decide (5 <= v /\ v <= 11) = decide (v <= 11):=by simp [h]
   rw [e]
   go_enter Tryz.func33,Tryz.ntmps33
   go_wp2_with fail
   go_ret
   exact ⟨a0X (by simp; omega),rfl⟩
 · have e : decide (5 <= v /\ v <= 11) = false:=by simp [h]
   rw [e]
   go_enter Tryz.func33,Tryz.ntmps33
   go_wp2_with fail
   go_ret
   exact ⟨rfl,rfl⟩
theorem c4F (ps : List Int) (hps : ∀ x ∈ ps,0 <= x /\ x < 256) (h : 0 < ps.length) : takeF ps 0 8 = (ps.getD 0 0).toNat /\ (ps.getD 0 0).toNat < 256:=by
 have hx:=hps _ (a1u h)
 obtain ⟨y,hy⟩ : ∃ y : Nat,ps.getD 0 0 = y:=⟨(ps.getD 0 0).toNat,by omega⟩
 have hb : BitsAt ps 0 (a0h y 8):=λ i hi=>by
  rw [a0B] at hi
  unfold bitI
  rw [show (0 + i) / 8 = 0 by omega,show (0 + i) % 8 = i by omega,hy,Int.toNat_natCast,a8c _ _ _ hi,a8d]
 have:=a6C hb (by omega)
 rw [this,hy]; omega
def a9b (ps : List Int) (w : World) (e : Ending) (w' : World) : Prop:=
 ((a0z ps).1 = 0 -> ∃ vm vp,e = .returned (.tuple #[.agg #[.int .i64 (a0z ps).2.1,.bool true,vm],vp,.int .i64 0]) /\ kq.R 47 w' w.heap.size (λ _=>True) vm [(a0z ps).2.2.1] /\ (Kd.int .u8).R 5 w' w.heap.size (λ _=>True) vp (a0z ps).2.2.2) /\
 ((a0z ps).1 ≠ 0 -> e = .returned (.tuple #[.agg #[.int .i64 0,.bool false,.slice none 0 0],.slice none 0 0,.int .i64 (a0z ps).1])) /\ Below w.heap.size w w'
set_option maxRecDepth 100000 in
set_option maxHeartbeats 2000000 in
theorem b4B (A : Option Addr) (c : Nat) (ps : List Int) (w : World) (hr : (Kd.int .u8).C w A ps.length ps) (hps : ∀ x ∈ ps,0 <= x /\ x < 256) (hl : ps.length <= 1000000) (hc : ps.length <= c) (hnil : A = none -> c = 0) :
    Calls Tryz.prog 11 #[.slice A ps.length c] w (a9b ps w):=by
 obtain ⟨W,hW⟩ : ∃ W,W = w.alloc (.cells #[.int .i64 0,.bool false,.slice none 0 0] 31):=⟨_,rfl⟩
 have hb1 : Below w.heap.size w W:=by rw [hW]; exact (Below.refl _ _).alloc (Nat.le_refl _) _
 have hk1 : W.heap[w.heap.size]? = some (.cells #[.int .i64 0,.bool false,.slice none 0 0] 31 (0,0)):=by rw [hW]; exact a0m _ _
 have HB1:=Lib.hid hb1
 have HK1:=Lib.hid hk1
 have HR:=Lib.hid (And.intro (Kd.C_below hr hb1) (And.intro hps (And.intro hl (And.intro hc hnil))))
 clear hr hps hl hc hnil hb1 hk1
 go_enter Tryz.func11,Tryz.ntmps11
 go_wp2_with fail
 rw [<- hW]
 clear hW
 refine (a8P A c ps W HR.out.1 HR.out.2.2.1 HR.out.2.2.2.1 HR.out.2.2.2.2).mono ?_
 rintro e w1 ⟨p,rfl,hp,hrd,hb⟩
 have H1:=Lib.hid (And.intro hp (And.intro hrd hb))
 have HK2:=Lib.hid (a0l HK1.out hb)
 clear hp hrd hb
 go_wp2_with fail
 refine (a6L W.heap.size p ps 0 8 w1 H1.out.2.1 HR.out.2.1 HR.out.2.2.1 (by omega) (by decide)).mono ?_
 rintro e w2 ⟨t1,t2,t3⟩
 have HO2:=Lib.hid t3
 have hnp : w.heap.size ≠ p:=by have:=H1.out.1; have:=a0f HK1.out; omega
 have hk3 : w2.heap[w.heap.size]? = some (.cells #[.int .i64 0,.bool false,.slice none 0 0] 31 (0,0)):=by rw [t3.block _ (a0f HK2.out) hnp]; exact HK2.out
 have HK3:=Lib.hid hk3
 have hbW : Below w.heap.size w w2:=(HB1.out.trans (H1.out.2.2.mono HB1.out.size)).trans (t3.below (Nat.le_trans HB1.out.size H1.out.2.2.size) (λ k hk=>by have:=H1.out.1; have:=HB1.out.size; omega))
 have HBW:=Lib.hid hbW
 by_cases h0 : ps.length = 0
 · obtain ⟨rfl,hrd⟩:=t2 (by omega)
   have HE : Hid (a0z ps = (3,0,[],[])):=by show _ = _; unfold a0z; rw [if_pos h0]
   obtain ⟨⟨ca,cb,cc⟩,fa,fb,fc⟩:=cell3 hk3
   clear t1 t2 t3 hrd hk3 hbW
   go_wp2_with fail
   refine bodyPost_ret (a2r (fn:=Tryz.f11) (p:=2) (u:=3) (v:=4) (ty:=31) rfl _ _ _ _ rfl (a1E (a1D HK3.out _ _ _))) rfl ?_
   refine ⟨(λ h=>by rw [HE.out] at h; cases h),(λ _=>by rw [HE.out]; rfl),?_⟩
   exact ((HBW.out.setCell (Nat.le_refl _) _).setCell (Nat.le_refl _) _).setCell (Nat.le_refl _) _
 · obtain ⟨rfl,hrd⟩:=t1 (by omega)
   obtain ⟨f1,f2⟩:=c4F ps HR.out.2.1 (by omega)
   rw [f1]
   obtain ⟨v,hv⟩ : ∃ v,v = (ps.getD 0 0).toNat:=⟨_,rfl⟩
   rw [<- hv] at f2 ⊢
   have HV:=Lib.hid hv
   have HRD:=Lib.hid hrd
   clear t1 t2 t3 hrd f1 hv
   by_cases hlog : 5 <= v /\ v <= 11
   · have hd:=Lib.hid (decide_eq_true hlog)
     obtain ⟨H,hH⟩ : ∃ H,H = hdrT ps (8 * ps.length) 257 a0E 0 (2 ^ v) false 8:=⟨_,rfl⟩
     have hpl : p < w2.heap.size:=by
      obtain ⟨A2,c2,hb2,-⟩:=HRD.out.ex
      exact a0f hb2
     have HTk:=Lib.hid (b3W W.heap.size p v ps 8 w2 HRD.out HR.out.2.1 HR.out.2.2.1 (by omega) (by omega) (by omega) hpl)
     rw [<- hH] at HTk
     have hSM : a0z ps = if H.1 ≠ 0 then (H.1,0,[],[]) else if H.2.2 % 8 ≠ 0 /\ (ps.getD (H.2.2 / 8) 0).toNat / 2 ^ (H.2.2 % 8) ≠ 0 then (4,0,[],[]) else (0,v,H.2.1,ps.drop ((H.2.2 + 7) / 8)):=by
      unfold a0z; rw [if_neg h0,<- HV.out,if_neg (by omega),<- hH]
     have hHe : H.1 = 0 -> H.2.2 <= 8 * ps.length:=λ h=>by rw [hH] at h ⊢; exact a6J _ _ _ _ _ _ (by omega) h
     have HS:=Lib.hid (And.intro hSM hHe)
     clear hk3 hbW hpl hH hSM hHe
     go_wp2_with fail
     refine (b4A v w2 f2).mono ?_
     rw [hd.out]
     rintro e w' ⟨rfl,rfl⟩
     go_wp2_with fail
     refine HTk.out.mono ?_
     rintro e w3 ⟨c1,c2,c3⟩
     have hk4 : w3.heap[w.heap.size]? = some (.cells #[.int .i64 0,.bool false,.slice none 0 0] 31 (0,0)):=by rw [c3.block _ (a0f HK3.out) hnp]; exact HK3.out
     have HK4:=Lib.hid hk4
     have HB4 : Hid (Below w.heap.size w w3):=HBW.out.trans (c3.below HBW.out.size (λ k hk=>by have:=H1.out.1; have:=HB1.out.size; omega))
     by_cases hz : H.1 = 0
     · obtain ⟨g,rfl,d1,d2,d3⟩:=c1 hz
       have HD:=Lib.hid (And.intro d1 (And.intro d2 d3))
       have hPd:=b3X W.heap.size p ps H.2.2 w3 d3 HR.out.2.1 HR.out.2.2.1 (HS.out.2 hz)
       have HPd:=Lib.hid hPd
       have HS23:=Lib.hid c3.size
       clear c1 c2 c3 d1 d2 d3 hk4 hPd
       go_wp2_with fail
       refine HPd.out.mono ?_
       rintro e w4 ⟨rfl,p2,p3⟩
       have hk5 : w4.heap[w.heap.size]? = some (.cells #[.int .i64 0,.bool false,.slice none 0 0] 31 (0,0)):=by rw [p3.block _ (a0f HK4.out) hnp]; exact HK4.out
       have HK5:=Lib.hid hk5
       have HB5 : Hid (Below w.heap.size w w4):=HB4.out.trans (p3.below HB4.out.size (λ k hk=>by have:=H1.out.1; have:=HB1.out.size; omega))
       cases hpd : padOk ps H.2.2 with
       | false=>
        have HE : Hid (a0z ps = (4,0,[],[])):=by
         have:=HS.out.1
         rw [if_neg (λ h=>h hz)] at this
         unfold padOk at hpd
         rw [if_pos (by have h:=of_decide_eq_false hpd; exact Classical.not_not.1 h)] at this; exact this
        obtain ⟨⟨ca,cb,cc⟩,fa,fb,fc⟩:=cell3 hk5
        clear p2 p3 hk5 hpd
        go_wp2_with fail
        refine bodyPost_ret (a2r (fn:=Tryz.f11) (p:=2) (u:=3) (v:=4) (ty:=31) rfl _ _ _ _ rfl (a1E (a1D HK5.out _ _ _))) rfl ?_
        refine ⟨(λ h=>by rw [HE.out] at h; cases h),(λ _=>by rw [HE.out]; rfl),?_⟩
        exact ((HB5.out.setCell (Nat.le_refl _) _).setCell (Nat.le_refl _) _).setCell (Nat.le_refl _) _
       | true=>
        have HE : Hid (a0z ps = (0,v,H.2.1,ps.drop ((H.2.2 + 7) / 8))):=by
         have:=HS.out.1
         rw [if_neg (λ h=>h hz)] at this
         unfold padOk at hpd
         rw [if_neg (of_decide_eq_true hpd)] at this; exact this
        have hpl : p < w2.heap.size:=by
         obtain ⟨A2,c2,hb2,-⟩:=HRD.out.ex
         exact a0f hb2
        have hq4 : (Kd.int .i64).R 3 w4 w2.heap.size (λ _=>True) (.slice (some ⟨g,0,none⟩) 256 256) H.2.1:=Kd.R_mono (Kd.R_step (Kd.R_bound HD.out.1) (λ k hk hlt=>p3.block k hlt (by have:=hk.2.1; omega))) (λ _ _=>trivial)
        have hs24 : w2.heap.size <= w4.heap.size:=Nat.le_trans HS23.out p3.size
        obtain ⟨w5,hw5⟩ : ∃ w5,w5 = w4.alloc (.cells #[.slice (some ⟨g,0,none⟩) 256 256] 47):=⟨_,rfl⟩
        have hb45 : Below w4.heap.size w4 w5:=by rw [hw5]; exact (Below.refl _ _).alloc (Nat.le_refl _) _
        have HQ5 : Hid (kq.R 47 w5 w2.heap.size (λ _=>True) (.slice (some ⟨w4.heap.size,0,none⟩) 1 1) [H.2.1]):=by show kq.R _ _ _ _ _ _; rw [hw5]; exact Kd.R_mono (a8w hq4 hs24) (λ _ _=>trivial)
        have HR5:=Lib.hid ((p2 hpd).below hb45)
        have HK6:=Lib.hid (a0l hk5 hb45)
        have HB6:=Lib.hid (HB5.out.trans (hb45.mono HB5.out.size))
        have HSz : Hid (w.heap.size < w2.heap.size):=by show _ < _; have:=a0f HK3.out; omega
        have hat:=HS.out.2 hz
        have HAT : Hid (8 * ((H.2.2 + 7) / 8) <= 8 * ps.length):=by show _ <= _; omega
        obtain ⟨s4,hs4⟩ : ∃ s4,s4 = w4.heap.size:=⟨_,rfl⟩
        rw [<- hs4] at HQ5
        clear p2 p3 hk5 hpd hq4 hs24 hb45 hpl hat
        go_wp2_with fail
        rw [<- hw5,<- hs4]
        clear hw5 hs4
        refine (b3Z W.heap.size p ps _ w5 HR5.out HR.out.2.2.1 HAT.out).mono ?_
        rintro e w6 ⟨vp,rfl,hvp,hb6⟩
        have hk7:=a0l HK6.out hb6
        have HK7:=Lib.hid hk7
        have HP6:=Lib.hid hvp
        have HQ6:=Lib.hid (Kd.R_below HQ5.out hb6)
        have HB7:=Lib.hid (HB6.out.trans (hb6.mono HB6.out.size))
        have HS5:=Lib.hid (HB6.out.size)
        obtain ⟨⟨ca,cb,cc⟩,fa,fb,fc⟩:=cell3 hk7
        clear hk7 hvp hb6
        go_wp2_with fail
        refine bodyPost_ret (a2r (fn:=Tryz.f11) (p:=2) (u:=3) (v:=4) (ty:=31) rfl _ _ _ _ rfl (a1E (a1D HK7.out _ _ _))) rfl ?_
        refine ⟨(λ _=>?_),(λ h=>by rw [HE.out] at h; exact absurd rfl h),((HB7.out.setCell (Nat.le_refl _) _).setCell (Nat.le_refl _) _).setCell (Nat.le_refl _) _⟩
        rw [HE.out]
        have e8 : (8 * ((H.2.2 + 7) / 8) + 7) / 8 = (H.2.2 + 7) / 8:=by omega
        have hp6:=HP6.out
        rw [e8] at hp6
        have h5:=a0f HK6.out
        refine ⟨_,_,rfl,?_,?_⟩
        · have h4 : kq.R 47 w6 w.heap.size (λ k=>k ≠ w.heap.size) (.slice (some ⟨s4,0,none⟩) 1 1) [H.2.1]:=Kd.R_mono (Kd.R_lower (Kd.R_bound HQ6.out) (by have:=HSz.out; omega)) (λ k hk=>by have:=hk.2.1; have:=HSz.out; omega)
          exact Kd.R_mono (a2D h4 _ _ _) (λ _ _=>trivial)
        · have h4 : (Kd.int .u8).R 5 w6 w.heap.size (λ k=>k ≠ w.heap.size) vp (ps.drop ((H.2.2 + 7) / 8)):=Kd.R_mono (Kd.R_lower (Kd.R_bound hp6) (by omega)) (λ k hk=>by have:=hk.2.1; omega)
          exact Kd.R_mono (a2D h4 _ _ _) (λ _ _=>trivial)
     · obtain rfl:=c2 hz
       have HE : Hid (a0z ps = (H.1,0,[],[])):=by have:=HS.out.1; rw [if_pos hz] at this; exact this
       obtain ⟨⟨ca,cb,cc⟩,fa,fb,fc⟩:=cell3 hk4
       have hzb : (H.1 == 0) = false:=beq_eq_false_iff_ne.2 hz
       have hzn : (H.1 != 0) = true:=by simp [hz]
       clear c1 c2 c3 hk4
       go_wp2_with fail
       refine bodyPost_ret (a2r (fn:=Tryz.f11) (p:=2) (u:=3) (v:=4) (ty:=31) rfl _ _ _ _ rfl (a1E (a1D HK4.out _ _ _))) rfl ?_
       refine ⟨(λ h=>by rw [HE.out] at h; exact absurd h hz),(λ _=>by rw [HE.out]; rfl),?_⟩
       exact ((HB4.out.setCell (Nat.le_refl _) _).setCell (Nat.le_refl _) _).setCell (Nat.le_refl _) _
   · have HE : Hid (a0z ps = (13,0,[],[])):=by show _ = _; unfold a0z; rw [if_neg h0,<- HV.out,if_pos (by omega)]
     have hd:=Lib.hid (decide_eq_false hlog)
     obtain ⟨⟨ca,cb,cc⟩,fa,fb,fc⟩:=cell3 hk3
     clear hk3 hbW hlog
     go_wp2_with fail
     refine (b4A v w2 f2).mono ?_
     rw [hd.out]
     rintro e w' ⟨rfl,rfl⟩
     go_wp2_with fail
     refine bodyPost_ret (a2r (fn:=Tryz.f11) (p:=2) (u:=3) (v:=4) (ty:=31) rfl _ _ _ _ rfl (a1E (a1D HK3.out _ _ _))) rfl ?_
     refine ⟨(λ h=>by rw [HE.out] at h; cases h),(λ _=>by rw [HE.out]; rfl),?_⟩
     exact ((HBW.out.setCell (Nat.le_refl _) _).setCell (Nat.le_refl _) _).setCell (Nat.le_refl _) _
def a1b (b : List Int) : List Int:=packB (headB (zeroR b) (zeroQ b)) ++ packB (a0P (zeroR b : Nat) true [zeroQ b] b ++ [true])
theorem a5d {b : List Int} (hb : Bytes b) (hl : b.length <= 1000000) (h0 : 0 < b.length) : Nrm (zeroQ b) (zeroR b):=by
 have h:=a4p (a4U hb hl h0)
 have hz:=a3N b
 exact ⟨h.1.len,h.1.nonneg,h.2.1,by omega,by omega⟩
def b4C (b : List Int) (w : World) (e : Ending) (w' : World) : Prop:=
 (b.length = 0 /\ e = .returned (.tuple #[.slice none 0 0,.int .i64 1]) /\ Below w.heap.size w w') \/
 (0 < b.length /\ ∃ v,e = .returned (.tuple #[v,.int .i64 0]) /\ (Kd.int .u8).R 5 w' w.heap.size (λ _=>True) v (a1b b) /\ Below w.heap.size w w')
theorem c4G {w w' : World} {e : Ending} (h : a9a [] w e w') : e = .returned (.tuple #[.agg #[.int .i64 0,.bool false,.slice none 0 0],.int .i64 1]) /\ Below w.heap.size w w':=by
 rcases h with ⟨_,h1,h2⟩ | ⟨h,_⟩
 · exact ⟨h1,h2⟩
 · cases h
set_option maxRecDepth 100000 in
theorem b4D (A : Option Addr) (cp : Nat) (w : World) : Calls Tryz.prog 8 #[.slice A 0 cp] w (b4C [] w):=by
 have HZ:=Lib.hid ((c4E A cp w).mono (λ e w' h=>c4G h))
 go_enter Tryz.func8,Tryz.ntmps8
 go_wp2_with fail
 refine HZ.out.mono ?_
 rintro e w1 ⟨rfl,hb1⟩
 have HB1:=Lib.hid hb1
 clear hb1
 go_wp2_with fail
 go_ret2
 exact .inl ⟨rfl,rfl,HB1.out.alloc HB1.out.size _⟩
set_option maxRecDepth 100000 in
set_option maxHeartbeats 1000000 in
theorem c4H (A : Option Addr) (cp : Nat) (b : List Int) (w : World) (hr : (Kd.int .u8).C w A b.length b) (hb : Bytes b) (hl : b.length <= 40000) :
    Calls Tryz.prog 8 #[.slice A b.length cp] w (b4C b w):=by
 by_cases h0 : 0 < b.length
 · have HR:=Lib.hid (And.intro hr (And.intro hb (And.intro hl h0)))
   have HN:=Lib.hid (a5d hb (by omega) h0)
   have HCan : Hid (canM (zeroR b : Nat) true [zeroQ b] b = true):=a3O (one:=true) hb (by omega) h0
   have hzero:=b4z A cp b w hr hb (by omega) h0
   have HZ:=Lib.hid hzero
   obtain ⟨r,hr'⟩ : ∃ r,r = zeroR b:=⟨_,rfl⟩
   obtain ⟨q,hq'⟩ : ∃ q,q = zeroQ b:=⟨_,rfl⟩
   have HRQ:=Lib.hid (And.intro hr' hq')
   clear hr hb hl h0 hzero
   go_enter Tryz.func8,Tryz.ntmps8
   go_wp2_with fail
   refine HZ.out.mono ?_
   rintro e w1 (⟨h,_⟩ | ⟨_,v,rfl,hv,hb1⟩)
   · have:=HR.out.2.2.2; omega
   obtain ⟨Av,cv,rfl⟩:=Kd.R_slice hv
   rw [<- hr']
   rw [<- hq'] at hv
   have HV : Hid (kq.C w1 Av 1 [q]):=(Kd.R_reads' hv).2.2
   have HB1:=Lib.hid hb1
   have e1 : ([zeroQ b] : List (List Int)).length = 1:=rfl
   rw [e1]
   clear hv hb1 e1 hr' hq'
   obtain ⟨w2,hw2⟩ : ∃ w2,w2 = w1.alloc (.cells #[.int .i64 r,.bool true,.slice Av 1 cv] 31):=⟨_,rfl⟩
   have HB2 : Hid (Below w.heap.size w w2):=by show Below _ _ _; rw [hw2]; exact HB1.out.alloc HB1.out.size _
   have HV2 : Hid (kq.C w2 Av 1 [q]):=by show kq.C _ _ _ _; rw [hw2]; exact Kd.C_alloc HV.out _
   have hk2 : w2.heap[w1.heap.size]? = some (.cells #[.int .i64 r,.bool true,.slice Av 1 cv] 31 (0,0)):=by rw [hw2]; exact a0m _ _
   have HK2:=Lib.hid hk2
   obtain ⟨mb,hmb⟩ : ∃ mb,mb = w1.heap.size:=⟨_,rfl⟩
   rw [<- hmb] at HK2
   clear hk2
   go_wp2_with fail
   rw [<- hw2,<- hmb]
   clear hw2 hmb
   refine (b2y (r : Nat) true Av cv [q] A cp b w2 HV2.out (by simp) (Kd.C_below HR.out.1 HB2.out) HR.out.2.1 HR.out.2.2.1).mono ?_
   rintro e w3 ⟨_,h2,hb3⟩
   obtain ⟨vp,rfl,hvp⟩:=h2 (by rw [HRQ.out.1,HRQ.out.2]; exact HCan.out)
   obtain ⟨Ap,cpp,rfl⟩:=Kd.R_slice hvp
   have HB3 : Hid (Below w.heap.size w w3):=HB2.out.trans (hb3.mono HB2.out.size)
   have hk3:=a0l HK2.out hb3
   have HV3 : Hid (kq.C w3 Av 1 [q]):=Kd.C_below HV2.out hb3
   have HP3:=Lib.hid (Kd.R_reads' hvp).2.2
   have HFit:=Lib.hid (a3H (a3I (by rw [HRQ.out.1,HRQ.out.2]; exact HCan.out : canM (r : Nat) true [q] b = true)).1 HR.out.2.1)
   obtain ⟨Pl,hPl⟩ : ∃ Pl,Pl = packB (a0P (r : Nat) true [q] b ++ [true]):=⟨_,rfl⟩
   have HPl:=Lib.hid hPl
   rw [<- hPl] at HP3 ⊢
   obtain ⟨⟨ka,kb,kc⟩,-⟩:=cell3 hk3
   have HPlen : Hid (Pl.length <= 700000):=by
    show _ <= _
    rw [hPl,a0A,List.length_append]
    have:=HFit.out; have:=HR.out.2.2.1; simp only [List.length_singleton]; omega
   clear h2 hb3 hvp hk3 hPl
   have HKK:=Lib.hid (And.intro ka (And.intro kb kc))
   clear ka kb kc
   obtain ⟨ka,kb,kc⟩:=HKK.out
   go_wp2_with fail
   refine (c3A r cv Av q w3 HV3.out (by rw [HRQ.out.1,HRQ.out.2]; exact HN.out)).mono ?_
   rintro e w4 ⟨vh,rfl,hvh,hb4⟩
   obtain ⟨Ah,ch,rfl⟩:=Kd.R_slice hvh
   have HB4 : Hid (Below w.heap.size w w4):=HB3.out.trans (hb4.mono HB3.out.size)
   have HP4 : Hid ((Kd.int .u8).C w4 Ap Pl.length Pl):=Kd.C_below HP3.out hb4
   have HH4 : Hid ((Kd.int .u8).R 5 w4 w.heap.size (λ _=>True) (.slice Ah (packB (headB r q)).length ch) (packB (headB r q))):=Kd.R_lower hvh HB3.out.size
   have HHl : Hid ((packB (headB r q)).length <= 10000):=by
    show _ <= _
    have hn:=HN.out
    rw [<- HRQ.out.1,<- HRQ.out.2] at hn
    have e2 : (2 : Int) ^ r = ((2 ^ r : Nat) : Int):=by simp
    have h1:=a3k hn.r12 hn.len hn.nn 257 0 (2 ^ r) (by omega) (by rw [List.drop_zero,hn.sum,e2]) (by rw [Nat.pow_succ]; have:=Nat.two_pow_pos r; omega)
    have h2 : (256 - 0) * (r + 3) <= 256 * 15:=Nat.mul_le_mul (by omega) (by have:=hn.r12; omega)
    rw [a0A]; unfold headB
    rw [List.length_append,a0B]; omega
   obtain ⟨Hl,hHl⟩ : ∃ Hl,Hl = packB (headB r q):=⟨_,rfl⟩
   have HHd:=Lib.hid hHl
   rw [<- hHl] at HH4 HHl ⊢
   have HL : Hid ((Hl.length + Pl.length) * 1 <= 140737488355328):=by show _ <= _; have:=HHl.out; have:=HPlen.out; omega
   have HS4 : Hid (w.heap.size <= w4.heap.size):=HB4.out.size
   clear hvh hb4 hHl ka kb kc
   go_wp2_with (at_builtin; refine Kd.R_append_rows (Kd.int .u8) (Rr:=(Kd.int .u8).K w4) (w0:=w) (W:=w4) w.heap.size rfl (.tmp 25) (.tmp 26) 22 5 (.int .u8 0) 1 rfl Tryz.underlying22 a1C rfl (by decide) (by decide) (.slice Ah Hl.length ch) Hl Pl Ap Pl.length cpp (λ _=>True) (λ _=>False) rfl rfl HH4.out HP4.out (λ _ _ h=>h) (λ _ h=>h.elim) (λ _ _=>trivial) HB4.out HS4.out HL.out ?_; intro vi w5 hr5 hb5 hg5 hat5; have HR5:=Lib.hid hr5; have HB5:=Lib.hid hb5; clear hr5 hb5 hg5 hat5)
   go_ret2
   refine .inr ⟨HR.out.2.2.2,_,rfl,?_,HB5.out⟩
   unfold a1b
   rw [<- HRQ.out.1,<- HRQ.out.2,<- HPl.out,<- HHd.out]
   exact HR5.out
 · have hbe : b = []:=List.eq_nil_of_length_eq_zero (by omega)
   subst hbe
   exact b4D A cp w
theorem a6Q (ps : List Int) : (∃ k,k ≠ 0 /\ a0z ps = (k,0,[],[])) \/ ∃ r q m,5 <= r /\ r <= 11 /\ a0z ps = (0,r,q,ps.drop m):=by
 unfold a0z
 by_cases h0 : ps.length = 0
 · rw [if_pos h0]; exact .inl ⟨3,by decide,rfl⟩
 · rw [if_neg h0]
   by_cases h1 : (ps.getD 0 0).toNat < 5 \/ 11 < (ps.getD 0 0).toNat
   · rw [if_pos h1]; exact .inl ⟨13,by decide,rfl⟩
   · rw [if_neg h1]; dsimp only
     obtain ⟨H,hH⟩ : ∃ H,H = hdrT ps (8 * ps.length) 257 a0E 0 (2 ^ (ps.getD 0 0).toNat) false 8:=⟨_,rfl⟩
     rw [<- hH]
     by_cases h2 : H.1 ≠ 0
     · rw [if_pos h2]; exact .inl ⟨_,h2,rfl⟩
     · rw [if_neg h2]
       by_cases h3 : H.2.2 % 8 ≠ 0 /\ (ps.getD (H.2.2 / 8) 0).toNat / 2 ^ (H.2.2 % 8) ≠ 0
       · rw [if_pos h3]; exact .inl ⟨4,by decide,rfl⟩
       · rw [if_neg h3]; exact .inr ⟨_,_,_,by omega,by omega,rfl⟩
theorem a9c {ps : List Int} (h : Bytes ps) : Bytes (a0z ps).2.2.2:=by
 rcases a6Q ps with ⟨k,_,e⟩ | ⟨r,q,m,_,_,e⟩
 · rw [e]; intro x hx; cases hx
 · rw [e]; exact λ x hx=>h x (List.mem_of_mem_drop hx)
theorem c4I (ps : List Int) : (a0z ps).2.2.2.length <= ps.length:=by
 rcases a6Q ps with ⟨k,_,e⟩ | ⟨r,q,m,_,_,e⟩
 · rw [e]; simp
 · rw [e]; simp
def c4J (r : Nat) (q p : List Int) (w : World) (e : Ending) (w' : World) : Prop:=
 ∃ Am cm Ap cp,e = .returned (.tuple #[.agg #[.int .i64 r,.bool true,.slice Am 1 cm],.slice Ap p.length cp,.int .i64 0]) /\ kq.R 47 w' w.heap.size (λ _=>True) (.slice Am 1 cm) [q] /\ (Kd.int .u8).R 5 w' w.heap.size (λ _=>True) (.slice Ap p.length cp) p /\ Below w.heap.size w w'
theorem b4E (A : Option Addr) (c : Nat) (ps : List Int) {r : Nat} {q p : List Int} (w : World) (hr : (Kd.int .u8).C w A ps.length ps) (hps : Bytes ps) (hl : ps.length <= 1000000) (hc : ps.length <= c) (hnil : A = none -> c = 0) (h : a0z ps = (0,r,q,p)) :
    Calls Tryz.prog 11 #[.slice A ps.length c] w (c4J r q p w):=by
 refine (b4B A c ps w hr hps hl hc hnil).mono ?_
 intro e w' hp
 unfold a9b at hp
 rw [h] at hp
 obtain ⟨vm,vp,rfl,hm,hv⟩:=hp.1 rfl
 obtain ⟨Am,cm,rfl⟩:=Kd.R_slice hm
 obtain ⟨Ap,cp,rfl⟩:=Kd.R_slice hv
 exact ⟨Am,cm,Ap,cp,rfl,hm,hv,hp.2.2⟩
theorem c4K (A : Option Addr) (c : Nat) (ps : List Int) {k : Int} (w : World) (hr : (Kd.int .u8).C w A ps.length ps) (hps : Bytes ps) (hl : ps.length <= 1000000) (hc : ps.length <= c) (hnil : A = none -> c = 0) (h : (a0z ps).1 = k) (hk : k ≠ 0) :
    Calls Tryz.prog 11 #[.slice A ps.length c] w (λ e w'=>e = .returned (.tuple #[.agg #[.int .i64 0,.bool false,.slice none 0 0],.slice none 0 0,.int .i64 k]) /\ Below w.heap.size w w'):=by
 refine (b4B A c ps w hr hps hl hc hnil).mono ?_
 intro e w' hp
 unfold a9b at hp
 rw [h] at hp
 exact ⟨hp.2.1 hk,hp.2.2⟩
def dec0M (ps : List Int) (n : Int) : Int × List Int:=if (a0z ps).1 ≠ 0 then ((a0z ps).1,[]) else decM ((a0z ps).2.1 : Nat) true [(a0z ps).2.2.1] (a0z ps).2.2.2 n
set_option maxRecDepth 100000 in
set_option maxHeartbeats 1000000 in
theorem c4L (A : Option Addr) (c : Nat) (ps : List Int) (n : Int) (w : World) (hr : (Kd.int .u8).C w A ps.length ps) (hps : Bytes ps) (hl : ps.length <= 1000000) (hc : ps.length <= c) (hnil : A = none -> c = 0) :
    Calls Tryz.prog 13 #[.slice A ps.length c,.int .i64 n] w (ReadPost (dec0M ps n) w):=by
 obtain ⟨k,r,q,p,hS⟩ : ∃ k r q p,a0z ps = (k,r,q,p):=⟨_,_,_,_,rfl⟩
 have hpb:=a9c hps
 have hpl:=c4I ps
 rw [hS] at hpb hpl
 by_cases hk : k = 0
 · subst hk
   have HD : Hid (dec0M ps n = decM (r : Nat) true [q] p n):=by show _ = _; unfold dec0M; rw [hS,if_neg (λ h=>h rfl)]
   have HS:=Lib.hid (b4E A c ps w hr hps hl hc hnil hS)
   have HP:=Lib.hid (And.intro hpb (Nat.le_trans hpl hl))
   rw [HD.out]
   clear hr hps hl hc hnil hS hpb hpl
   go_enter Tryz.func13,Tryz.ntmps13
   go_wp2_with fail
   refine HS.out.mono ?_
   rintro e w1 ⟨Am,cm,Ap,cp,rfl,hm,hv,hb1⟩
   obtain ⟨w2,hw2⟩ : ∃ w2,w2 = w1.alloc (.cells #[.int .i64 r,.bool true,.slice Am 1 cm] 31):=⟨_,rfl⟩
   have hb2 : Below w1.heap.size w1 w2:=by rw [hw2]; exact (Below.refl _ _).alloc (Nat.le_refl _) _
   have HB2:=Lib.hid (hb1.trans (hb2.mono hb1.size))
   have HM:=Lib.hid (Kd.C_below (Kd.R_reads' hm).2.2 hb2)
   have HV:=Lib.hid (Kd.C_below (Kd.R_reads' hv).2.2 hb2)
   clear hm hv hb1 hb2
   go_wp2_with fail
   rw [<- hw2]
   clear hw2
   refine (b2w r true Am cm [q] Ap cp p n w2 HM.out (by simp) HV.out HP.out.1 HP.out.2).mono ?_
   rintro e w3 ⟨⟨v,rfl,hv⟩,hb3⟩
   have H3:=Lib.hid (And.intro hv hb3)
   clear hv hb3
   go_wp2_with fail
   go_ret2
   exact ⟨⟨v,rfl,Kd.R_lower H3.out.1 HB2.out.size⟩,HB2.out.trans (H3.out.2.mono HB2.out.size)⟩
 · have HD : Hid (dec0M ps n = (k,[])):=by show _ = _; unfold dec0M; rw [hS,if_pos hk]
   have HS:=Lib.hid (c4K A c ps w hr hps hl hc hnil (by rw [hS]) hk)
   have hkb : (k == 0) = false:=beq_eq_false_iff_ne.2 hk
   have hkn : (k != 0) = true:=by simp [hk]
   rw [HD.out]
   clear hr hps hl hc hnil hS hpb hpl
   go_enter Tryz.func13,Tryz.ntmps13
   go_wp2_with fail
   refine HS.out.mono ?_
   rintro e w1 ⟨rfl,hb1⟩
   have HB1:=Lib.hid hb1
   clear hb1
   go_wp2_with fail
   go_ret2
   exact ⟨⟨_,rfl,Kd.R_nil _ _ _ _ _⟩,HB1.out.alloc HB1.out.size _⟩
def Told (k : Int) (y : List Int) (w : World) (e : Ending) (w' : World) : Prop:=
 ∃ A c,e = .returned (.tuple #[.slice A y.length c,.int .i64 k]) /\ (Kd.int .u8).R 5 w' w.heap.size (λ _=>True) (.slice A y.length c) y /\ Below w.heap.size w w'
theorem ReadPost.told {k : Int} {y : List Int} {w : World} {e : Ending} {w' : World} (h : ReadPost (k,y) w e w') : Told k y w e w':=by
 obtain ⟨⟨v,rfl,hv⟩,hb⟩:=h
 obtain ⟨A,c,rfl⟩:=Kd.R_slice hv
 exact ⟨A,c,rfl,hv,hb⟩
theorem c4M (A : Option Addr) (c : Nat) (ps : List Int) (n : Int) {k : Int} {y : List Int} (w : World) (hr : (Kd.int .u8).C w A ps.length ps) (hps : Bytes ps) (hl : ps.length <= 1000000) (hc : ps.length <= c) (hnil : A = none -> c = 0) (h : dec0M ps n = (k,y)) :
    Calls Tryz.prog 13 #[.slice A ps.length c,.int .i64 n] w (Told k y w):=by
 have:=c4L A c ps n w hr hps hl hc hnil
 rw [h] at this
 exact this.mono λ e w' hp=>hp.told
theorem b4F (A : Option Addr) (cp : Nat) (b : List Int) (w : World) (hr : (Kd.int .u8).C w A b.length b) (hb : Bytes b) (hl : b.length <= 40000) (h0 : 0 < b.length) :
    Calls Tryz.prog 8 #[.slice A b.length cp] w (Told 0 (a1b b) w):=by
 refine (c4H A cp b w hr hb hl).mono ?_
 rintro e w' (⟨h,_⟩ | ⟨_,v,rfl,hv,hbl⟩)
 · omega
 · obtain ⟨A1,c1,rfl⟩:=Kd.R_slice hv
   exact ⟨A1,c1,rfl,hv,hbl⟩
theorem b4G (b : List Int) : Bytes (a1b b):=λ x hx=>by
 unfold a1b at hx
 rcases List.mem_append.1 hx with h | h
 · exact a4i _ x h
 · exact a4i _ x h
end Go.Proofs.YtipjlneepponpaaGreat
namespace Go.Proofs.YtipjlneepponpaaGreat
open Go.RowKit
theorem aw0_r : zeroR [7,7,7] = 5:=by decide +kernel
theorem aw0_q : zeroQ [7,7,7] = awQ:=by decide +kernel
theorem c4P : a1b [7,7,7] = [5,192,3,2,0,4]:=by
 unfold a1b
 rw [aw0_r,aw0_q]
 decide +kernel
theorem c4Q : a0z [5,192,3,2,0,4] = (0,5,awQ,[0,4]):=by decide +kernel
theorem c4R : dec0M [5,192,3,2,0,4] 3 = (0,[7,7,7]):=by decide +kernel
open Go.IntWalk Go.Proofs.YtipjlneepponpaaGreatW.PrintWords
structure BSl (w : World) (A : Option Addr) (c : Nat) (p : List Int) : Prop where
 row : (Kd.int .u8).C w A p.length p
 cap : p.length <= c
 nil : A = none -> c = 0
 by' : Bytes p
theorem BSl.below {w w' : World} {A : Option Addr} {c : Nat} {p : List Int} (h : BSl w A c p) (hb : Below w.heap.size w w') : BSl w' A c p:=⟨Kd.C_below h.row hb,h.cap,h.nil,h.by'⟩
theorem BSl.of {w : World} {A : Option Addr} {c n base : Nat} {p : List Int} {ok : Nat -> Prop} (h : (Kd.int .u8).R 5 w base ok (.slice A n c) p) (hp : Bytes p) : BSl w A c p:=by
 obtain ⟨e,h2,h3⟩:=Kd.R_reads' h
 refine ⟨h3,by omega,λ ha=>?_,hp⟩
 obtain ⟨_,inner,⟨_,ho⟩,_⟩:=h
 rcases ho with ⟨h4,_⟩ | ⟨g,cap,cur,h4,_⟩
 · cases h4; rfl
 · rw [ha] at h4; cases h4
theorem Told.out {k : Int} {y : List Int} {w : World} {e : Ending} {w' : World} (h : Told k y w e w') (hy : Bytes y) : ∃ A c,e = .returned (.tuple #[.slice A y.length c,.int .i64 k]) /\ BSl w' A c y /\ Below w.heap.size w w':=by
 obtain ⟨A,c,he,hr,hb⟩:=h
 exact ⟨A,c,he,BSl.of hr hy,hb⟩
theorem c4W {w : World} (xs : List Int) (hx : Bytes xs) (hl : xs.length <= 1000000) : BSl (w.alloc (.cells (xs.map (Value.int .u8)).toArray 5)) (some ⟨w.heap.size,0,none⟩) xs.length xs:=
 BSl.of (a8y .u8 5 w w.heap.size (λ _=>True) trivial (Nat.le_refl _) xs hl) hx
theorem BSl.str {w : World} {A : Option Addr} {c : Nat} {p : List Int} (h : BSl w A c p) : (convert 22 9 (.slice A p.length c)).run Tryz.prog w = .ok (.string (strOfNums p)) w:=
 Kd.C_string Tryz.underlying22 Tryz.underlying5 Tryz.underlying9 h.row
theorem b777 : Bytes [7,7,7]:=by intro x hx; simp at hx; omega
theorem bx777 : Bytes [5,192,3,2,0,4]:=by intro x hx; simp at hx; omega
set_option maxRecDepth 100000 in
set_option maxHeartbeats 1000000 in
theorem b4I (w : World) : Calls Tryz.prog 7 #[] w (Ret (.bool true) w):=by
 obtain ⟨w1,hw1⟩ : ∃ w1,w1 = w.alloc (.cells #[.int .u8 7,.int .u8 7,.int .u8 7] 5):=⟨_,rfl⟩
 have HB1 : Hid (Below w.heap.size w w1):=by show Below _ _ _; rw [hw1]; exact (Below.refl _ _).alloc (Nat.le_refl _) _
 have HS1 : Hid (BSl w1 (some ⟨w.heap.size,0,none⟩) 3 [7,7,7]):=by show BSl _ _ _ _; rw [hw1]; exact c4W [7,7,7] b777 (by decide)
 go_enter Tryz.func7,Tryz.ntmps7
 go_wp2_with fail
 rw [<- hw1]
 clear hw1
 have h2:=b4F (some ⟨w.heap.size,0,none⟩) 3 [7,7,7] w1 HS1.out.row b777 (by decide) (by decide)
 rw [c4P] at h2
 refine h2.mono ?_
 clear h2
 intro e w2 h2
 obtain ⟨A2,c2,rfl,hs2,hb2⟩:=h2.out bx777
 have HB2:=Lib.hid (a0i HB1.out hb2)
 have HB12:=Lib.hid hb2
 have HS2:=Lib.hid hs2
 clear h2 hs2 hb2
 go_wp2_with fail
 refine (c4M _ _ _ 3 w2 HS2.out.row bx777 (by decide) HS2.out.cap HS2.out.nil c4R).mono ?_
 intro e w3 h3
 obtain ⟨A3,c3,rfl,hs3,hb3⟩:=h3.out b777
 have HB3:=Lib.hid (a0i HB2.out hb3)
 have HB23:=Lib.hid hb3
 have HS3:=Lib.hid hs3
 clear h3 hs3 hb3
 go_wp2_with fail
 refine (b4E _ _ _ w3 (HS2.out.below HB23.out).row bx777 (by decide) HS2.out.cap HS2.out.nil c4Q).mono ?_
 rintro e w4 ⟨Am,cm,Ap,cp,rfl,hm,hv,hb4⟩
 have HM:=Lib.hid (MAt.new (lg:=5) (one:=true) (qs:=[awQ]) hm)
 have hs4 : BSl w4 Ap cp [0,4]:=BSl.of hv (by intro x hx; simp at hx; omega)
 obtain ⟨w5,hw5⟩ : ∃ w5,w5 = w4.alloc (.cells #[.int .i64 5,.bool true,.slice Am 1 cm] 31):=⟨_,rfl⟩
 have hb45 : Below w4.heap.size w4 w5:=by rw [hw5]; exact (Below.refl _ _).alloc (Nat.le_refl _) _
 have HB5:=Lib.hid (a0i (a0i HB3.out hb4) hb45)
 have h35:=a0i hb4 hb45
 have h25:=a0i HB23.out h35
 have h15:=a0i HB12.out h25
 have v1 : (convert 22 9 (.slice (some ⟨w.heap.size,0,none⟩) 3 3)).run Tryz.prog w5 = .ok (.string ⟨#[7,7,7]⟩) w5:=(HS1.out.below h15).str
 have v2 : (convert 22 9 (.slice A2 6 c2)).run Tryz.prog w5 = .ok (.string ⟨#[5,192,3,2,0,4]⟩) w5:=(HS2.out.below h25).str
 have v3 : (convert 22 9 (.slice A3 3 c3)).run Tryz.prog w5 = .ok (.string ⟨#[7,7,7]⟩) w5:=(HS3.out.below h35).str
 have v4 : (convert 22 9 (.slice Ap 2 cp)).run Tryz.prog w5 = .ok (.string ⟨#[0,4]⟩) w5:=(hs4.below hb45).str
 have hm2:=HM.out.blk
 rw [show w4.alloc (.cells #[.int .i64 5,.bool true,.slice Am ([awQ] : List (List Int)).length cm] 31) = w5 from hw5.symm] at hm2
 obtain ⟨⟨m0,m1,m2⟩,_⟩:=cell3 hm2
 clear hm hv hb4 hb45 h35 h25 h15 hs4 hm2
 subst hw5
 go_wp2_with fail
 go_ret
 exact ⟨rfl,HB5.out⟩
theorem b4J {κ : IntKind} {w : World} {A : Option Addr} {xs : List Int} (h : (Kd.int κ).C w A xs.length xs) (k : Nat) (hk : k <= xs.length) : (Kd.int κ).C w A k (xs.take k):=by
 obtain ⟨h1,h2,h3⟩:=h
 refine ⟨by rw [List.length_take]; omega,by omega,λ h0=>?_⟩
 obtain ⟨ad,e,hc⟩:=h3 (by omega)
 refine ⟨ad,e,λ j p hj=>hc j p ?_⟩
 rw [List.getElem?_take] at hj
 split at hj
 · exact hj
 · cases hj
theorem BSl.cut {w : World} {A : Option Addr} {c : Nat} {p : List Int} (h : BSl w A c p) {k : Nat} (hk : k <= p.length) : BSl w A c (p.take k):=
 ⟨by have:=b4J h.row k hk; rwa [List.length_take,Nat.min_eq_left hk],by rw [List.length_take]; have:=h.cap; omega,h.nil,λ x hx=>h.by' x (List.mem_of_mem_take hx)⟩
end Go.Proofs.YtipjlneepponpaaGreat
namespace Go.Proofs.YtipjlneepponpaaGreat
open Go.RowKit Go.IntWalk Go.Proofs.YtipjlneepponpaaGreatW.PrintWords
attribute [local go_sem] Oper.semAt_some
theorem a3q {W : World} {B : Nat} {e : TypeId} {v : Value} {n : Nat} {xs : List Value} (h : W.ownsRow B e 1 v n xs) : ∃ A c,v = .slice A n c:=by
 rcases h.2 with ⟨rfl,rfl⟩ | ⟨g,cap,cur,rfl,_⟩
 · exact ⟨_,_,rfl⟩
 · exact ⟨_,_,rfl⟩
theorem RfAt.only {w w' : World} {base p : Nat} {ps : List Int} {at_ : Nat} {S : Nat -> Prop} (h : RfAt w base p ps at_) (ho : Only S w w') (hp : ¬ S p) (hs : ∀ k,base <= k -> k < p -> ¬ S k) : RfAt w' base p ps at_:=by
 obtain ⟨A,c,h1,h2⟩:=h.ex
 have hb:=λ k hk=>(Kd.R_bound h2).1 k hk
 refine ⟨A,c,(ho.block p (a0f h1) hp).trans h1,Kd.R_mono (Kd.R_step (Kd.R_tight (d:=Kd.int .u8) rfl h2) (λ k hk hlt=>ho.block k hlt ?_)) (λ k hk=>(hb k hk.symm).1)⟩
 have:=hb k hk.symm
 exact hs k this.2.1 this.1
theorem Only.grown {S : Nat -> Prop} {a b c : World} {row : Option Nat} (h : Only S a b) (hg : b.grownBy c row) (hs : ∀ k,row = some k -> S k) : Only S a c:=h.trans (Only.of_grown hg hs)
end Go.Proofs.YtipjlneepponpaaGreat
namespace Go.Proofs.YtipjlneepponpaaGreat
open Go.RowKit Go.IntWalk Go.Proofs.YtipjlneepponpaaGreatW.PrintWords
structure S1 (rbx mb mc p B r n0 : Nat) (ps : List Int) (qs : List (List Int)) (at_ : Nat) (w0 W : World) : Prop where
 rd : RfAt W B p ps at_
 kb : W.heap[rbx]? = some (.cells #[.pointer (some ⟨p,0,none⟩)] 48 (0,0))
 km : W.heap[mb]? = some (.cells #[.int .i64 r,.bool false,.slice (some ⟨mc,0,none⟩) 256 256] 31 (0,0))
 row : kq.R 47 W n0 (λ k=>k ≠ p /\ k ≠ rbx /\ k ≠ mb) (.slice (some ⟨mc,0,none⟩) 256 256) qs
 on : Below n0 w0 W
theorem Told.nil (k : Int) {w w' : World} (hb : Below w.heap.size w w') : Told k [] w (.returned (.tuple #[.slice none 0 0,.int .i64 k])) w':=⟨none,0,rfl,Kd.R_nil _ _ _ _ _,hb⟩
theorem b4 : Bytes [4]:=by intro x hx; simp at hx; omega
open Go.Proofs.YtipjlneepponpaaGreat.PRef
theorem c6r (A : Option Addr) (cp n : Nat) (l : List Bool) (w : World) (hr : Kd.bool.C w A n l) (hn : l.length = n) (hc : l.length <= cp) (hl : l.length <= 1000000) : Calls Tryz.prog 28 #[.slice A n cp] w (MadeU (packB l) w):=by
 subst hn
 obtain ⟨k,hk⟩:=(b2O l hl).rounds
 exact puncheonref01_Bytes.calls k A cp l _ w hr hc hk
set_option maxRecDepth 100000 in
theorem c6s (A : Option Addr) (cp : Nat) (w : World) : Calls Tryz.prog 9 #[.slice A 0 cp] w (Told 1 [] w):=by
 go_enter Tryz.func9,Tryz.ntmps9
 go_wp2_with fail
 go_ret2
 exact Told.nil 1 (Below.refl _ _)
set_option maxRecDepth 100000 in
set_option maxHeartbeats 2000000 in
theorem c6t (A : Option Addr) (cp : Nat) (b : List Int) (w : World) (hr : (Kd.int .u8).C w A b.length b) (hc : b.length <= cp) (hb : Bytes b) (hl : b.length <= 5000) (h0 : 0 < b.length) :
    Calls Tryz.prog 9 #[.slice A b.length cp] w (Told 0 (a1b b) w):=by
 have d1 : ((b.length : Int) == 0) = false:=by simp; intro e; subst e; simp at h0
 have d2 : decide ((131072 : Int) < (b.length : Int)) = false:=decide_eq_false (by omega)
 have HZ:=Lib.hid (c2w A cp b w hr hc hb (by omega) h0)
 have HR:=Lib.hid (And.intro hr (And.intro hc (And.intro hb hl)))
 have HCan : Hid (canM (zeroR b : Nat) true [zeroQ b] b = true):=a3O (one:=true) hb (by omega) h0
 have HN:=Lib.hid (a5d hb (by omega) h0)
 have HFit:=Lib.hid (a3H (a3I HCan.out).1 hb)
 have HB : Hid (a1b b = packB (a0h (zeroR b) 8 ++ hdrB (zeroQ b) 257 0 (2 ^ zeroR b)) ++ packB (a0P (zeroR b : Nat) true [zeroQ b] b ++ [true])):=Lib.hid (by unfold a1b headB; rfl)
 obtain ⟨Bd,hBd⟩ : ∃ B,B = a1b b:=⟨_,rfl⟩
 rw [<- hBd] at HB ⊢
 obtain ⟨r,hrz⟩ : ∃ r,r = zeroR b:=⟨_,rfl⟩
 obtain ⟨q,hqz⟩ : ∃ q,q = zeroQ b:=⟨_,rfl⟩
 rw [<- hrz,<- hqz] at HZ HCan HN HFit HB
 have hr12 : r <= 12:=HN.out.r12
 have hwr : IntKind.u32.wrap (r : Int) = (r : Int):=by rw [IntKind.wrap_u32']; omega
 obtain ⟨hd,hhd⟩ : ∃ l,l = a0h r 8 ++ hdrB q 257 0 (2 ^ r):=⟨_,rfl⟩
 have HHd : Hid (hd.length <= 880000):=Lib.hid (by
  have hn:=HN.out
  have e2 : (2 : Int) ^ r = ((2 ^ r : Nat) : Int):=by simp
  have h1:=a3k hn.r12 hn.len hn.nn 257 0 (2 ^ r) (by omega) (by rw [List.drop_zero,hn.sum,e2]) (by rw [Nat.pow_succ]; have:=Nat.two_pow_pos r; omega)
  have h2 : (256 - 0) * (r + 3) <= 256 * 15:=Nat.mul_le_mul (by omega) (by omega)
  rw [hhd,List.length_append,a0B]; omega)
 have HHD:=Lib.hid hhd
 rw [<- hhd] at HB
 obtain ⟨Pl,hPl⟩ : ∃ P,P = packB (a0P (r : Nat) true [q] b ++ [true]):=⟨_,rfl⟩
 have HPl:=Lib.hid hPl
 have HPll : Hid (Pl.length <= 700000):=Lib.hid (by
  rw [hPl,a0A,List.length_append]
  have:=HFit.out; simp only [List.length_singleton]; omega)
 rw [<- hPl] at HB
 obtain ⟨Hp,hHp⟩ : ∃ P,P = packB hd:=⟨_,rfl⟩
 have HHp:=Lib.hid (And.intro hHp (show Hp.length <= 200000 from by rw [hHp,a0A]; have:=HHd.out; omega))
 rw [<- hHp] at HB
 clear hr hc hb hl h0 hBd hrz hqz hhd hPl hHp
 go_enter Tryz.func9,Tryz.ntmps9
 go_wp2_with fail
 refine HZ.out.mono ?_
 rintro e w1 ⟨v,rfl,hv,hb1⟩
 obtain ⟨Am,cm,rfl⟩:=Kd.R_slice hv
 have hv1:=hv
 obtain ⟨w2,hw2⟩ : ∃ w2,w2 = w1.alloc (.cells #[.int .i64 r,.bool true,.slice Am 1 cm] 31):=⟨_,rfl⟩
 have hM : MAt w1.heap.size r true Am cm [q] w2:=by rw [hw2]; exact MAt.new (lg:=(r : Int)) (one:=true) (qs:=[q]) hv
 have HB2:=Lib.hid (show Below w.heap.size w w2 from by rw [hw2]; exact hb1.alloc hb1.size _)
 obtain ⟨mb,hmb⟩ : ∃ m,m = w1.heap.size:=⟨_,rfl⟩
 rw [<- hmb] at hM
 have HM:=Lib.hid hM
 have HCm:=Lib.hid (show 1 <= cm from (Kd.R_reads' hv).2.1)
 obtain ⟨⟨m0,m1,m2⟩,_⟩:=cell3 hM.blk
 clear hv hv1 hb1 hM
 have HP1:=Lib.hid (a4X none 0 [] r 8 w2 (Kd.R_reads' (Kd.R_nil Kd.bool 4 w2 w2.heap.size (λ _=>True))).2.2 (by decide) (by decide) (by omega) (by decide))
 rw [List.nil_append] at HP1
 subst hw2
 rw [hmb] at m0 m1 m2
 go_wp2_with fail
 obtain ⟨w2,hw2⟩ : ∃ w2,w2 = w1.alloc (.cells #[.int .i64 r,.bool true,.slice Am 1 cm] 31):=⟨_,rfl⟩
 rw [<- hw2] at HB2 HM HP1 ⊢
 rw [<- hmb]
 clear m0 m1 m2 hw2 hmb
 obtain ⟨h8,hh8⟩ : ∃ l,l = a0h r 8:=⟨_,rfl⟩
 have HH8 : Hid (h8.length = 8):=Lib.hid (by rw [hh8]; exact a0B _ _)
 rw [<- hh8] at HP1 HHD
 clear hh8
 refine HP1.out.mono ?_
 intro e w3 h3
 obtain ⟨A3,c3,rfl,hC3,hc3,hb3⟩:=h3.out
 have HM3:=Lib.hid (HM.out.later hb3)
 have HB3:=Lib.hid (a0i HB2.out hb3)
 obtain ⟨⟨m0,m1,m2⟩,_⟩:=cell3 HM3.out.blk
 obtain ⟨ad,B,cq,hA3,hcq,hcql,hCq⟩:=kq_at HM3.out.row 0 (by simp)
 subst hA3
 rw [Addr.add_zero'] at hcq
 have hql : (([q] : List (List Int)).getD 0 []).length = 256:=HN.out.len
 rw [hql] at hcq hcql hCq
 have HP15:=Lib.hid (c3o A3 B c3 cq r h8 q w3 hC3 hc3 (by rw [HN.out.len]; exact hCq) (by rw [HN.out.len]; exact hcql) HN.out (by rw [HH8.out]; decide))
 rw [<- HHD.out] at HP15
 clear h3 hC3 hc3 hb3 hcql hCq hql
 go_wp2_with fail
 refine HP15.out.mono ?_
 rintro e w4 ⟨A4,c4,rfl,hC4,hc4,hb4⟩
 have HBy:=Lib.hid (c6r A4 c4 hd.length hd w4 hC4 rfl hc4 (by have:=HHd.out; omega))
 rw [<- HHp.out.1] at HBy
 have HB4:=Lib.hid (a0i HB3.out hb4)
 have HM4:=Lib.hid (HM3.out.later hb4)
 clear hC4 hc4 hb4 m0 m1 m2 hcq
 go_wp2_with fail
 refine HBy.out.mono ?_
 rintro e w5 ⟨v5,rfl,hv5,hb5⟩
 obtain ⟨A5,c5,rfl⟩:=Kd.R_slice hv5
 have HM5:=Lib.hid (HM4.out.later hb5)
 have HB5:=Lib.hid (a0i HB4.out hb5)
 have HO5:=Lib.hid (Kd.R_lower hv5 HB4.out.size)
 obtain ⟨⟨m0,m1,m2⟩,_⟩:=cell3 HM5.out.blk
 have HEn:=Lib.hid (c2O r true (some ad) cm [q] A cp b w5 HM5.out.row HCm.out (by simp) (Kd.C_below HR.out.1 HB5.out) HR.out.2.1 HR.out.2.2.1 HR.out.2.2.2)
 clear hv5 hb5
 go_wp2_with fail
 refine HEn.out.mono ?_
 rintro e w6 ⟨_,h2,hb6⟩
 obtain ⟨v6,rfl,hv6⟩:=h2 HCan.out
 rw [<- HPl.out] at hv6
 obtain ⟨A6,c6,rfl⟩:=Kd.R_slice hv6
 have HO6:=Lib.hid (Kd.R_below HO5.out hb6)
 have HD6:=Lib.hid (Kd.R_reads' hv6).2.2
 have HB6:=Lib.hid (a0i HB5.out hb6)
 have HS6:=Lib.hid HB6.out.size
 have HL6 : Hid ((Hp.length + Pl.length) * 1 <= 140737488355328):=Lib.hid (by have:=HHp.out.2; have:=HPll.out; omega)
 clear h2 hv6 hb6
 go_wp2_with (at_builtin; refine Kd.R_append_rows (Kd.int .u8) (Rr:=(Kd.int .u8).K w6) (w0:=w) (W:=w6) w.heap.size rfl (.tmp 36) (.tmp 37) 22 5 (.int .u8 0) 1 rfl Tryz.underlying22 a1C rfl (by decide) (by decide) (.slice A5 Hp.length c5) Hp Pl A6 Pl.length c6 (λ _=>True) (λ _=>False) rfl rfl HO6.out HD6.out (λ _ _ h=>h) (λ _ h=>h.elim) (λ _ _=>trivial) HB6.out HS6.out HL6.out ?_; intro v7 w7 hr7 hb7 hg7 hat7; rw [<- HB.out] at hr7; obtain ⟨A7,c7,rfl⟩:=Kd.R_slice hr7; have HA7:=Lib.hid (And.intro hr7 hb7); clear hr7 hb7 hg7 hat7)
 go_ret2
 exact ⟨A7,c7,rfl,HA7.out.1,HA7.out.2⟩
end Go.Proofs.YtipjlneepponpaaGreat
namespace Go.Proofs.YtipjlneepponpaaGreat
open Go.RowKit Go.IntWalk Go.Proofs.YtipjlneepponpaaGreatW.PrintWords
def Enc18 (A : Option Addr) (ca : Nat) (b : List Int) (w : World) : Prop:=
 ∃ (k : Int) (y : List Int),Bytes y /\ (∀ w1,Below w.heap.size w w1 -> Calls Tryz.prog 8 #[.slice A b.length ca] w1 (Told k y w1)) /\ (∀ w1,Below w.heap.size w w1 -> Calls Tryz.prog 9 #[.slice A b.length ca] w1 (Told k y w1))
set_option maxRecDepth 100000 in
theorem c6u (A : Option Addr) (ca : Nat) (b : List Int) (w : World) (hE : b.length <= 60 -> Enc18 A ca b w) :
    Calls Tryz.prog 3 #[.slice A b.length ca] w (Ret (.bool true) w):=by
 by_cases h1 : b.length <= 60
 · obtain ⟨k,y,hy,g1,g2⟩:=hE h1
   have HG:=Lib.hid (And.intro hy (And.intro g1 g2))
   have d1 : decide (60 < (b.length : Int)) = false:=decide_eq_false (by omega)
   clear hy g1 g2 hE h1
   go_enter Tryz.func3,Tryz.ntmps3
   go_wp2_with fail
   refine (b4I w).mono ?_
   rintro e w1 ⟨rfl,hb1⟩
   have HB1:=Lib.hid hb1
   clear hb1
   go_wp2_with fail
   refine (HG.out.2.1 w1 HB1.out).mono ?_
   intro e w2 h2
   obtain ⟨A2,c2,rfl,hs2,hb2⟩:=h2.out HG.out.1
   have HB2:=Lib.hid (a0i HB1.out hb2)
   have HS2:=Lib.hid hs2
   clear h2 hs2 hb2
   go_wp2_with fail
   refine (HG.out.2.2 w2 HB2.out).mono ?_
   intro e w3 h3
   obtain ⟨A3,c3,rfl,hs3,hb3⟩:=h3.out HG.out.1
   have HB3:=Lib.hid (a0i HB2.out hb3)
   have HS3:=Lib.hid (And.intro (HS2.out.below hb3) hs3)
   clear h3 hs3 hb3
   go_wp2_with fail
   refine (c2E A2 A3 c2 c3 y w3 HS3.out.1.row HS3.out.2.row HG.out.1).mono ?_
   rintro e w4 ⟨rfl,rfl⟩
   go_wp2_with fail
   go_ret
   exact ⟨rfl,HB3.out⟩
 · have d1 : decide (60 < (b.length : Int)) = true:=decide_eq_true (by omega)
   clear hE h1
   go_enter Tryz.func3,Tryz.ntmps3
   go_wp2_with fail
   refine (b4I w).mono ?_
   rintro e w1 ⟨rfl,hb1⟩
   have HB1:=Lib.hid hb1
   clear hb1
   go_wp2_with fail
   go_ret
   exact ⟨rfl,HB1.out⟩
theorem c6v (A : Option Addr) (ca : Nat) (b : List Int) (w : World) (hr : (Kd.int .u8).C w A b.length b) (hc : b.length <= ca) (hby : Bytes b) (hl : b.length <= 60) : Enc18 A ca b w:=by
 rcases Nat.eq_zero_or_pos b.length with h0 | h0
 · refine ⟨1,[],(by intro z hz; cases hz),λ w1 _=>?_,λ w1 _=>?_⟩
   · rw [h0]
     refine (b4D A ca w1).mono ?_
     rintro e w2 (⟨_,rfl,hb⟩ | ⟨h,_⟩)
     · exact Told.nil 1 hb
     · cases h
   · rw [h0]; exact c6s A ca w1
 · exact ⟨0,a1b b,b4G b,λ w1 h=>b4F A ca b w1 (Kd.C_below hr h) hby (by omega) h0,λ w1 h=>c6t A ca b w1 (Kd.C_below hr h) hc hby (by omega) h0⟩
theorem c6w (A : Option Addr) (ca : Nat) (b : List Int) (w : World) (hr : (Kd.int .u8).C w A b.length b) (hc : b.length <= ca) (hby : Bytes b) :
    Calls Tryz.prog 3 #[.slice A b.length ca] w (Ret (.bool true) w):=c6u A ca b w (λ hl=>c6v A ca b w hr hc hby hl)
theorem c6x (A : Option Addr) (ca : Nat) (b : List Int) (w : World) (hr : (Kd.int .u8).C w A b.length b) (hc : b.length <= ca) (hby : Bytes b) (_ : b.length * 1 <= 140737488351232) :
    Calls Tryz.prog 3 #[.slice A b.length ca] w (Ret (.bool true) w):=c6w A ca b w hr hc hby
end Go.Proofs.YtipjlneepponpaaGreat
