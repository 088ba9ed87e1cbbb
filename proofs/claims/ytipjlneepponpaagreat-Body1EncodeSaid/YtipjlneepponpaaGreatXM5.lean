/- The walk of header.counts. -/
import Derived.Test.YtipjlneepponpaaGreatXM1
import Derived.Test.YtipjlneepponpaaGreatXS1
import Derived.Test.YtipjlneepponpaaGreatXM2
import Derived.Test.YtipjlneepponpaaGreatXR1
import Derived.Test.YtipjlneepponpaaGreatXM4
import Derived.Test.YtipjlneepponpaaGreatXM0
import Derived.Defers
import Derived.Recover
import Derived.BigQuiet
import Derived.Deep.QuietTactic
import Derived.Deep.MidRow
import Derived.Deep.RegionHeld3
import Derived.Deep.RegionLaw
import Derived.RangeFuncRecord
import Derived.RangeFuncSeq
import Derived.WalkKit
import Derived.OwnWalkIn
import Derived.TacticsInMore
import Derived.BigFrameIn
import Derived.LoopNIn
import Derived.LoopIn
import Derived.Maps.OwnIn
import Derived.Maps.AppendAt
import Derived.RangeFuncBox
import Derived.OwnWalk
import Derived.RangeFuncLeaves
import Derived.Laws.EntriesVeiled
namespace Go.Proofs.YtipjlneepponpaaGreat
open Go.RowKit Go.IntWalk Go.Proofs.YtipjlneepponpaaGreatW.PrintWords
set_option maxRecDepth 100000 in
set_option maxHeartbeats 2000000 in
theorem c3Z (base p : Nat) (ps : List Int) (at_ left0 : Nat) (w : World) (h : RfAt w base p ps at_) (hps : ∀ x ∈ ps,0 <= x /\ x < 256) (hl : ps.length <= 1000000) (ha : at_ <= 8 * ps.length) (hleft : left0 <= 4096) (hp : p < w.heap.size) :
    Calls Tryz.prog 81 #[.pointer (some ⟨p,0,none⟩),.int .i64 left0] w (c3Y base p ps (hdrT ps (8 * ps.length) 257 a0F 0 left0 false at_) w):=by
 obtain ⟨H,hH⟩ : ∃ H,H = hdrT ps (8 * ps.length) 257 a0F 0 left0 false at_:=⟨_,rfl⟩
 rw [<- hH]
 obtain ⟨W,hW⟩ : ∃ W,W = w.alloc (.cells (madeCells #[.int .i64 0] 256) 3):=⟨_,rfl⟩
 have HI : Hid (HcRel base p w.heap.size ps H w left0 0 false a0F at_ 257 W):=by
  refine ⟨?_,?_,by unfold a0F; exact List.length_replicate,ha,hH.symm,by omega,?_,hp,Nat.le_refl _⟩
  · rw [hW]; exact h.below ((Below.refl _ _).alloc (Nat.le_refl _) _)
  · rw [hW]; exact a8M 256 3 w _ trivial _ (Nat.le_refl _) (by omega)
  · rw [hW]; exact (Only.refl _ _).alloc _
 have hmi : ∀ w : World,(Instr.makeSlice 47 (.int .i64 256) (.int .i64 256)).run Tryz.prog w = .ok (.slice (some ⟨w.heap.size,0,none⟩) 256 256) (w.alloc (.cells (madeCells #[.int .i64 0] 256) 3)):=λ w=>a8t 256 (by omega) w
 have HP:=Lib.hid (And.intro hps (And.intro hl ha))
 clear h hps hl ha hH
 go_enter Tryz.func81,Tryz.ntmps81
 go_wp2_with fail
 rw [<- hW]
 obtain ⟨g,hg⟩ : ∃ g,g = w.heap.size:=⟨_,rfl⟩
 rw [<- hg] at HI ⊢
 clear hW hg hmi
 go_loopw [1,6,7] (λ lv av sv wr=>∃ (left s : Nat) (again : Bool),lv = .int .i64 left /\ av = .bool again /\ sv = .int .i64 s /\ left <= 4096 /\ s <= 256 /\ Hid (∃ q at' d,HcRel base p g ps H w left s again q at' d wr)) (λ _ _ sv _=>257 - (intOf sv).toNat)
 case atStart=>exact ⟨left0,0,false,rfl,rfl,rfl,hleft,by omega,a0F,at_,257,HI⟩
 case round=>
  obtain ⟨left,s,again,rfl,rfl,rfl,hl4,hs,HR⟩:=hrel
  obtain ⟨q,at',d,hr⟩:=HR.out
  obtain ⟨d,rfl⟩ : ∃ d',d = d' + 1:=⟨d - 1,by have:=hr.fuel; omega⟩
  have heq:=hr.eq
  simp only [hdrT] at heq
  have HH:=Lib.hid hr
  clear hr HR
  by_cases h0 : left = 0
  · rw [if_pos h0] at heq
    have HE:=Lib.hid heq
    subst h0
    clear heq
    go_wp2_with fail
    go_ret
    exact ⟨λ _=>⟨g,rfl,by rw [<- HE.out]; exact HH.out.row,by rw [<- HE.out]; exact HH.out.ql,by rw [<- HE.out]; exact HH.out.rd⟩,λ h=>by rw [<- HE.out] at h; exact absurd rfl h,HH.out.only⟩
  · rw [if_neg h0] at heq
    by_cases h256 : s = 256
    · rw [if_pos h256] at heq
      have HE:=Lib.hid heq
      subst h256
      clear heq
      go_wp2_with fail
      refine (a8N wr).mono ?_
      rintro e w' ⟨rfl,rfl⟩
      unfold panE
      go_wp2_with fail
      refine ⟨rfl,?_⟩
      exact ⟨(λ h=>by rw [<- HE.out] at h; cases h),(λ _=>by rw [<- HE.out]; rfl),HH.out.only⟩
    · rw [if_neg h256] at heq
      have hsb : ((s : Int) == 256) = false:=beq_eq_false_iff_ne.2 (by omega)
      have hs256 : (s : Int) < 256:=by omega
      have HEQ:=Lib.hid heq
      clear heq
      go_wp2_with fail
      refine (a4s wr).mono ?_
      rintro e w' ⟨rfl,rfl⟩
      go_wp2_with fail
      refine (c3R base p ps at' left wr HH.out.rd HP.out.1 HP.out.2.1 HH.out.at_le (by omega) hl4).mono ?_
      rintro e w1 ⟨t1,t2,t3,t4⟩
      have HO:=Lib.hid t4
      by_cases hT : 8 * ps.length < at' + Lib.bitLen left
      · obtain rfl:=t1 hT
        have HE : Hid ((3,q,0) = H):=by have:=HEQ.out; rw [if_pos hT] at this; exact this
        clear t1 t2 t3 t4
        go_wp2_with fail
        refine (a8O 0 3 w1 (by decide)).mono ?_
        rintro e w' ⟨rfl,rfl⟩
        unfold panE
        go_wp2_with fail
        refine ⟨rfl,?_⟩
        exact ⟨(λ h=>by rw [<- HE.out] at h; cases h),(λ _=>by rw [<- HE.out]; rfl),HH.out.only.trans HO.out⟩
      · have HNT:=Lib.hid hT
        have hT' : at' + Lib.bitLen left <= 8 * ps.length:=by omega
        by_cases hV : left < takeF ps at' (Lib.bitLen left)
        · obtain rfl:=t2 hT' hV
          have HE : Hid ((13,q,0) = H):=by have:=HEQ.out; rw [if_neg hT,if_pos hV] at this; exact this
          clear t1 t2 t3 t4 hT hT' hV
          go_wp2_with fail
          refine (a8O 0 13 w1 (by decide)).mono ?_
          rintro e w' ⟨rfl,rfl⟩
          unfold panE
          go_wp2_with fail
          refine ⟨rfl,?_⟩
          exact ⟨(λ h=>by rw [<- HE.out] at h; cases h),(λ _=>by rw [<- HE.out]; rfl),HH.out.only.trans HO.out⟩
        · obtain ⟨rfl,hrd⟩:=t3 hT' (by omega)
          obtain ⟨V,hVe⟩ : ∃ V,V = takeF ps at' (Lib.bitLen left):=⟨_,rfl⟩
          have hq3:=HEQ.out
          rw [if_neg hT,if_neg hV] at hq3
          rw [<- hVe] at hq3 hV ⊢
          have hVl : V <= left:=by omega
          have HPut:=Lib.hid (HH.out.put hrd HO.out (V : Int))
          obtain ⟨hcl,hfz⟩:=a1w HPut.out.2.2.2 s (by omega)
          have hcl2:=(a1w HPut.out.2.1 s (by omega)).1
          have hqs : (q.set s (V : Int)).getD s 0 = V:=by rw [a4r _ _ _ _ (by have:=HH.out.ql; omega),if_pos rfl]
          rw [hqs] at hcl2
          have HQ3:=Lib.hid hq3
          have HT2:=Lib.hid hT'
          obtain ⟨at2,hat2⟩ : ∃ a,a = at' + Lib.bitLen left:=⟨_,rfl⟩
          rw [<- hat2] at HPut HQ3 HT2
          clear t1 t2 t3 t4 hT hT' hV hVe hq3 hqs hrd hat2
          by_cases hV0 : V = 0
          · subst hV0
            have hvb : (((0 : Nat) : Int) == 0) = true:=rfl
            cases again with
            | true=>
             have HE : Hid ((13,q,0) = H):=by have:=HQ3.out; rw [if_pos ⟨rfl,rfl⟩] at this; exact this
             go_wp2_with fail
             refine (a4t (0 : Int) w1).mono ?_
             rintro e w' ⟨rfl,rfl⟩
             go_wp2_with fail
             refine (a8N _).mono ?_
             rintro e w' ⟨rfl,rfl⟩
             unfold panE
             go_wp2_with fail
             refine ⟨rfl,?_⟩
             exact ⟨(λ h=>by rw [<- HE.out] at h; cases h),(λ _=>by rw [<- HE.out]; rfl),HPut.out.2.2.1⟩
            | false=>
             by_cases hs1 : s + 1 = 256
             · have HE : Hid ((13,q,0) = H):=by have:=HQ3.out; rw [if_neg (λ h=>by cases h.1),if_pos rfl,if_pos hs1] at this; exact this
               have hsb1 : ((s : Int) + 1 == 256) = true:=by simp; omega
               go_wp2_with fail
               refine (a4t (0 : Int) w1).mono ?_
               rintro e w' ⟨rfl,rfl⟩
               go_wp2_with fail
               refine (a4s _).mono ?_
               rintro e w' ⟨rfl,rfl⟩
               go_wp2_with fail
               refine (a8N _).mono ?_
               rintro e w' ⟨rfl,rfl⟩
               unfold panE
               go_wp2_with fail
               refine ⟨rfl,?_⟩
               exact ⟨(λ h=>by rw [<- HE.out] at h; cases h),(λ _=>by rw [<- HE.out]; rfl),HPut.out.2.2.1⟩
             · have hsb1 : ((s : Int) + 1 == 256) = false:=beq_eq_false_iff_ne.2 (by omega)
               have hq4:=HQ3.out
               rw [if_neg (λ h=>by cases h.1),if_pos rfl,if_neg hs1] at hq4
               have HQ4:=Lib.hid hq4
               have hmost : (254 : Int) - (s : Int) = ((254 - s : Nat) : Int):=by omega
               clear hq4
               go_wp2_with fail
               refine (a4t (0 : Int) w1).mono ?_
               rintro e w' ⟨rfl,rfl⟩
               go_wp2_with fail
               refine (a4s _).mono ?_
               rintro e w' ⟨rfl,rfl⟩
               go_wp2_with fail
               refine (a4s _).mono ?_
               rintro e w' ⟨rfl,rfl⟩
               go_wp2_with fail
               obtain ⟨R,hR⟩ : ∃ R,R = runT ps (8 * ps.length) 100 at2 0 (254 - s):=⟨_,rfl⟩
               have hRle : R.1 = 0 -> R.2.1 <= 254 - s:=λ h=>by rw [hR] at h ⊢; exact c3X _ _ _ _ h
               have hRend : R.1 = 0 -> R.2.2 <= 8 * ps.length:=λ h=>by rw [hR] at h ⊢; exact b3U _ _ _ _ h
               have hrt:=c3S base p ps at2 (254 - s) _ HPut.out.1 HP.out.1 HP.out.2.1 HT2.out (by omega)
               unfold a8L at hrt
               rw [<- hR] at hrt HQ4
               have HRE:=Lib.hid (And.intro hRle hRend)
               clear hR hRle hRend
               refine hrt.mono ?_
               rintro e w2 ⟨r1,r2,r3⟩
               have HO2 : Hid (Only (λ k=>k = p) w w2):=HPut.out.2.2.1.trans r3
               by_cases hr1 : R.1 = 0
               · obtain ⟨rfl,hrd2⟩:=r1 hr1
                 have hle:=HRE.out.1 hr1
                 have hq5:=HQ4.out
                 rw [if_neg (λ h=>h hr1)] at hq5
                 have HNew : Hid (∃ q at' d,HcRel base p g ps H w left (s + R.2.1 + 1) true q at' d w2):=by
                  refine ⟨q.set s 0,R.2.2,d,hrd2,?_,by simp [HH.out.ql],HRE.out.2 hr1,?_,by have:=HH.out.fuel; omega,HO2.out,HH.out.gt⟩
                  · exact a2Q rfl HPut.out.2.1 r3 (λ k hk e=>by
                      have : g = k:=by simpa [Value.ownBlock] using hk
                      have:=HH.out.gt
                      omega)
                  · rw [show s + R.2.1 + 1 = s + 1 + R.2.1 by omega]; exact hq5
                 obtain ⟨rn,hrn⟩ : ∃ rn,rn = R.2.1:=⟨_,rfl⟩
                 rw [<- hrn] at hle HNew ⊢
                 clear r1 r2 r3 hrd2 hq5 hrt hrn
                 go_wp2_with fail
                 refine (a4t (rn : Int) w2).mono ?_
                 rintro e w' ⟨rfl,rfl⟩
                 go_wp2_with fail
                 go_roundw
                 case rel=>exact ⟨left,s + rn + 1,true,by first | rfl | (congr 1; omega),rfl,by go_num,hl4,by omega,HNew⟩
                 case measure=>simp [intOf]; omega
               · obtain rfl:=r2 hr1
                 have HE : Hid ((R.1,q,0) = H):=by have:=HQ4.out; rw [if_pos hr1] at this; exact this
                 obtain ⟨rc,hrc⟩ : ∃ rc,rc = R.1:=⟨_,rfl⟩
                 rw [<- hrc] at HE hr1 ⊢
                 clear r1 r2 r3 hrt hrc
                 go_wp2_with fail
                 refine (a8O 0 rc w2 hr1).mono ?_
                 rintro e w' ⟨rfl,rfl⟩
                 unfold panE
                 go_wp2_with fail
                 refine ⟨rfl,?_⟩
                 exact ⟨(λ h=>by rw [<- HE.out] at h; exact absurd h hr1),(λ _=>by rw [<- HE.out]; rfl),HO2.out⟩
          · have hvb : ((V : Int) == 0) = false:=beq_eq_false_iff_ne.2 (by omega)
            have hq4:=HQ3.out
            rw [if_neg (λ h=>hV0 h.2),if_neg hV0] at hq4
            have HNew : Hid (∃ q at' d,HcRel base p g ps H w (left - V) (s + 1) false q at' d (w1.setCell ⟨g,s,none⟩ (.int .i64 (V : Int)))):=
             ⟨q.set s (V : Int),at2,d,HPut.out.1,HPut.out.2.1,by simp [HH.out.ql],HT2.out,hq4,by have:=HH.out.fuel; omega,HPut.out.2.2.1,HH.out.gt⟩
            have hls : (left : Int) - (V : Int) = ((left - V : Nat) : Int):=by omega
            clear hq4
            cases again with
            | true=>
             go_wp2_with fail
             refine (a4t (V : Int) w1).mono ?_
             rintro e w' ⟨rfl,rfl⟩
             go_wp2_with fail
             refine (a4s _).mono ?_
             rintro e w' ⟨rfl,rfl⟩
             go_wp2_with fail
             go_roundw
             case rel=>exact ⟨left - V,s + 1,false,by first | rfl | (congr 1; omega),rfl,by go_num,by omega,by omega,HNew⟩
             case measure=>simp [intOf]; omega
            | false=>
             go_wp2_with fail
             refine (a4t (V : Int) w1).mono ?_
             rintro e w' ⟨rfl,rfl⟩
             go_wp2_with fail
             refine (a4s _).mono ?_
             rintro e w' ⟨rfl,rfl⟩
             go_wp2_with fail
             go_roundw
             case rel=>exact ⟨left - V,s + 1,false,by first | rfl | (congr 1; omega),rfl,by go_num,by omega,by omega,HNew⟩
             case measure=>simp [intOf]; omega
set_option maxRecDepth 100000 in
theorem c4a (a b : Nat) (va : Value) (n x : Int) (older : List PanicEntry) (w : World) (ha : w.cell? ⟨a,0,none⟩ = some va) (hfa : w.frozen? ⟨a,0,none⟩ = false) (hb : w.cell? ⟨b,0,none⟩ = some (.int .i64 x)) (hfb : w.frozen? ⟨b,0,none⟩ = false) (hne : a ≠ b) :
    CallsD Tryz.prog 80 #[.pointer (some ⟨a,0,none⟩),.pointer (some ⟨b,0,none⟩)] (.panicking ({ v:=.iface 24 (.int .i64 n),recovered:=false } :: older)) w λ e u' w'=>
     e = .returned (.tuple #[]) /\ u' = .panicking ({ v:=.iface 24 (.int .i64 n),recovered:=true } :: older) /\ w' = (w.setCell ⟨a,0,none⟩ (.slice none 0 0)).setCell ⟨b,0,none⟩ (.int .i64 n):=by
 have ta : ∀ (v : Value) (w : World),(Instr.typeAssert (.iface 24 v) 20 24 true).run Tryz.prog w = .ok (.tuple #[v,.bool true]) w:=λ v w=>by kernel_rfl
 have hne2 : ¬ b = a:=λ e=>hne e.symm
 refine callsD_of_wpS Tryz.func80 rfl λ c₀ cs hu=>?_
 apply wpS_seq
 apply wpS_region
 simp [wpOpsS,go_sem,recoverD,hu,Tryz.ntmps80,Exit.thenS,ta]
 apply wpS_seq
 apply wpS_region
 simp [wpOpsS,go_sem,Exit.thenS]
 refine wpS_cond (t:=true) (by simp [Act.eval,Array.replicate]) ?_
 simp only [if_true]
 apply wpS_region
 have hb2 : (w.setCell ⟨a,0,none⟩ (.slice none 0 0)).cell? ⟨b,0,none⟩ = some (.int .i64 x):=by
  rw [World.cell?_setCell_other _ _ _ _ (by simp)]; exact hb
 have hfb2 : (w.setCell ⟨a,0,none⟩ (.slice none 0 0)).frozen? ⟨b,0,none⟩ = false:=by simp [hfb,go_sem]
 simp [wpOpsS,go_sem,ha,hfa,hb2,hfb2,bodyPostS,results,Tryz.results80]
set_option maxRecDepth 100000 in
theorem c4b (a b : Nat) (w : World) :
    CallsD Tryz.prog 80 #[.pointer (some ⟨a,0,none⟩),.pointer (some ⟨b,0,none⟩)] .returning w λ e u' w'=>e = .returned (.tuple #[]) /\ u' = .returning /\ w' = w:=by
 have ta : ∀ (w : World),(Instr.typeAssert .nilIface 20 24 true).run Tryz.prog w = .ok (.tuple #[.int .i64 0,.bool false]) w:=λ w=>by kernel_rfl
 refine callsD_of_wpS Tryz.func80 rfl λ c₀ cs hu=>?_
 apply wpS_seq
 apply wpS_region
 simp [wpOpsS,go_sem,recoverD,hu,Tryz.ntmps80,Exit.thenS,ta]
 apply wpS_seq
 apply wpS_region
 simp [wpOpsS,go_sem,Exit.thenS]
 refine wpS_cond (t:=false) (by simp [Act.eval,Array.replicate]) ?_
 simp only [Bool.false_eq_true,if_false]
 refine wpS_of_wp (wp_skip ?_)
 cases c₀
 simp_all [bodyPostS,results,Tryz.results80]
theorem Only.setNew {S : Nat -> Prop} {w w1 : World} (h : Only S w w1) {a : Nat} (ha : w.heap.size <= a) (j : Nat) (u : Value) : Only S w (w1.setCell ⟨a,j,none⟩ u):=
 ⟨h.os,h.tape,h.output,by simp; exact h.size,λ k hk hs=>by rw [Below.heap_setCell _ _ _ _ (by show k ≠ a; omega)]; exact h.block k hk hs⟩
def c4c (base p : Nat) (ps : List Int) (H : Int × List Int × Nat) (w : World) (e : Ending) (w' : World) : Prop:=
 (H.1 = 0 -> ∃ g,e = .returned (.tuple #[.slice (some ⟨g,0,none⟩) 256 256,.int .i64 0]) /\ (Kd.int .i64).R 3 w' w.heap.size (λ _=>True) (.slice (some ⟨g,0,none⟩) 256 256) H.2.1 /\ H.2.1.length = 256 /\ RfAt w' base p ps H.2.2) /\
 (H.1 ≠ 0 -> e = .returned (.tuple #[.slice none 0 0,.int .i64 H.1])) /\ Only (λ k=>k = p) w w'
set_option maxRecDepth 100000 in
set_option maxHeartbeats 1000000 in
theorem b4h (base p r : Nat) (ps : List Int) (at_ : Nat) (w : World) (h : RfAt w base p ps at_) (hps : ∀ x ∈ ps,0 <= x /\ x < 256) (hl : ps.length <= 1000000) (ha : at_ <= 8 * ps.length) (h1 : 1 <= r) (h12 : r <= 12) (hp : p < w.heap.size) :
    Calls Tryz.prog 34 #[.pointer (some ⟨p,0,none⟩),.int .i64 r] w (c4c base p ps (hdrT ps (8 * ps.length) 257 a0F 0 (2 ^ r) false at_) w):=by
 obtain ⟨P,hP⟩ : ∃ P : Nat,P = 2 ^ r:=⟨_,rfl⟩
 rw [<- hP]
 obtain ⟨H,hH⟩ : ∃ H,H = hdrT ps (8 * ps.length) 257 a0F 0 P false at_:=⟨_,rfl⟩
 rw [<- hH]
 have hPI : (2 : Int) ^ r = (P : Int):=by rw [hP]; simp
 have hPb : 1 <= P /\ P <= 4096:=by have:=a1u h12; rw [hPI] at this; omega
 have hw1 : IntKind.i64.wrap (2 ^ r) = (P : Int):=by rw [hPI]; exact i64_in _ (by omega)
 obtain ⟨W,hW⟩ : ∃ W,W = (w.alloc (.cells #[.slice none 0 0] 47)).alloc (.cells #[.int .i64 0] 24):=⟨_,rfl⟩
 have hmf : ∀ (fn : Fn) (first cap : Array Value) (w : World),(Instr.makeFunc fn first cap).run Tryz.prog w = .ok (.func fn first cap) w:=λ _ _ _ _=>rfl
 have hr1 : ¬ (r : Int) < 1:=by omega
 have hr2 : ¬ 12 < (r : Int):=by omega
 have hr0 : (0 : Int) <= r:=by omega
 have HW:=Lib.hid hPI
 have hsz : W.heap.size = w.heap.size + 2:=by rw [hW]; simp
 have hba : W.heap[w.heap.size]? = some (.cells #[.slice none 0 0] 47 (0,0)):=by rw [hW]; exact a0r (a0m _ _) _
 have hbb : W.heap[w.heap.size + 1]? = some (.cells #[.int .i64 0] 24 (0,0)):=by rw [hW]; exact a2D _ _ _
 have hWb : Below w.heap.size w W:=by rw [hW]; exact ((Below.refl _ _).alloc (Nat.le_refl _) _).alloc (by simp) _
 have HCnt:=Lib.hid (c3Z base p ps at_ P W (h.below hWb) hps hl ha (by omega) (by omega))
 rw [<- hH] at HCnt
 obtain ⟨a,hae⟩ : ∃ a,a = w.heap.size:=⟨_,rfl⟩
 obtain ⟨b,hbe⟩ : ∃ b,b = w.heap.size + 1:=⟨_,rfl⟩
 rw [<- hae] at hba
 rw [<- hbe] at hbb
 have HA:=Lib.hid (And.intro hae (And.intro hbe (And.intro hsz (And.intro hba (And.intro hbb (And.intro hWb hp))))))
 clear hPI hP hH h hps hl ha hsz hba hbb hWb hp
 go_enter_defers Tryz.func34,Tryz.ntmps34
 go_wp2_with fail
 rw [<- hW,<- hbe,<- hae]
 clear hW hae hbe
 refine HCnt.out.mono ?_
 rintro e w1 ⟨c1,c2,c3⟩
 have hab : p ≠ a /\ p ≠ b /\ a ≠ b /\ a < W.heap.size /\ b < W.heap.size:=by obtain ⟨q1,q2,q3,q4,q5,q6,q7⟩:=HA.out; omega
 have hba1 : w1.heap[a]? = some (.cells #[.slice none 0 0] 47 (0,0)):=by rw [c3.block a hab.2.2.2.1 (λ e=>hab.1 e.symm)]; exact HA.out.2.2.2.1
 have hbb1 : w1.heap[b]? = some (.cells #[.int .i64 0] 24 (0,0)):=by rw [c3.block b hab.2.2.2.2 (λ e=>hab.2.1 e.symm)]; exact HA.out.2.2.2.2.1
 have ca : w1.cell? ⟨a,0,none⟩ = some (.slice none 0 0):=(a0a hba1 0).trans rfl
 have cb : w1.cell? ⟨b,0,none⟩ = some (.int .i64 0):=(a0a hbb1 0).trans rfl
 have fa : w1.frozen? ⟨a,0,none⟩ = false:=a0e hba1 0
 have fb : w1.frozen? ⟨b,0,none⟩ = false:=a0e hbb1 0
 have HC3:=Lib.hid (And.intro c3 hab)
 have hne : ¬ a = b:=hab.2.2.1
 have hne' : ¬ b = a:=λ e=>hab.2.2.1 e.symm
 by_cases h0 : H.1 = 0
 · obtain ⟨g,rfl,d1,d2,d3⟩:=c1 h0
   have HD:=Lib.hid (And.intro d1 (And.intro d2 (And.intro d3 h0)))
   clear c1 c2 c3 d1 d2 d3 hba1 hbb1
   go_wp2_with fail
   refine leaves_cons (f:=80) (args:=#[.pointer (some ⟨a,0,none⟩),.pointer (some ⟨b,0,none⟩)]) (by simp) (by simp [go_sem]) ?_
   refine (c4b a b _).mono ?_
   rintro e u' w'' ⟨rfl,rfl,rfl⟩
   have ca2 : (w1.setCell ⟨a,0,none⟩ (.slice (some ⟨g,0,none⟩) 256 256)).cell? ⟨a,0,none⟩ = some (.slice (some ⟨g,0,none⟩) 256 256):=World.cell?_setCell_same _ _ _ ca
   have cb2 : ((w1.setCell ⟨a,0,none⟩ (.slice (some ⟨g,0,none⟩) 256 256)).setCell ⟨b,0,none⟩ (.int .i64 0)).cell? ⟨b,0,none⟩ = some (.int .i64 0):=World.cell?_setCell_same _ _ _ (by rw [World.cell?_setCell_other _ _ _ _ (by simp)]; exact cb)
   simp [Leaves,settle,results,Tryz.results34,go_sem,ca2,cb2]
   have ho : Only (λ k=>k = p) w w1:=(Only.of_below HA.out.2.2.2.2.2.1).trans HC3.out.1
   refine ⟨λ _=>⟨g,rfl,?_,HD.out.2.1,?_⟩,λ h=>absurd HD.out.2.2.2 h,(ho.setNew (by have:=HA.out.1; omega) 0 _).setNew (by have:=HA.out.2.1; omega) 0 _⟩
   · have hlt:=HC3.out.2
     have h1:=Kd.R_bound HD.out.1
     have h2:=Kd.R_far (p:=⟨b,0,none⟩) (Kd.R_far (p:=⟨a,0,none⟩) h1 (λ k hk=>by show k ≠ a; have:=hk.2.1; omega) (.slice (some ⟨g,0,none⟩) 256 256)) (λ k hk=>by show k ≠ b; have:=hk.2.1; omega) (.int .i64 0)
     exact Kd.R_mono (Kd.R_lower h2 HA.out.2.2.2.2.2.1.size) (λ _ _=>trivial)
   · have h1:=HA.out.1; have h2:=HA.out.2.1; have h3:=HA.out.2.2.2.2.2.2
     exact (HD.out.2.2.1.far (by omega) 0 _).far (by omega) 0 _
 · obtain rfl:=c2 h0
   have HD:=Lib.hid h0
   clear c1 c2 c3 hba1 hbb1
   unfold panE
   go_wp2_with fail
   refine leaves_cons (f:=80) (args:=#[.pointer (some ⟨a,0,none⟩),.pointer (some ⟨b,0,none⟩)]) (by simp) (by simp [go_sem]) ?_
   refine (c4a a b (.slice none 0 0) H.1 0 [] w1 ca fa cb fb hne).mono ?_
   rintro e u' w'' ⟨rfl,rfl,rfl⟩
   have ca2 : (w1.setCell ⟨a,0,none⟩ (.slice none 0 0)).cell? ⟨a,0,none⟩ = some (.slice none 0 0):=World.cell?_setCell_same _ _ _ ca
   have cb2 : ((w1.setCell ⟨a,0,none⟩ (.slice none 0 0)).setCell ⟨b,0,none⟩ (.int .i64 H.1)).cell? ⟨b,0,none⟩ = some (.int .i64 H.1):=World.cell?_setCell_same _ _ _ (by rw [World.cell?_setCell_other _ _ _ _ (by simp)]; exact cb)
   simp [Leaves,settle,results,Tryz.results34,go_sem,ca2,cb2]
   refine ⟨λ h=>absurd h HD.out,λ _=>rfl,?_⟩
   have ho : Only (λ k=>k = p) w w1:=(Only.of_below HA.out.2.2.2.2.2.1).trans HC3.out.1
   exact (ho.setNew (by have:=HA.out.1; omega) 0 _).setNew (by have:=HA.out.2.1; omega) 0 _
end Go.Proofs.YtipjlneepponpaaGreat
namespace Go.Proofs.YtipjlneepponpaaGreat
open Go.RowKit Go.Proofs.YtipjlneepponpaaGreatW.PrintWords HeapL
def a1C (rest : List Int) (s : Nat) : K3:=((s : Int),rest.getD s 0,0)
def candN (rest : List Int) (had : List Bool) (k : Nat) : List K3:=((List.range k).filter (λ s=>!had.getD s false)).map (a1C rest)
def a1r (c q : List Int) (s : Nat) : K3:=((s : Int),q.getD s 0,(1073741824 - c.getD s 0) * 256 + s)
def candT (c q : List Int) (k : Nat) : List K3:=((List.range k).filter (λ s=>decide (0 < c.getD s 0))).map (a1r c q)
theorem a8W (rest : List Int) (had : List Bool) (k : Nat) : candN rest had (k + 1) = if had.getD k false = false then candN rest had k ++ [a1C rest k] else candN rest had k:=by
 unfold candN
 have e : [k].filter (λ s=>!had.getD s false) = if had.getD k false = false then [k] else []:=by
  rw [List.filter_cons,List.filter_nil]; cases had.getD k false <;> rfl
 rw [List.range_succ,List.filter_append,List.map_append,e]
 split
 · rfl
 · rw [List.map_nil,List.append_nil]
theorem b4v (c q : List Int) (k : Nat) : candT c q (k + 1) = if 0 < c.getD k 0 then candT c q k ++ [a1r c q k] else candT c q k:=by
 unfold candT
 rw [List.range_succ,List.filter_append,List.map_append,List.filter_cons,List.filter_nil]
 by_cases h : 0 < c.getD k 0
 · rw [if_pos h,if_pos (decide_eq_true h)]; rfl
 · rw [if_neg h,if_neg (by rw [decide_eq_false h]; decide),List.map_nil,List.append_nil]
theorem a8X (rest : List Int) (had : List Bool) (k : Nat) : (candN rest had k).length <= k:=by
 unfold candN; rw [List.length_map]; exact Nat.le_trans (List.length_filter_le _ _) (by simp)
theorem a8Y (c q : List Int) (k : Nat) : (candT c q k).length <= k:=by
 unfold candT; rw [List.length_map]; exact Nat.le_trans (List.length_filter_le _ _) (by simp)
theorem b4w {p : Nat -> Bool} {t : Nat} (ht : t < 256) (hp : p t = true) : ((List.range 256).filter p).Perm (t :: (List.range 256).filter (λ s=>p s && decide (s ≠ t))):=by
 have hm : t ∈ (List.range 256).filter p:=List.mem_filter.2 ⟨List.mem_range.2 ht,hp⟩
 have hn : ((List.range 256).filter p).Nodup:=List.Pairwise.filter _ List.nodup_range
 have e : ((List.range 256).filter p).erase t = (List.range 256).filter (λ s=>p s && decide (s ≠ t)):=by
  rw [hn.erase_eq_filter,List.filter_filter]
  refine List.filter_congr λ s _=>?_
  rw [Bool.and_comm]
  congr 1
  by_cases h : s = t <;> simp [h]
 rw [<- e]
 exact List.perm_cons_erase hm
theorem b4x (rest : List Int) (had : List Bool) : ∀ k s,s < k -> had.getD s false = false -> 0 <= needN rest had k /\ (rest.getD s 0 < rest.getD (needN rest had k).toNat 0 \/ rest.getD s 0 = rest.getD (needN rest had k).toNat 0 /\ needN rest had k <= s)
 | 0,s,h,_=>by omega
 | k + 1,s,h,hs=>by
  have hl:=a4m rest had k
  simp only [needN]
  by_cases e : s = k
  · subst e
    rw [if_neg (by rw [hs]; decide)]
    by_cases h1 : needN rest had s < 0
    · rw [if_pos h1,Int.toNat_natCast]; exact ⟨by omega,.inr ⟨rfl,Int.le_refl _⟩⟩
    · rw [if_neg h1]
      by_cases h2 : rest.getD s 0 > rest.getD (needN rest had s).toNat 0
      · rw [if_pos h2,Int.toNat_natCast]; exact ⟨by omega,.inr ⟨rfl,Int.le_refl _⟩⟩
      · rw [if_neg h2]; exact ⟨by omega,by omega⟩
  · obtain ⟨i1,i2⟩:=b4x rest had k s (by omega) hs
    by_cases h0 : had.getD k false = true
    · rw [if_pos h0]; exact ⟨i1,i2⟩
    · rw [if_neg h0,if_neg (by omega)]
      by_cases h2 : rest.getD k 0 > rest.getD (needN rest had k).toNat 0
      · rw [if_pos h2,Int.toNat_natCast]; exact ⟨by omega,.inl (by omega)⟩
      · rw [if_neg h2]; exact ⟨i1,i2⟩
theorem b4y (q c : List Int) : ∀ k s,s < k -> q.getD s 0 < q.getD (richN q c k) 0 \/ q.getD s 0 = q.getD (richN q c k) 0 /\ (c.getD (richN q c k) 0 < c.getD s 0 \/ c.getD (richN q c k) 0 = c.getD s 0 /\ s <= richN q c k)
 | 0,s,h=>by omega
 | k + 1,s,h=>by
  have hl:=a4n q c k
  by_cases e : s = k
  · subst e
    simp only [richN]
    split
    · exact .inr ⟨rfl,.inr ⟨rfl,Nat.le_refl _⟩⟩
    · omega
  · have ih:=b4y q c k s (by omega)
    simp only [richN]
    split
    · omega
    · exact ih
theorem c4q {rest : List Int} {had : List Bool} {x : K3} (h : x ∈ candN rest had 256) : ∃ s,s < 256 /\ had.getD s false = false /\ x = a1C rest s:=by
 obtain ⟨s,hs,rfl⟩:=List.mem_map.1 h
 obtain ⟨h1,h2⟩:=List.mem_filter.1 hs
 exact ⟨s,List.mem_range.1 h1,by simpa using h2,rfl⟩
theorem b4z {rest : List Int} {had : List Bool} {s : Nat} (h : s < 256) (h2 : had.getD s false = false) : a1C rest s ∈ candN rest had 256:=
 List.mem_map.2 ⟨s,List.mem_filter.2 ⟨List.mem_range.2 h,by show (!had.getD s false) = true; rw [h2]; rfl⟩,rfl⟩
theorem b4A {ys : List K3} {x : K3} (h : x ∈ ys) : ∃ k,k < ys.length /\ ys.getD k z3 = x:=by
 obtain ⟨k,hk,rfl⟩:=List.getElem_of_mem h
 exact ⟨k,hk,by rw [List.getD_eq_getElem?_getD,List.getElem?_eq_getElem hk]; rfl⟩
theorem b4B {ys : List K3} {k : Nat} (h : k < ys.length) : ys.getD k z3 ∈ ys:=by
 rw [List.getD_eq_getElem?_getD,List.getElem?_eq_getElem h]; exact List.getElem_mem _
theorem c4r {rest : List Int} {had : List Bool} {ys : List K3} (hp : ys.Perm (candN rest had 256)) (hh : From lessC z3 ys 0 ys.length) (h0 : 0 < ys.length) :
    ∃ t : Nat,needN rest had 256 = t /\ t < 256 /\ had.getD t false = false /\ ys.getD 0 z3 = a1C rest t:=by
 obtain ⟨s,hs,hsf,e⟩:=c4q (hp.subset (b4B h0))
 obtain ⟨n1,n2⟩:=b4x rest had 256 s hs hsf
 obtain ⟨l1,l2,l3⟩:=a4m rest had 256
 obtain ⟨t,ht⟩ : ∃ t : Nat,needN rest had 256 = t:=⟨_,(Int.toNat_of_nonneg n1).symm⟩
 rw [ht] at n1 n2 l2 l3
 rw [Int.toNat_natCast] at n2 l3
 have hf:=l3 (by omega)
 obtain ⟨k,hk,ek⟩:=b4A (hp.symm.subset (b4z (rest:=rest) (show t < 256 by omega) hf))
 have hr:=From.root ordC hh (Nat.le_refl _) (λ _ _=>trivial) k hk
 rw [ek,e,a6S] at hr
 simp only [a1C,true_and,Int.lt_irrefl,false_or] at hr
 have est : s = t:=by omega
 subst est
 exact ⟨s,ht,hs,hf,e⟩
theorem c4s {rest : List Int} {had : List Bool} {ys zs : List K3} {t : Nat} (hl : had.length = 256) (ht : t < 256) (hf : had.getD t false = false) (hp : ys.Perm (candN rest had 256)) (h : (a1C rest t :: zs).Perm ys) : zs.Perm (candN rest (had.set t true) 256):=by
 have h1:=(b4w (p:=λ s=>!had.getD s false) ht (by show (!had.getD t false) = true; rw [hf]; rfl)).map (a1C rest)
 have h2 : (a1C rest t :: zs).Perm (a1C rest t :: ((List.range 256).filter (λ s=>(!had.getD s false) && decide (s ≠ t))).map (a1C rest)):=(h.trans hp).trans h1
 have h3:=h2.cons_inv
 have e : candN rest (had.set t true) 256 = ((List.range 256).filter (λ s=>(!had.getD s false) && decide (s ≠ t))).map (a1C rest):=by
  unfold candN
  congr 1
  refine List.filter_congr λ s hs=>?_
  rw [List.getD_eq_getElem?_getD,List.getElem?_set]
  by_cases e : t = s
  · subst e; rw [if_pos rfl,if_pos (by omega)]; simp
  · rw [if_neg e,<- List.getD_eq_getElem?_getD]
    have : ¬ s = t:=λ x=>e x.symm
    simp [this]
 rw [e]; exact h3
theorem c4t {c q : List Int} {x : K3} (h : x ∈ candT c q 256) : ∃ s,s < 256 /\ 0 < c.getD s 0 /\ x = a1r c q s:=by
 obtain ⟨s,hs,rfl⟩:=List.mem_map.1 h
 obtain ⟨h1,h2⟩:=List.mem_filter.1 hs
 exact ⟨s,List.mem_range.1 h1,by simpa using h2,rfl⟩
theorem b4C {c q : List Int} {s : Nat} (h : s < 256) (h2 : 0 < c.getD s 0) : a1r c q s ∈ candT c q 256:=
 List.mem_map.2 ⟨s,List.mem_filter.2 ⟨List.mem_range.2 h,decide_eq_true h2⟩,rfl⟩
theorem c4u {c q : List Int} {ys : List K3} (hi : ∀ s,0 < q.getD s 0 ↔ 0 < c.getD s 0) (hp : ys.Perm (candT c q 256)) (hh : From lessC z3 ys 0 ys.length) (h0 : 0 < ys.length) :
    richN q c 256 < 256 /\ 0 < c.getD (richN q c 256) 0 /\ ys.getD 0 z3 = a1r c q (richN q c 256):=by
 obtain ⟨s,hs,hsf,e⟩:=c4t (hp.subset (b4B h0))
 have n2:=b4y q c 256 s hs
 have l2:=a4n q c 256
 obtain ⟨t,ht⟩ : ∃ t : Nat,t = richN q c 256:=⟨_,rfl⟩
 rw [<- ht] at n2 l2 ⊢
 have hqs:=(hi s).2 hsf
 have hct : 0 < c.getD t 0:=(hi t).1 (by omega)
 obtain ⟨k,hk,ek⟩:=b4A (hp.symm.subset (b4C (q:=q) (show t < 256 by omega) hct))
 have hr:=From.root ordC hh (Nat.le_refl _) (λ _ _=>trivial) k hk
 rw [ek,e,a6S] at hr
 simp only [a1r] at hr
 have est : s = t:=by omega
 subst est
 exact ⟨hs,hct,e⟩
theorem c4v {c q : List Int} {ys zs us : List K3} {t : Nat} (hl : q.length = 256) (ht : t < 256) (hf : 0 < c.getD t 0) (hp : ys.Perm (candT c q 256)) (h : (a1r c q t :: zs).Perm ys)
    (hu : us.Perm (((t : Int),q.getD t 0 - 1,(1073741824 - c.getD t 0) * 256 + t) :: zs)) : us.Perm (candT c (q.set t (q.getD t 0 - 1)) 256):=by
 have hpa:=b4w (p:=λ s=>decide (0 < c.getD s 0)) ht (decide_eq_true hf)
 have h2 : (a1r c q t :: zs).Perm (a1r c q t :: ((List.range 256).filter (λ s=>(decide (0 < c.getD s 0)) && decide (s ≠ t))).map (a1r c q)):=(h.trans hp).trans (hpa.map (a1r c q))
 have h3:=h2.cons_inv
 have h4:=hpa.map (a1r c (q.set t (q.getD t 0 - 1)))
 rw [List.map_cons] at h4
 have e1 : a1r c (q.set t (q.getD t 0 - 1)) t = ((t : Int),q.getD t 0 - 1,(1073741824 - c.getD t 0) * 256 + t):=by
  unfold a1r; rw [a2W _ _ _ _ (by omega),if_pos rfl]
 have e2 : ((List.range 256).filter (λ s=>(decide (0 < c.getD s 0)) && decide (s ≠ t))).map (a1r c (q.set t (q.getD t 0 - 1))) = ((List.range 256).filter (λ s=>(decide (0 < c.getD s 0)) && decide (s ≠ t))).map (a1r c q):=by
  refine List.map_congr_left λ s hs=>?_
  have hs2:=(List.mem_filter.1 hs).2
  have : s ≠ t:=by simp at hs2; exact hs2.2
  unfold a1r; rw [a2W _ _ _ _ (by omega),if_neg this]
 rw [e1,e2] at h4
 exact (hu.trans (h3.cons _)).trans h4.symm
open Go.IntWalk
structure GvRel (gq c B : Nat) (w : World) (qs : List Int) (p : Nat) (v : Value) (ys : List K3) (wr : World) : Prop where
 q : (Kd.int .i64).R 3 wr B (λ _=>True) (.slice (some ⟨gq,0,none⟩) 256 c) qs
 h : CKp p B wr v ys
 ne : p ≠ gq /\ v.ownBlock ≠ some gq
 heap : From lessC z3 ys 0 ys.length
 below : Below B w wr
 pB : B <= p
theorem GvRel.start {gq c B : Nat} {w : World} {qs : List Int} {l : Value} {xs : List K3} (hq : (Kd.int .i64).R 3 w B (λ _=>True) (.slice (some ⟨gq,0,none⟩) 256 c) qs)
    (hl : k3.R 167 w B (λ k=>k ≠ gq) l xs) (hB : B <= w.heap.size) :
    CKp w.heap.size B (w.alloc (.cells #[l] 165)) l xs /\ (Kd.int .i64).R 3 (w.alloc (.cells #[l] 165)) B (λ _=>True) (.slice (some ⟨gq,0,none⟩) 256 c) qs /\
     w.heap.size ≠ gq /\ l.ownBlock ≠ some gq /\ Below B w (w.alloc (.cells #[l] 165)):=by
 have h1:=Kd.R_lt hq gq rfl
 refine ⟨⟨a0m _ _,Kd.R_alloc (Kd.R_mono (Kd.R_bound hl) (λ k hk=>by have:=hk.2.2.1; omega)) _⟩,Kd.R_alloc hq _,by omega,λ e=>hl.1 gq e rfl,(Below.refl _ _).alloc hB _⟩
theorem GvRel.of_init {gq c B : Nat} {w w1 w2 : World} {qs : List Int} {p : Nat} {v : Value} {ys : List K3} (hq : (Kd.int .i64).R 3 w1 B (λ _=>True) (.slice (some ⟨gq,0,none⟩) 256 c) qs) (hp : p ≠ gq) (hv : v.ownBlock ≠ some gq) (hb : Below B w w1) (hB : B <= p) (hB1 : B <= w1.heap.size)
    (h : CKp p B w2 v ys) (hh : From lessC z3 ys 0 ys.length) (ho : Only (λ k=>v.ownBlock = some k) w1 w2) : GvRel gq c B w qs p v ys w2:=
 ⟨a2Q rfl hq ho (λ k hk e=>hv (by rw [e,<- hk]; rfl)),h,⟨hp,hv⟩,hh,hb.trans (ho.below hB1 (λ k e=>Kd.R_base h.row k e)),hB⟩
theorem GvRel.popped {gq c B g n cap : Nat} {w w1 w2 : World} {qs : List Int} {p : Nat} {ys zs : List K3} (H : GvRel gq c B w qs p (.slice (some ⟨g,0,none⟩) (n + 1) cap) ys w1) (hB1 : B <= w1.heap.size)
    (h : CKp p B w2 (.slice (some ⟨g,0,none⟩) n cap) zs) (hh : From lessC z3 zs 0 n) (ho : Only (λ k=>k = p \/ k = g) w1 w2) : GvRel gq c B w qs p (.slice (some ⟨g,0,none⟩) n cap) zs w2:=by
 have hg : g ≠ gq:=λ e=>H.ne.2 (by rw [e]; rfl)
 have hn:=(Kd.R_reads' h.row).1
 exact ⟨a2Q rfl H.q ho (λ k hk e=>by
  have hk' : gq = k:=by simpa [Value.ownBlock] using hk
  subst hk'
  rcases e with e | e
  · exact H.ne.1 e.symm
  · exact hg e.symm),h,⟨H.ne.1,λ e=>hg (by simpa [Value.ownBlock] using e)⟩,by rw [<- hn]; exact hh,
  H.below.trans (ho.below hB1 (λ k e=>by rcases e with e | e; exact e ▸ H.pB; exact e ▸ Kd.R_base h.row g rfl)),H.pB⟩
theorem GvRel.put {gq c B : Nat} {w w1 : World} {qs : List Int} {p : Nat} {v : Value} {ys : List K3} (H : GvRel gq c B w qs p v ys w1) (t : Nat) (y : Int) : GvRel gq c B w (qs.set t y) p v ys (w1.setCell ⟨gq,t,none⟩ (.int .i64 y)):=by
 have ho : Only (λ k=>k = gq) w1 (w1.setCell ⟨gq,t,none⟩ (.int .i64 y)):=(Only.refl _ _).set1 _ _
 have hr:=Kd.R_putn H.q (t : Int) y
 rw [Int.toNat_natCast] at hr
 refine ⟨hr,⟨a1V H.h.blk (p:=⟨gq,t,none⟩) H.ne.1 _,?_⟩,H.ne,H.heap,H.below.setCell (Kd.R_base H.q gq rfl) _,H.pB⟩
 exact Kd.R_mono (Kd.R_step (Kd.R_tight rfl H.h.row) (λ k hk hlt=>ho.block k hlt (λ e=>H.ne.2 (by rw [<- e]; exact hk.symm)))) (λ k hk=>H.h.row.1 k hk.symm)
theorem c4w {rest : List Int} {m : Nat} {st : List Int × List Bool} {t : Nat} (h : needN rest (a0Q rest m st).2 256 = t) : a0Q rest (m + 1) st = ((a0Q rest m st).1.set t ((a0Q rest m st).1.getD t 0 + 1),(a0Q rest m st).2.set t true):=by
 simp only [a0Q]; rw [h,Int.toNat_natCast]
structure GvNum (rest : List Int) (had : List Bool) (ys : List K3) (k : Nat) (st : List Int × List Bool) : Prop where
 ql : st.1.length = 256
 hl : st.2.length = 256
 rng : ∀ s,0 <= st.1.getD s 0 /\ st.1.getD s 0 <= 8192 + k
 free : freeN st.2 + k = freeN had
 perm : ys.Perm (candN rest st.2 256)
theorem GvNum.some {rest : List Int} {had : List Bool} {ys : List K3} {k : Nat} {st : List Int × List Bool} (h : GvNum rest had ys k st) (hk : k < freeN had) : 0 < ys.length:=by
 obtain ⟨s,hs,hf⟩:=a8r h.hl (by have:=h.free; omega)
 exact List.length_pos_of_mem (h.perm.symm.subset (b4z hs hf))
theorem GvNum.next {rest : List Int} {had : List Bool} {ys zs : List K3} {k t : Nat} {st : List Int × List Bool} (h : GvNum rest had ys k st) (ht : t < 256) (hf : st.2.getD t false = false) (hz : (a1C rest t :: zs).Perm ys) : GvNum rest had zs (k + 1) (st.1.set t (st.1.getD t 0 + 1),st.2.set t true):=by
 refine ⟨by simp [h.ql],by simp [h.hl],λ s=>?_,?_,c4s h.hl ht hf h.perm hz⟩
 · show 0 <= (st.1.set t (st.1.getD t 0 + 1)).getD s 0 /\ (st.1.set t (st.1.getD t 0 + 1)).getD s 0 <= 8192 + ((k + 1 : Nat) : Int)
   rw [a2W _ _ _ _ (by rw [h.ql]; exact ht)]
   have h1:=h.rng t; have h2:=h.rng s
   split <;> omega
 · have:=b3k (s:=t) (by rw [h.hl]; exact ht) hf
   have:=h.free
   show freeN (st.2.set t true) + (k + 1) = _
   omega
theorem c4x (a b c : Value) (w : World) : (Instr.field 167 (.agg #[a,b,c]) 0).run Tryz.prog w = .ok a w:=by kernel_rfl
def c4y (gq c B : Nat) (qs' : List Int) (w : World) (e : Ending) (w' : World) : Prop:=e = .returned (.tuple #[]) /\ (Kd.int .i64).R 3 w' B (λ _=>True) (.slice (some ⟨gq,0,none⟩) 256 c) qs' /\ Below B w w'
set_option maxRecDepth 100000 in
set_option maxHeartbeats 1000000 in
theorem c4z (gq c B : Nat) (qs : List Int) (l : Value) (rest : List Int) (had : List Bool) (m : Nat) (w : World) (hq : (Kd.int .i64).R 3 w B (λ _=>True) (.slice (some ⟨gq,0,none⟩) 256 c) qs)
    (hl : k3.R 167 w B (λ k=>k ≠ gq) l (candN rest had 256)) (hB : B <= w.heap.size) (hqs : qs.length = 256) (hhl : had.length = 256) (hr : ∀ s,0 <= qs.getD s 0 /\ qs.getD s 0 <= 8192) (hm : m <= freeN had) (hm2 : m <= 4096) :
    Calls Tryz.prog 150 #[.slice (some ⟨gq,0,none⟩) 256 c,l,.int .i64 m] w (c4y gq c B (a0Q rest m (qs,had)).1 w):=by
 have HS:=Lib.hid (GvRel.start hq hl hB)
 have HM:=Lib.hid (And.intro hB (And.intro hqs (And.intro hhl (And.intro hr hm))))
 clear hq hl hB hqs hhl hr hm
 obtain ⟨A,cl,rfl⟩:=Kd.R_slice HS.out.1.row
 have ta:=a8T
 go_enter Tryz.func150,Tryz.ntmps150
 go_wp2_with fail
 refine (b4u _ HS.out.1 (by have:=a8X rest had 256; omega)).mono ?_
 rintro e w2 ⟨rfl,ys,h1,h2,h3,h4⟩
 have HI : Hid (GvRel gq c B w qs w.heap.size (.slice A (candN rest had 256).length cl) ys w2 /\ GvNum rest had ys 0 (qs,had)):=
  ⟨GvRel.of_init HS.out.2.1 HS.out.2.2.1 HS.out.2.2.2.1 HS.out.2.2.2.2 HM.out.1 (by simp; have:=HM.out.1; omega) h1 h3 h4,⟨HM.out.2.1,HM.out.2.2.1,λ s=>by have:=HM.out.2.2.2.1 s; show 0 <= qs.getD s 0 /\ qs.getD s 0 <= 8192 + ((0 : Nat) : Int); omega,rfl,h2⟩⟩
 clear h1 h2 h3 h4
 go_wp2_with fail
 go_loopw [9] (λ kv wr=>∃ (k : Nat) (v : Value) (ys : List K3),kv = .int .i64 k /\ k <= m /\ Hid (GvRel gq c B w (a0Q rest k (qs,had)).1 w.heap.size v ys wr /\ GvNum rest had ys k (a0Q rest k (qs,had)))) (λ kv _=>m - (intOf kv).toNat)
 case atStart=>exact ⟨0,_,ys,rfl,by omega,HI⟩
 case round=>
  obtain ⟨k,v,ys,rfl,hk,H⟩:=hrel
  by_cases hlt : k < m
  · have hpos:=H.out.2.some (by have:=HM.out.2.2.2.2; omega)
    obtain ⟨g,cap,rfl,-⟩:=Kd.R_form H.out.1.h.row hpos
    obtain ⟨t,ht1,ht2,ht3,ht4⟩:=c4r H.out.2.perm H.out.1.heap hpos
    obtain ⟨n,hn⟩ : ∃ n,ys.length = n + 1:=⟨ys.length - 1,by omega⟩
    rw [hn] at H
    have hn6 : n <= 100000:=by have:=H.out.2.perm.length_eq; have:=a8X rest (a0Q rest k (qs,had)).2 256; omega
    have HT:=Lib.hid (And.intro ht1 (And.intro ht2 (And.intro ht3 (And.intro ht4 hn))))
    have HBr : Hid (B <= wr.heap.size):=Nat.le_trans HM.out.1 H.out.1.below.size
    clear ht1 ht3 ht4 hn hpos
    go_wp2_with fail
    refine (b4t ordC _ H.out.1.h hn6 (λ _ _=>trivial) (by have:=H.out.1.heap; rw [HT.out.2.2.2.2] at this; exact this)).mono ?_
    rintro e w3 ⟨rfl,zs,h1,h2,h3,h4⟩
    have H3 : Hid (GvRel gq c B w (a0Q rest k (qs,had)).1 w.heap.size (.slice (some ⟨g,0,none⟩) n cap) zs w3):=GvRel.popped H.out.1 HBr.out h1 h3 h4
    rw [HT.out.2.2.2.1] at h2 ⊢
    have HZ:=Lib.hid (GvNum.next H.out.2 ht2 HT.out.2.2.1 h2)
    clear h1 h2 h3 h4
    obtain ⟨hc3,hf3⟩:=a1w H3.out.q t ht2
    obtain ⟨hy0,hy1⟩:=H.out.2.rng t
    obtain ⟨y,hy⟩ : ∃ y,y = (a0Q rest k (qs,had)).1.getD t 0:=⟨_,rfl⟩
    rw [<- hy] at hc3 hy0 hy1
    have HY:=Lib.hid hy
    have ht256 : (t : Int) < 256:=by omega
    clear hy
    simp only [a1C]
    obtain ⟨z,hz⟩ : ∃ z,z = rest.getD t 0:=⟨_,rfl⟩
    rw [<- hz]
    have fd:=c4x (.int .i64 t) (.int .i64 z) (.int .i64 0)
    clear hz
    go_wp2_with fail
    go_roundw
    case rel=>
     have hg:=c4w (st:=(qs,had)) HT.out.1
     refine ⟨k + 1,.slice (some ⟨g,0,none⟩) n cap,zs,by go_num,by omega,?_⟩
     rw [hg,<- HY.out]
     exact ⟨H3.out.put t (y + 1),by rw [HY.out]; exact HZ.out⟩
    case measure=>simp [intOf]; omega
  · have hkm : k = m:=by omega
    subst hkm
    go_wp2_with fail
    go_end0
    exact ⟨rfl,H.out.1.q,H.out.1.below⟩
structure TkRel (gq cq B : Nat) (W0 : World) (qs : List Int) (p : Nat) (v : Value) (ys : List K3) (wr : World) : Prop where
 q : (Kd.int .i64).R 3 wr B (λ _=>True) (.slice (some ⟨gq,0,none⟩) 256 cq) qs
 h : CKp p B wr v ys
 ne : p ≠ gq /\ v.ownBlock ≠ some gq
 below : Below B W0 wr
 pB : B <= p
theorem TkRel.gv {gq cq B : Nat} {W0 : World} {qs : List Int} {p : Nat} {v : Value} {ys : List K3} {wr : World} (h : TkRel gq cq B W0 qs p v ys wr) (hh : From lessC z3 ys 0 ys.length) : GvRel gq cq B W0 qs p v ys wr:=⟨h.q,h.h,h.ne,hh,h.below,h.pB⟩
theorem TkRel.start {gq cq B : Nat} {W0 w : World} {qs : List Int} (hq : (Kd.int .i64).R 3 w B (λ _=>True) (.slice (some ⟨gq,0,none⟩) 256 cq) qs) (hb : Below B W0 w) (hB : B <= w.heap.size) :
    TkRel gq cq B W0 qs w.heap.size (.slice none 0 0) [] (w.alloc (.cells #[.slice none 0 0] 165)):=by
 have h1:=Kd.R_lt hq gq rfl
 exact ⟨Kd.R_alloc hq _,⟨a0m _ _,Kd.R_nil _ _ _ _ _⟩,⟨by omega,by simp [Value.ownBlock]⟩,hb.alloc hB _,hB⟩
theorem TkRel.app {gq cq B : Nat} {W0 W wa : World} {qs : List Int} {p : Nat} {v v1 : Value} {ys zs : List K3} (H : TkRel gq cq B W0 qs p v ys W) (hB : B <= W.heap.size) (hr : k3.R 167 wa B (λ k=>k ≠ p) v1 zs) (hg : W.grownBy wa v.ownBlock)
    (hat : v1.ownBlock = v.ownBlock \/ ∃ b,v1.ownBlock = some b /\ W.heap.size <= b) : TkRel gq cq B W0 qs p v1 zs (wa.setCell ⟨p,0,none⟩ v1):=by
 have hpv : some p ≠ v.ownBlock:=λ e=>H.h.row.1 p e.symm rfl
 have hgl:=Kd.R_lt H.q gq rfl
 have hb1:=a0Z H.h.blk hg hpv
 have hne1 : v1.ownBlock ≠ some gq:=λ e=>by
  rcases hat with h | ⟨b,h,hle⟩
  · exact H.ne.2 (by rw [<- h]; exact e)
  · rw [h] at e; injection e with e; omega
 have h1:=Kd.R_grown1 H.q rfl hg H.ne.2
 have ho : Only (λ k=>k = p) wa (wa.setCell ⟨p,0,none⟩ v1):=(Only.refl _ _).set1 _ _
 refine ⟨a2Q rfl h1 ho (λ k hk e=>H.ne.1 (by rw [<- e]; simpa [Value.ownBlock] using hk.symm)),⟨a0v hb1 0 _,Kd.R_far (p:=⟨p,0,none⟩) hr (λ k hk=>hk) _⟩,⟨H.ne.1,hne1⟩,?_,H.pB⟩
 exact (b8e H.below hg (λ k hk=>Kd.R_base H.h.row k hk) hB).setCell H.pB _
theorem GvRel.alloc {gq c B : Nat} {w : World} {qs : List Int} {p : Nat} {v : Value} {ys : List K3} {wr : World} (H : GvRel gq c B w qs p v ys wr) (hB : B <= wr.heap.size) (o : Obj) : GvRel gq c B w qs p v ys (wr.alloc o):=
 ⟨Kd.R_alloc H.q o,H.h.below ((Below.refl _ _).alloc (Nat.le_refl _) o),H.ne,H.heap,H.below.alloc hB o,H.pB⟩
theorem GvRel.far {gq c B : Nat} {w : World} {qs : List Int} {p : Nat} {v : Value} {ys : List K3} {wr : World} (H : GvRel gq c B w qs p v ys wr) {g : Nat} (h1 : g ≠ gq) (h2 : p ≠ g) (h3 : v.ownBlock ≠ some g) (hB : B <= g) (j : Nat) (u : Value) : GvRel gq c B w qs p v ys (wr.setCell ⟨g,j,none⟩ u):=by
 have ho : Only (λ k=>k = g) wr (wr.setCell ⟨g,j,none⟩ u):=(Only.refl _ _).set1 _ _
 refine ⟨a2Q rfl H.q ho (λ k hk e=>h1 (by rw [<- e]; simpa [Value.ownBlock] using hk.symm)),⟨a1V H.h.blk (p:=⟨g,j,none⟩) h2 _,?_⟩,H.ne,H.heap,H.below.setCell hB _,H.pB⟩
 exact Kd.R_mono (Kd.R_step (Kd.R_tight rfl H.h.row) (λ k hk hlt=>ho.block k hlt (λ e=>h3 (by rw [<- e]; exact hk.symm)))) (λ k hk=>H.h.row.1 k hk.symm)
theorem GvRel.pushed {gq c B : Nat} {w w1 w2 : World} {qs : List Int} {p : Nat} {v v' : Value} {ys zs : List K3} (H : GvRel gq c B w qs p v ys w1) (hB : B <= w1.heap.size) (h : CKp p B w2 v' zs) (hh : From lessC z3 zs 0 zs.length)
    (hat : v'.ownBlock = v.ownBlock \/ ∃ b,v'.ownBlock = some b /\ w1.heap.size <= b) (ho : Only (λ k=>k = p \/ v.ownBlock = some k) w1 w2) : GvRel gq c B w qs p v' zs w2:=by
 have hgl:=Kd.R_lt H.q gq rfl
 refine ⟨a2Q rfl H.q ho (λ k hk e=>?_),h,⟨H.ne.1,λ e=>?_⟩,hh,H.below.trans (ho.below hB (λ k e=>?_)),H.pB⟩
 · have hk' : gq = k:=by simpa [Value.ownBlock] using hk
   subst hk'
   rcases e with e | e
   · exact H.ne.1 e.symm
   · exact H.ne.2 e
 · rcases hat with h | ⟨b,h,hle⟩
   · exact H.ne.2 (by rw [<- h]; exact e)
   · rw [h] at e; injection e with e; omega
 · rcases e with e | e
   · exact e ▸ H.pB
   · exact Kd.R_base H.h.row k e
theorem c4A (c : List Int) (m : Nat) (q : List Int) : a0O c (m + 1) q = (a0O c m q).set (richN (a0O c m q) c 256) ((a0O c m q).getD (richN (a0O c m q) c 256) 0 - 1):=rfl
def a8Z (c q : List Int) (m : Nat) : Prop:=∀ k,k <= m -> (a0O c k q).length = 256 /\ (∀ s,0 <= (a0O c k q).getD s 0 /\ (a0O c k q).getD s 0 <= 100000) /\ ∀ s,0 < (a0O c k q).getD s 0 ↔ 0 < c.getD s 0
def b4D (gq cq B : Nat) (qs' : List Int) (W0 : World) (e : Ending) (w' : World) : Prop:=e = .returned (.tuple #[]) /\ (Kd.int .i64).R 3 w' B (λ _=>True) (.slice (some ⟨gq,0,none⟩) 256 cq) qs' /\ Below B W0 w'
set_option maxRecDepth 100000 in
set_option maxHeartbeats 2000000 in
theorem c4B (gq cq cc : Nat) (A : Option Addr) (W0 : World) (qs c : List Int) (m : Nat) (w : World) (hq : (Kd.int .i64).R 3 w W0.heap.size (λ _=>True) (.slice (some ⟨gq,0,none⟩) 256 cq) qs)
    (hc : (Kd.int .i64).C W0 A 256 c) (hb : Below W0.heap.size W0 w) (hcl : c.length = 256) (hcr : ∀ s,0 <= c.getD s 0 /\ c.getD s 0 <= 1073741824) (hok : a8Z c qs m) (hm2 : m <= 2000000) (hpos : 0 < m -> ∃ s,s < 256 /\ 0 < c.getD s 0) :
    Calls Tryz.prog 151 #[.slice (some ⟨gq,0,none⟩) 256 cq,.slice A 256 cc,.int .i64 m] w (b4D gq cq W0.heap.size (a0O c m qs) W0):=by
 have HQ:=Lib.hid hq
 have HC:=Lib.hid (And.intro hc (And.intro hcl hcr))
 have HO:=Lib.hid hok
 have HP:=Lib.hid hpos
 have HB:=Lib.hid hb
 have HI : Hid (TkRel gq cq W0.heap.size W0 qs w.heap.size (.slice none 0 0) [] (w.alloc (.cells #[.slice none 0 0] 165))):=TkRel.start hq hb hb.size
 clear hq hc hb hcl hcr hok hpos
 go_enter Tryz.func151,Tryz.ntmps151
 go_wp2_with fail
 go_loopw [12] (λ kv wr=>∃ (k : Nat) (v : Value),kv = .int .i64 k /\ k <= 256 /\ Hid (TkRel gq cq W0.heap.size W0 qs w.heap.size v (candT c qs k) wr)) (λ kv _=>256 - (intOf kv).toNat)
 case atStart=>exact ⟨0,_,rfl,by omega,HI⟩
 case round=>
  obtain ⟨k,v,rfl,hk,H⟩:=hrel
  by_cases hlt : k < 256
  · obtain ⟨hqc,-⟩:=a1w H.out.q k hlt
    obtain ⟨y,hy⟩ : ∃ y,y = qs.getD k 0:=⟨_,rfl⟩
    rw [<- hy] at hqc
    have hy2:=(HO.out 0 (Nat.zero_le _)).2.1 k
    have hyc:=(HO.out 0 (Nat.zero_le _)).2.2 k
    simp only [a0O] at hy2 hyc
    rw [<- hy] at hy2 hyc
    obtain ⟨hy0,hy1⟩:=hy2
    have HY:=Lib.hid (And.intro hy hyc)
    clear hy hyc
    by_cases hpos : 0 < y
    · obtain ⟨ad,rfl,hcc⟩:=a0C HC.out.1 k hlt
      obtain ⟨z,hz⟩ : ∃ z,z = c.getD k 0:=⟨_,rfl⟩
      obtain ⟨hz0,hz1⟩:=HC.out.2.2 k
      rw [<- hz] at hcc hz0 hz1
      have hcw:=a0t H.out.below hcc
      have hcw2 : (wr.alloc (.cells #[.int .i64 k,.int .i64 y,.int .i64 (IntKind.i64.wrap (IntKind.i64.wrap (IntKind.i64.wrap (1073741824 - z) * 256) + (k : Int)))] 167)).cell? (ad.add k) = some (.int .i64 z):=a0t ((Below.refl _ _).alloc (Nat.le_refl _) _) hcw
      have HZ:=Lib.hid hz
      have HE : Hid (IntKind.i64.wrap (IntKind.i64.wrap (IntKind.i64.wrap (1073741824 - z) * 256) + (k : Int)) = (1073741824 - z) * 256 + k):=by
       show _ = _
       rw [i64_in (1073741824 - z) (by omega),i64_in ((1073741824 - z) * 256) (by omega),i64_in ((1073741824 - z) * 256 + (k : Int)) (by omega)]
      clear hz hcc
      have hpc:=H.out.h.cell
      have hpf:=a0e H.out.h.blk 0
      have hpl:=a0f H.out.h.blk
      have hpn : ¬ w.heap.size = wr.heap.size:=by omega
      have hpn' : ¬ wr.heap.size = w.heap.size:=by omega
      have hfr : Hid (∀ k,wr.heap.size <= k -> k ≠ w.heap.size):=λ k hk e=>by omega
      have HL : Hid (((candT c qs k).length + 1) * 24 <= 140737488355328):=by show _ <= _; have:=a8Y c qs k; omega
      have HN : Hid (some w.heap.size ≠ v.ownBlock):=λ e=>H.out.h.row.1 _ e.symm rfl
      have HBr : Hid (W0.heap.size <= wr.heap.size):=H.out.below.size
      go_wp2_with fail
      go_region_law (first | (refine a4H k3 (w0:=W0) (W:=wr) W0.heap.size rfl (.tmp 19) (.tmp 31) 165 167 _ 24 rfl Tryz.underlying165 a8S rfl (by decide) (by decide) v (candT c qs k) ((k : Int),y,IntKind.i64.wrap (IntKind.i64.wrap (IntKind.i64.wrap (1073741824 - z) * 256) + (k : Int))) [.int .i64 k,.int .i64 y,.int .i64 (IntKind.i64.wrap (IntKind.i64.wrap (IntKind.i64.wrap (1073741824 - z) * 256) + (k : Int)))] (λ k=>k ≠ w.heap.size) (λ _=>False) rfl rfl (a4K _ _ _ _) (λ _ h=>h.elim) hfr.out H.out.h.row H.out.below HBr.out HL.out ?_; intro v1 w1 hr1 hb1 hg1 hat1; have hb2:=a0Z H.out.h.blk hg1 HN.out; have hc2 : w1.cell? ⟨w.heap.size,0,none⟩ = some v:=(a0a hb2 0).trans rfl; have hf2:=a0e hb2 0; have HT:=Lib.hid (TkRel.app H.out HBr.out hr1 hg1 hat1); obtain ⟨A1,c1,rfl⟩:=Kd.R_slice hr1; simp only [List.length_append,List.length_singleton] at HT; clear hr1 hb1 hg1 hat1) | fail)
      all_goals
       go_wp2_with fail
       go_roundw
       case rel=>
        refine ⟨k + 1,.slice A1 ((candT c qs k).length + 1) c1,by go_num,by omega,?_⟩
        rw [b4v,if_pos (HY.out.2.1 hpos)]
        unfold a1r
        rw [<- HY.out.1,<- HZ.out,<- HE.out]
        exact HT.out
       case measure=>simp [intOf]; omega
    · go_wp2_with fail
      go_roundw
      case rel=>
       refine ⟨k + 1,v,by go_num,by omega,?_⟩
       rw [b4v,if_neg (λ h=>hpos (HY.out.2.2 h))]
       exact H.out
      case measure=>simp [intOf]; omega
  · obtain rfl : k = 256:=by omega
    obtain ⟨A1,c1,rfl⟩:=Kd.R_slice H.out.h.row
    have ta:=a8T
    go_wp2_with fail
    refine (b4u _ H.out.h (by have:=a8Y c qs 256; omega)).mono ?_
    rintro e w2 ⟨rfl,ys,h1,h2,h3,h4⟩
    have HI2 : Hid (GvRel gq cq W0.heap.size W0 qs w.heap.size (.slice A1 (candT c qs 256).length c1) ys w2 /\ ys.Perm (candT c qs 256)):=
     ⟨GvRel.of_init H.out.q H.out.ne.1 H.out.ne.2 H.out.below H.out.pB H.out.below.size h1 h3 h4,h2⟩
    clear h1 h2 h3 h4 H
    go_wp2_with fail
    go_loopw [37] (λ kv wr=>∃ (k : Nat) (v : Value) (ys : List K3),kv = .int .i64 k /\ k <= m /\ Hid (GvRel gq cq W0.heap.size W0 (a0O c k qs) w.heap.size v ys wr /\ ys.Perm (candT c (a0O c k qs) 256))) (λ kv _=>m - (intOf kv).toNat)
    case atStart=>exact ⟨0,_,ys,rfl,by omega,HI2⟩
    case round=>
     obtain ⟨k,v,ys,rfl,hk,H⟩:=hrel
     by_cases hlt : k < m
     · obtain ⟨hql,hqr,hqi⟩:=HO.out k hk
       have hpos : 0 < ys.length:=by
        obtain ⟨s,hs,hsp⟩:=HP.out (by omega)
        exact List.length_pos_of_mem (H.out.2.symm.subset (b4C hs hsp))
       obtain ⟨g,cap,rfl,-⟩:=Kd.R_form H.out.1.h.row hpos
       obtain ⟨t,ht⟩ : ∃ t,t = richN (a0O c k qs) c 256:=⟨_,rfl⟩
       obtain ⟨ht1,ht2,ht3⟩:=c4u hqi H.out.2 H.out.1.heap hpos
       rw [<- ht] at ht1 ht2 ht3
       obtain ⟨n,hn⟩ : ∃ n,ys.length = n + 1:=⟨ys.length - 1,by omega⟩
       rw [hn] at H
       have hn6 : n <= 100000:=by have:=H.out.2.length_eq; have:=a8Y c (a0O c k qs) 256; omega
       have HT:=Lib.hid (And.intro ht (And.intro ht1 (And.intro ht2 (And.intro ht3 hn))))
       have HBr : Hid (W0.heap.size <= wr.heap.size):=H.out.1.below.size
       obtain ⟨hy0,hy1⟩:=hqr t
       have HQL:=Lib.hid (And.intro hql hqi)
       have hct:=(HC.out.2.2 t)
       clear ht ht2 ht3 hn hpos hqr hql hqi
       go_wp2_with fail
       refine (b4t ordC _ H.out.1.h hn6 (λ _ _=>trivial) (by have:=H.out.1.heap; rw [HT.out.2.2.2.2] at this; exact this)).mono ?_
       rintro e w3 ⟨rfl,zs,h1,h2,h3,h4⟩
       have H3 : Hid (GvRel gq cq W0.heap.size W0 (a0O c k qs) w.heap.size (.slice (some ⟨g,0,none⟩) n cap) zs w3):=GvRel.popped H.out.1 HBr.out h1 h3 h4
       rw [HT.out.2.2.2.1] at h2 ⊢
       have HZ:=Lib.hid h2
       clear h1 h2 h3 h4
       obtain ⟨hc3,hf3⟩:=a1w H3.out.q t ht1
       obtain ⟨y,hy⟩ : ∃ y,y = (a0O c k qs).getD t 0:=⟨_,rfl⟩
       have HY:=Lib.hid hy
       simp only [a1r]
       rw [<- hy] at hc3 hy0 hy1 ⊢
       obtain ⟨z,hz⟩ : ∃ z,z = (1073741824 - c.getD t 0) * 256 + (t : Int):=⟨_,rfl⟩
       rw [<- hz]
       have HZ2:=Lib.hid hz
       clear hy hz
       have hgl : gq < w3.heap.size:=Kd.R_lt H3.out.q gq rfl
       have hg1 : ¬ gq = w3.heap.size:=by omega
       have hg2 : ¬ w3.heap.size = gq:=by omega
       have ht256 : (t : Int) < 256:=by omega
       go_wp2_with fail
       have H4 : Hid (GvRel gq cq W0.heap.size W0 ((a0O c k qs).set t (y - 1)) w.heap.size (.slice (some ⟨g,0,none⟩) n cap) zs ((w3.setCell ⟨gq,t,none⟩ (.int .i64 (y - 1))).alloc (.cells #[.int .i64 t,.int .i64 (y - 1),.int .i64 z] 167))):=
        (H3.out.put t (y - 1)).alloc (H3.out.put t (y - 1)).below.size _
       have hzl : zs.length = n:=by have:=HZ.out.length_eq; rw [HT.out.2.2.2.2] at this; simpa using this
       refine (c4o ordC ((t : Int),y - 1,z) _ H4.out.h H4.out.below.size (by omega) (λ _ _=>trivial) trivial H4.out.heap).mono ?_
       rintro e w5 ⟨rfl,v',us,h1,h2,h3,h4,h5⟩
       have H5 : Hid (GvRel gq cq W0.heap.size W0 (a0O c (k + 1) qs) w.heap.size v' us w5 /\ us.Perm (candT c (a0O c (k + 1) qs) 256)):=by
        have e:=c4A c k qs
        rw [<- HT.out.1,<- HY.out] at e
        refine ⟨by rw [e]; exact H4.out.pushed H4.out.below.size h1 h3 h4 h5,?_⟩
        rw [e,HY.out]
        refine c4v HQL.out.1 ht1 HT.out.2.2.1 H.out.2 HZ.out ?_
        rw [<- HY.out,<- HZ2.out]
        exact h2
       clear h1 h2 h3 h4 h5
       go_wp2_with fail
       go_roundw
       case rel=>exact ⟨k + 1,v',us,by go_num,by omega,H5⟩
       case measure=>simp [intOf]; omega
     · have hkm : k = m:=by omega
       subst hkm
       go_wp2_with fail
       go_end0
       exact ⟨rfl,H.out.1.q,H.out.1.below⟩
theorem c4C (gq cq cc : Nat) (A : Option Addr) (W0 : World) (B : Nat) (hB : B = W0.heap.size) (qs c : List Int) (m : Nat) (w : World) (hq : (Kd.int .i64).R 3 w B (λ _=>True) (.slice (some ⟨gq,0,none⟩) 256 cq) qs)
    (hc : (Kd.int .i64).C W0 A 256 c) (hb : Below B W0 w) (hcl : c.length = 256) (hcr : ∀ s,0 <= c.getD s 0 /\ c.getD s 0 <= 1073741824) (hok : a8Z c qs m) (hm2 : m <= 2000000) (hpos : 0 < m -> ∃ s,s < 256 /\ 0 < c.getD s 0) :
    Calls Tryz.prog 151 #[.slice (some ⟨gq,0,none⟩) 256 cq,.slice A 256 cc,.int .i64 m] w (b4D gq cq B (a0O c m qs) W0):=by
 subst hB; exact c4B gq cq cc A W0 qs c m w hq hc hb hcl hcr hok hm2 hpos
end Go.Proofs.YtipjlneepponpaaGreat
namespace Go.Proofs.YtipjlneepponpaaGreat
open Go.RowKit Go.IntWalk Go.Proofs.YtipjlneepponpaaGreatW.PrintWords Go.Proofs.YtipjlneepponpaaGreatW.PrintLast Go.Proofs.YtipjlneepponpaaGreatW.PrintMore
set_option maxRecDepth 100000 in
set_option maxHeartbeats 400000 in
theorem a5e (A : Option Addr) (cp : Nat) (c : List Int) (w : World) (hr : (Kd.int .i64).C w A c.length c) (hR : a0N c = true) :
    Calls Tryz.prog 57 #[.slice A c.length cp] w λ e w'=>e = .returned (.int .i64 (manyC c)) /\ w = w':=by
 have hm:=hr.2.1
 have HR:=Lib.hid (And.intro hr hR)
 clear hr hR
 go_enter Tryz.func57,Tryz.ntmps57
 go_wp2_with fail
 go_loop [3,8] (λ mv kv=>∃ (k pc : Nat),mv = .int .i64 pc /\ kv = .int .i64 k /\ k <= c.length /\ pc <= k /\ Hid (pc = posC c k)) (λ _ kv=>c.length - (intOf kv).toNat)
 case atStart=>exact ⟨0,0,rfl,rfl,by omega,by omega,by show _ = _; simp [posC]⟩
 case round=>
  obtain ⟨k,pc,rfl,rfl,hk,hpc,H⟩:=hrel
  by_cases hlt : k < c.length
  · obtain ⟨ad,rfl,hcell⟩:=a0C HR.out.1 k hlt
    obtain ⟨x,hx⟩ : ∃ x,x = c.getD k 0:=⟨_,rfl⟩
    rw [<- hx] at hcell
    have HX:=Lib.hid hx
    clear hx
    by_cases h0 : 0 < x
    · have HP : Hid (pc + 1 = posC c (k + 1)):=by show _ = _; rw [a6m _ _ hlt,<- HX.out,if_pos h0,<- H.out]
      go_wp2_with fail
      refine (a7E _ _ _ _ HR.out.1).mono ?_
      rintro e w' ⟨rfl,rfl⟩
      rw [HR.out.2]
      go_wp2_with fail
      go_round
      case rel=>exact ⟨k + 1,pc + 1,by go_num,by go_num,by omega,by omega,HP⟩
      case measure=>simp [intOf]; omega
    · have HP : Hid (pc = posC c (k + 1)):=by show _ = _; rw [a6m _ _ hlt,<- HX.out,if_neg h0,<- H.out]; rfl
      go_wp2_with fail
      go_round
      case rel=>exact ⟨k + 1,pc,rfl,by go_num,by omega,by omega,HP⟩
      case measure=>simp [intOf]; omega
  · obtain rfl : k = c.length:=by omega
    have HE : Hid (pc = manyC c):=by
     show _ = _; rw [H.out]; unfold posC manyC; rw [if_pos HR.out.2,List.take_length]
    go_wp2_with fail
    go_ret
    exact ⟨a1A (by rw [HE.out]),rfl⟩
set_option maxRecDepth 100000 in
theorem c4D (n : Nat) (w : World) (h : n <= 1000000) : Calls Tryz.prog 109 #[.int .i64 n] w λ e w'=>e = .returned (.int .i64 (ceilI n)) /\ w = w':=by
 by_cases h2 : n < 2
 · have HE : Hid (ceilI n = 0):=by
     show _ = _
     have : n = 0 \/ n = 1:=by omega
     rcases this with rfl | rfl <;> rfl
   go_enter Tryz.func109,Tryz.ntmps109
   go_wp2_with fail
   go_ret
   exact ⟨a1A (by rw [HE.out]; rfl),rfl⟩
 · go_enter Tryz.func109,Tryz.ntmps109
   go_wp2_with fail
   refine (a4N _ _ (by omega)).mono ?_
   rintro e w' ⟨rfl,rfl⟩
   go_wp2_with fail
   go_ret
   exact ⟨rfl,rfl⟩
theorem b4E (a b : Int) : mx a b = max a b:=by unfold mx; split <;> omega
theorem c4E (a b : Int) : mn a b = min a b:=by unfold mn; split <;> omega
set_option maxRecDepth 100000 in
theorem c4F (first x y : Int) (A : Option Addr) (cp : Nat) (w : World) (hr : (Kd.int .i64).C w A 2 [x,y]) :
    Calls Tryz.prog 107 #[.int .i64 first,.slice A 2 cp] w λ e w'=>e = .returned (.int .i64 (mx (mx first x) y)) /\ w = w':=by
 obtain ⟨ad,rfl,hc⟩:=a4I hr (by decide)
 have h0:=hc 0 (by decide)
 have h1:=hc 1 (by decide)
 simp only [List.getD_cons_zero,List.getD_cons_succ] at h0 h1
 rw [show ad.add 0 = ad from rfl] at h0
 clear hc hr
 have h2 : w.cell? ⟨ad.block,ad.off + 1,none⟩ = some (.int .i64 y):=by rw [<- h1]; simp [Addr.add]
 clear h1
 go_enter Tryz.func107,Tryz.ntmps107
 go_wp2_with fail
 go_loop [0,9] (λ mv kv=>(mv = .int .i64 first /\ kv = .int .i64 0) \/ (mv = .int .i64 (max first x) /\ kv = .int .i64 1) \/ (mv = .int .i64 (max (max first x) y) /\ kv = .int .i64 2)) (λ _ kv=>2 - (intOf kv).toNat)
 case atStart=>exact .inl ⟨rfl,rfl⟩
 case round=>
  rcases hrel with ⟨rfl,rfl⟩ | ⟨rfl,rfl⟩ | ⟨rfl,rfl⟩
  · go_wp2_with fail
    go_round
    case rel=>exact .inr (.inl ⟨rfl,rfl⟩)
    case measure=>simp [intOf]
  · go_wp2_with fail
    go_round
    case rel=>exact .inr (.inr ⟨by rw [Int.max_assoc],rfl⟩)
    case measure=>simp [intOf]
  · go_wp2_with fail
    go_ret
    exact ⟨a1A (by rw [b4E,b4E,Int.max_assoc]),rfl⟩
theorem c4G {W : World} (x y : Int) {ok : Nat -> Prop} (hok : ok W.heap.size) (base : Nat) (hb : base <= W.heap.size) : (Kd.int .i64).R 3 (W.alloc (.cells #[.int .i64 x,.int .i64 y] 3)) base ok (.slice (some ⟨W.heap.size,0,none⟩) 2 2) [x,y]:=by
 refine ⟨λ k hk=>by cases hk; exact hok,[.int .i64 x,.int .i64 y],⟨rfl,.inr ⟨W.heap.size,2,#[.int .i64 x,.int .i64 y],by simp,hb,a0m W _,by simp,by unfold maxLen; omega,rfl,rfl⟩⟩,?_⟩
 refine Reps.snoc (ps:=[x]) (cs:=[.int .i64 x]) (p:=y) (c:=[.int .i64 y]) (Reps.snoc (ps:=[]) (cs:=[]) (p:=x) (c:=[.int .i64 x]) (Reps.none _ _) ?_ rfl) ?_ rfl
 · rfl
 · rfl
set_option maxRecDepth 100000 in
theorem b4F (n m : Nat) (most : Int) (w : World) (hn : n <= 1000000) (hm : m <= 1000000) :
    Calls Tryz.prog 56 #[.int .i64 n,.int .i64 m,.int .i64 most] w λ e w'=>e = .returned (.int .i64 (pickI n m most)) /\ Below w.heap.size w w':=by
 have hf:=b3g n (by omega)
 obtain ⟨f,hf1⟩ : ∃ f,f = a0s (n : Int):=⟨_,rfl⟩
 rw [<- hf1] at hf
 have H:=Lib.hid hf1
 clear hf1
 have HC : Hid (∀ W : World,(Kd.int .i64).C (W.alloc (.cells #[.int .i64 5,.int .i64 (ceilI m)] 3)) (some ⟨W.heap.size,0,none⟩) 2 [5,(ceilI m : Int)]):=λ W=>by
  have:=c4G (W:=W) 5 (ceilI m : Int) (ok:=λ _=>True) trivial W.heap.size (Nat.le_refl _)
  exact (Kd.R_reads' this).2.2
 go_enter Tryz.func56,Tryz.ntmps56
 go_wp2_with fail
 refine (a5S _ _ (by omega)).mono ?_
 rintro e w' ⟨rfl,rfl⟩
 rw [<- H.out]
 go_wp2_with fail
 refine (c4D _ _ hm).mono ?_
 rintro e w' ⟨rfl,rfl⟩
 go_wp2_with fail
 refine (c4F _ _ _ _ _ _ (HC.out _)).mono ?_
 rintro e w' ⟨rfl,rfl⟩
 go_wp2_with fail
 go_ret
 refine ⟨a1A ?_,(Below.refl _ _).alloc (Nat.le_refl _) _⟩
 unfold pickI
 rw [<- H.out,c4E]
end Go.Proofs.YtipjlneepponpaaGreat
namespace Go.Proofs.YtipjlneepponpaaGreat
open Go.RowKit Go.IntWalk Go.Proofs.YtipjlneepponpaaGreatW.PrintWords HeapL
structure CnRel (N : Nat) (w0 : World) (c : List Int) (P n : Int) (k : Nat) (v : Value) (S : Int) (w : World) : Prop where
 q : (Kd.int .i64).R 3 w N (λ _=>True) (.slice (some ⟨N,0,none⟩) 256 256) (qTo c P n k)
 l : k3.R 167 w N (λ b=>b ≠ N) v (candN (restL c P n) (hadL c P n) k)
 below : Below N w0 w
 sum : S = (qTo c P n k).sum
 rng : 0 <= S /\ S <= 4096 * k
theorem c4H (c : List Int) (P n : Int) {k : Nat} (hk : k < 256) : (hadL c P n).getD k false = decide (c.getD k 0 * P / n = 0):=by
 unfold hadL; rw [List.getD_eq_getElem?_getD,List.getElem?_map,List.getElem?_range hk]; rfl
theorem b4G (c : List Int) (P n : Int) {k : Nat} (hk : k < 256) : qTo c P n (k + 1) = (qTo c P n k).set k (q0F c P n k):=(a6v (q0F c P n) hk).symm
theorem c4I (c : List Int) (P n : Int) {k : Nat} (hk : k < 256) : (qTo c P n k).getD k 0 = 0:=by unfold qTo; rw [a3O _ hk,if_neg (by omega)]
theorem c4J (c : List Int) (P n : Int) {k : Nat} (hk : k < 256) : (qTo c P n (k + 1)).sum = (qTo c P n k).sum + q0F c P n k:=by
 rw [b4G c P n hk,a6s _ _ _ (by unfold qTo; rw [a1s]; exact hk)]
 have : (qTo c P n k).getD k 0 = 0:=by unfold qTo; rw [a3O _ hk,if_neg (by omega)]
 omega
theorem CnRel.next {N : Nat} {w0 wr wr' : World} {c : List Int} {P n : Int} {k : Nat} {v v' : Value} {S y : Int} (H : CnRel N w0 c P n k v S wr) (hk : k < 256) (hq : (Kd.int .i64).R 3 wr' N (λ _=>True) (.slice (some ⟨N,0,none⟩) 256 256) ((qTo c P n k).set k y))
    (hl : k3.R 167 wr' N (λ b=>b ≠ N) v' (candN (restL c P n) (hadL c P n) (k + 1))) (hb : Below N w0 wr') (hy : y = q0F c P n k) (hy2 : 0 <= y /\ y <= 4096) : CnRel N w0 c P n (k + 1) v' (S + y) wr':=by
 have hs:=H.sum; have hr:=H.rng
 refine ⟨by rw [b4G c P n hk,<- hy]; exact hq,hl,hb,by rw [c4J c P n hk,<- hy,hs],by omega,by omega⟩
theorem CnRel.far {N : Nat} {w0 wr : World} {c : List Int} {P n : Int} {k : Nat} {v : Value} {S : Int} (H : CnRel N w0 c P n k v S wr) (j : Nat) (y : Int) :
    (Kd.int .i64).R 3 (wr.setCell ⟨N,j,none⟩ (.int .i64 y)) N (λ _=>True) (.slice (some ⟨N,0,none⟩) 256 256) ((qTo c P n k).set j y) /\ k3.R 167 (wr.setCell ⟨N,j,none⟩ (.int .i64 y)) N (λ b=>b ≠ N) v (candN (restL c P n) (hadL c P n) k) /\ Below N w0 (wr.setCell ⟨N,j,none⟩ (.int .i64 y)):=by
 have:=Kd.R_putn H.q (j : Int) y
 rw [Int.toNat_natCast] at this
 exact ⟨this,Kd.R_far (p:=⟨N,j,none⟩) H.l (λ k hk=>hk) _,H.below.setCell (Nat.le_refl _) _⟩
theorem b4H : ∀ {l : List Int},(∀ x ∈ l,x = 0) -> l.sum = 0
 | [],_=>rfl
 | a :: l,h=>by rw [List.sum_cons,h a (by simp),b4H (λ x hx=>h x (by simp [hx]))]; rfl
theorem c4K {c : List Int} {r : Nat} (h : Can c r) : ∃ s,s < 256 /\ 0 < c.getD s 0:=by
 refine Classical.byContradiction λ hn=>?_
 have : c.sum = 0:=b4H (λ x hx=>by
  obtain ⟨s,hs,rfl⟩:=List.getElem_of_mem hx
  have h1:=h.nonneg _ hx
  have h2 : ¬ 0 < c.getD s 0:=λ hp=>hn ⟨s,by have:=h.len; omega,hp⟩
  rw [List.getD_eq_getElem?_getD,List.getElem?_eq_getElem hs] at h2
  simp only [Option.getD_some] at h2
  omega)
 have:=h.pos
 omega
set_option maxRecDepth 100000 in
set_option maxHeartbeats 2000000 in
theorem b4I (A : Option Addr) (cp : Nat) (c : List Int) (r : Nat) (w : World) (hr : (Kd.int .i64).C w A 256 c) (h : Can c r) :
    Calls Tryz.prog 106 #[.slice A 256 cp,.int .i64 r] w (a8x c r w):=by
 have HR:=Lib.hid hr
 have HC:=Lib.hid h
 have hR : a0N c = true:=rightC_iff.2 ⟨h.len,h.nonneg,h.le⟩
 have hT : a0Y c = c.sum:=by unfold a0Y; rw [if_pos hR]
 have hM : manyC c <= 2 ^ r:=by unfold manyC; rw [if_pos hR]; exact h.many
 obtain ⟨n,hn⟩ : ∃ n : Nat,c.sum = n:=⟨c.sum.toNat,by have:=h.pos; omega⟩
 have hr' : (Kd.int .i64).C w A c.length c:=by rw [h.len]; exact hr
 have HTot:=Lib.hid (b1j A cp c w hr')
 rw [hT,hn,h.len] at HTot
 obtain ⟨P,hP⟩ : ∃ P : Nat,2 ^ r = P:=⟨_,rfl⟩
 have hPI : (2 : Int) ^ r = (P : Int):=by rw [<- hP]; simp
 have hPb : 1 <= P /\ P <= 4096:=by have:=a1u h.r12; rw [hPI] at this; omega
 have HM2 : Hid (∀ W,Below w.heap.size w W -> Calls Tryz.prog 57 #[.slice A 256 cp] W λ e w'=>e = .returned (.int .i64 (manyC c)) /\ W = w'):=λ W hb=>by
  have:=a5e A cp c W (Kd.C_below hr' hb) hR
  rw [h.len] at this; exact this
 have HN : Hid (c.sum = n /\ 2 ^ r = P /\ (2 : Int) ^ r = (P : Int) /\ manyC c <= P):=⟨hn,hP,hPI,by omega⟩
 have hn0 : ((n : Int) == 0) = false:=by have:=h.pos; simp; omega
 have hn1 : 1 <= n /\ n <= 1073741824:=by have:=h.pos; have:=h.le; omega
 have hr1 : decide ((r : Int) < 1) = false:=decide_eq_false (by have:=h.r1; omega)
 have hr2 : decide (12 < (r : Int)) = false:=decide_eq_false (by have:=h.r12; omega)
 have hr0 : (0 : Int) <= r:=by omega
 have hr12 : (r : Int) <= 12:=by have:=h.r12; omega
 have hw1 : IntKind.i64.wrap (2 ^ r) = (P : Int):=by rw [hPI]; exact i64_in _ (by omega)
 have hmp : decide (P < manyC c) = false:=decide_eq_false (by have:=HN.out.2.2.2; omega)
 clear hr hr' h hR hT hM hn hP hPI
 have hmi : ∀ w : World,(Instr.makeSlice 47 (.int .i64 256) (.int .i64 256)).run Tryz.prog w = .ok (.slice (some ⟨w.heap.size,0,none⟩) 256 256) (w.alloc (.cells (madeCells #[.int .i64 0] 256) 3)):=λ w=>a8t 256 (by omega) w
 go_enter Tryz.func106,Tryz.ntmps106
 go_wp2_with fail
 refine HTot.out.mono ?_
 rintro e w1 ⟨rfl,rfl⟩
 go_wp2_with fail
 go_quiet ((go_at_call 57; refine Calls.quiet_of_same ((HM2.out _ (a0b (Below.refl _ _) _)).mono λ e w' h=>⟨h.1,h.2.symm⟩)))
 have HB0 : Hid (Below w.heap.size w (w.drewN nq)):=a0b (Below.refl _ _) _
 obtain ⟨w1,hw1'⟩ : ∃ w1,w1 = w.drewN nq:=⟨_,rfl⟩
 rw [<- hw1'] at HB0 ⊢
 clear hw1'
 obtain ⟨N,hNs⟩ : ∃ N,N = w1.heap.size:=⟨_,rfl⟩
 have HNs:=Lib.hid hNs
 have HI : Hid (CnRel N w1 c P n 0 (.slice none 0 0) 0 (w1.alloc (.cells (madeCells #[.int .i64 0] 256) 3))):=by
  refine ⟨?_,?_,?_,?_,by omega⟩
  · rw [(a8v c P n).1,hNs]; exact a8M 256 3 w1 _ trivial _ (Nat.le_refl _) (by omega)
  · exact Kd.R_nil _ _ _ _ _
  · rw [hNs]; exact (Below.refl _ _).alloc (Nat.le_refl _) _
  · rw [(a8v c P n).1]; decide
 go_wp2_with fail
 rw [<- hNs]
 obtain ⟨W,hW⟩ : ∃ W,W = w1.alloc (.cells (madeCells #[.int .i64 0] 256) 3):=⟨_,rfl⟩
 rw [<- hW] at HI ⊢
 clear hW hNs hmi hmp
 go_loopw [8,9,34] (λ lv sv kv wr=>∃ (k : Nat) (S : Int),sv = .int .i64 S /\ kv = .int .i64 k /\ k <= 256 /\ 0 <= S /\ S <= 4096 * k /\ Hid (CnRel N w1 c P n k lv S wr)) (λ _ _ kv _=>256 - (intOf kv).toNat)
 case atStart=>exact ⟨0,0,rfl,rfl,by omega,by omega,by omega,HI⟩
 case round=>
  obtain ⟨k,S,rfl,rfl,hk,hS0,hS1,H⟩:=hrel
  by_cases hlt : k < 256
  · have hC:=Kd.C_below HR.out (HB0.out.trans (H.out.below.mono (by have:=HB0.out.size; have:=HNs.out; omega)))
    obtain ⟨ad,rfl,hcx⟩:=a0C hC k (by omega)
    have hcg:=HC.out.get k
    have hq0:=HC.out.q0 k
    rw [HN.out.2.2.1,HN.out.1] at hq0
    obtain ⟨x,hx⟩ : ∃ x : Nat,c.getD k 0 = x:=⟨(c.getD k 0).toNat,by omega⟩
    rw [hx] at hcx hcg
    obtain ⟨hq1,hq2⟩:=a1w H.out.q k hlt
    rw [c4I c P n hlt] at hq1
    obtain ⟨m,hm⟩ : ∃ m : Nat,m = x * P:=⟨_,rfl⟩
    have hxn : x <= n:=by have:=HN.out.1; omega
    have hm42 : m <= 4398046511104:=by
     rw [hm]
     calc x * P <= 1073741824 * 4096:=Nat.mul_le_mul (by omega) (by omega)
      _ = 4398046511104:=by decide
    have hmI : (x : Int) * (P : Int) = (m : Int):=by rw [hm]; simp
    have hmR : (x : Int) * 2 ^ r = (m : Int):=by rw [HN.out.2.2.1]; exact hmI
    have hdq : (m : Int) / (n : Int) = ((m / n : Nat) : Int):=by simp
    have hrm : (m : Int) % (n : Int) = ((m % n : Nat) : Int):=by simp
    obtain ⟨dq,hdqe⟩ : ∃ dq,dq = m / n:=⟨_,rfl⟩
    obtain ⟨rm,hrme⟩ : ∃ rm,rm = m % n:=⟨_,rfl⟩
    rw [<- hdqe] at hdq
    rw [<- hrme] at hrm
    have hdb : dq <= 4398046511104:=by rw [hdqe]; exact Nat.le_trans (Nat.div_le_self _ _) hm42
    have hn00 : ¬ (n : Int) = 0:=by omega
    have HX:=Lib.hid (And.intro hx (And.intro hm (And.intro hdqe (And.intro hrme hq0))))
    have hwm : IntKind.i64.wrap ((x : Int) * 2 ^ r) = (m : Int):=by rw [hmR]; exact i64_in _ (by omega)
    clear hx hm hdqe hrme hC hmR hq0
    obtain ⟨A1,c1,rfl⟩:=Kd.R_slice H.out.l
    have HL0:=Lib.hid (H.out.far k (dq : Int))
    have HQF : Hid (q0F c P n k = if dq = 0 then min (x : Int) 1 else dq):=by
     show _ = _
     unfold q0F
     rw [HX.out.1,hmI,hdq]
     by_cases e : dq = 0
     · rw [if_pos e,if_pos (by omega)]
     · rw [if_neg e,if_neg (by omega)]
    have HHD : Hid ((hadL c P n).getD k false = decide (dq = 0)):=by
     show _ = _
     rw [c4H c P n hlt,HX.out.1,hmI,hdq]
     by_cases e : dq = 0
     · rw [decide_eq_true (by omega),decide_eq_true e]
     · rw [decide_eq_false (by omega),decide_eq_false e]
    by_cases hz : 0 < dq
    · have hdq4 : dq <= 4096:=by
        have:=HX.out.2.2.2.2.2.1
        rw [HQF.out,if_neg (by omega)] at this; omega
      have HSz : Hid (N <= (wr.setCell ⟨N,k,none⟩ (.int .i64 (dq : Int))).heap.size):=by show _ <= _; have:=Kd.R_lt HL0.out.1 N rfl; omega
      have HLn : Hid (((candN (restL c P n) (hadL c P n) k).length + 1) * 24 <= 140737488355328):=by show _ <= _; have:=a8X (restL c P n) (hadL c P n) k; omega
      have HFr : Hid (∀ j,(wr.setCell ⟨N,k,none⟩ (.int .i64 (dq : Int))).heap.size <= j -> j ≠ N):=λ j hj e=>by have:=Kd.R_lt HL0.out.1 N rfl; omega
      have HNe : Hid ((Value.slice A1 (candN (restL c P n) (hadL c P n) k).length c1).ownBlock ≠ some N):=λ e=>HL0.out.2.1.1 N e rfl
      have hqg : ((qTo c P n k).set k (dq : Int)).getD k 0 = (dq : Int):=by rw [a2W _ _ _ _ (by unfold qTo; rw [a1s]; omega),if_pos rfl]
      obtain ⟨L,hL⟩ : ∃ L,L = candN (restL c P n) (hadL c P n) k:=⟨_,rfl⟩
      obtain ⟨Q,hQ⟩ : ∃ Q,Q = (qTo c P n k).set k (dq : Int):=⟨_,rfl⟩
      rw [<- hL] at HLn HNe
      have HL1 : Hid (k3.R 167 (wr.setCell ⟨N,k,none⟩ (.int .i64 (dq : Int))) N (λ b=>b ≠ N) (.slice A1 L.length c1) L):=by rw [hL]; exact HL0.out.2.1
      have HQ1 : Hid ((Kd.int .i64).R 3 (wr.setCell ⟨N,k,none⟩ (.int .i64 (dq : Int))) N (λ _=>True) (.slice (some ⟨N,0,none⟩) 256 256) Q):=by rw [hQ]; exact HL0.out.1
      rw [<- hQ] at hqg
      have HQG:=Lib.hid (And.intro hqg (And.intro hL hQ))
      have HB1:=Lib.hid HL0.out.2.2
      have HH:=Lib.hid H.out
      rw [<- hL]
      clear hqg hL hQ HL0 H
      go_wp2_with (at_builtin; refine Kd.R_append k3 (w0:=w1) (W:=wr.setCell ⟨N,k,none⟩ (.int .i64 (dq : Int))) N rfl (.tmp 53) (.tmp 61) 165 167 _ 24 rfl Tryz.underlying165 a8S rfl (by decide) (by decide) (.slice A1 L.length c1) L ((k : Int),(rm : Int),0) [.int .i64 k,.int .i64 rm,.int .i64 0] (λ b=>b ≠ N) (λ _=>False) rfl (by simp [go_sem]) (a4K _ _ _ _) (λ _ h=>h.elim) HFr.out HL1.out HB1.out HSz.out HLn.out ?_; intro v2 w2 hr2 hb2 hg2 hat2; have HQ2:=Lib.hid (Kd.R_grown1 HQ1.out rfl hg2 HNe.out); have hq5:=(a1w HQ2.out k hlt).1; rw [HQG.out.1] at hq5; have HR2:=Lib.hid hr2; have HB2:=Lib.hid hb2; clear hr2 hb2 hg2 hat2)
      go_roundw
      case rel=>
       refine ⟨k + 1,S + dq,rfl,by go_num,by omega,by omega,by omega,?_⟩
       have hq2:=HQ2.out
       rw [HQG.out.2.2] at hq2
       refine HH.out.next hlt hq2 ?_ HB2.out (by rw [HQF.out,if_neg (by omega)]) (by omega)
       rw [a8W,if_pos (by rw [HHD.out]; exact decide_eq_false (by omega))]
       have e : a1C (restL c P n) k = ((k : Int),(rm : Int),0):=by
        unfold a1C restL
        rw [a3O _ hlt,HX.out.1,hmI,hrm]
       rw [e,<- HQG.out.2.1]; exact HR2.out
      case measure=>simp [intOf]; omega
    · have hz0 : dq = 0:=by omega
      subst hz0
      by_cases hx0 : 0 < x
      · go_wp2_with fail
        go_roundw
        case rel=>
         refine ⟨k + 1,S + 1,by go_num,by go_num,by omega,by omega,by omega,?_⟩
         have hqq:=Kd.R_putn HL0.out.1 (k : Int) (1 : Int)
         rw [Int.toNat_natCast,b3r] at hqq
         refine H.out.next hlt hqq ?_ (HL0.out.2.2.setCell (Nat.le_refl _) _) (by rw [HQF.out,if_pos rfl]; omega) (by omega)
         rw [a8W,if_neg (by rw [HHD.out]; simp)]
         exact Kd.R_far (p:=⟨N,k,none⟩) HL0.out.2.1 (λ k hk=>hk) _
        case measure=>simp [intOf]; omega
      · go_wp2_with fail
        go_roundw
        case rel=>
         refine ⟨k + 1,S + 0,by go_num,by go_num,by omega,by omega,by omega,?_⟩
         refine H.out.next hlt HL0.out.1 ?_ HL0.out.2.2 (by rw [HQF.out,if_pos rfl]; omega) (by omega)
         rw [a8W,if_neg (by rw [HHD.out]; simp)]
         exact HL0.out.2.1
        case measure=>simp [intOf]; omega
  · obtain rfl : k = 256:=by omega
    obtain ⟨A1,c1,rfl⟩:=Kd.R_slice H.out.l
    have HQ0 : Hid ((Kd.int .i64).R 3 wr N (λ _=>True) (.slice (some ⟨N,0,none⟩) 256 256) (q0L c P n)):=by rw [<- (a8w c P n).1]; exact H.out.q
    have HS : Hid (S = (q0L c P n).sum):=by rw [<- (a8w c P n).1]; exact H.out.sum
    have HPP : Hid ((P : Int) = 2 ^ r /\ (n : Int) = c.sum):=⟨HN.out.2.2.1.symm,HN.out.1.symm⟩
    have HB1:=Lib.hid H.out.below
    have HL1:=Lib.hid H.out.l
    obtain ⟨M,hM⟩ : ∃ M : Nat,M = giveM c (2 ^ r) c.sum:=⟨_,rfl⟩
    have hMv : max (0 : Int) ((P : Int) - S) = (M : Int):=by
     rw [hM]; unfold giveM; rw [<- HPP.out.1,<- HPP.out.2,<- HS.out]; omega
    have hM4 : M <= 4096:=by omega
    obtain ⟨T,hT⟩ : ∃ T : Nat,T = (S - P).toNat:=⟨_,rfl⟩
    have hTv : max (0 : Int) (S - (P : Int)) = (T : Int):=by rw [hT]; omega
    have HMT:=Lib.hid (And.intro hM hT)
    have hTb : T <= 2000000:=by omega
    obtain ⟨L,hL⟩ : ∃ L,L = candN (restL c P n) (hadL c P n) 256:=⟨_,rfl⟩
    rw [<- hL]
    have HLE:=Lib.hid hL
    clear hM hT hL H
    go_wp2_with fail
    have hgw0:=a4o HC.out 0 (Nat.zero_le _)
    have hen:=HC.out.enough
    rw [<- HPP.out.1,<- HPP.out.2] at hgw0 hen
    refine (c4z N 256 N (q0L c P n) (.slice A1 L.length c1) (restL c P n) (hadL c P n) M wr HQ0.out (by rw [HLE.out]; exact HL1.out) (by have:=Kd.R_lt HQ0.out N rfl; omega) (a1s _) (by simp [hadL])
     (λ s=>⟨(hgw0.2.2.1 s).1,by have:=(hgw0.2.2.1 s).2; simp only [a0Q] at this; omega⟩) (by rw [<- HS.out] at hen; omega) hM4).mono ?_
    clear hgw0 hen
    rintro e w3 ⟨rfl,hq3,hb3⟩
    obtain ⟨G,hG⟩ : ∃ G,G = (a0Q (restL c P n) M (q0L c P n,hadL c P n)).1:=⟨_,rfl⟩
    rw [<- hG] at hq3
    have H3:=Lib.hid (And.intro hq3 (And.intro hb3 hG))
    clear hq3 hb3 hG hMv
    go_wp2_with fail
    have hge:=a8s HC.out
    have hgw:=(a4o HC.out M (by rw [<- HMT.out.1]; exact Nat.le_refl _)).2.2.2.2.1
    rw [<- HMT.out.1,<- HPP.out.1,<- HPP.out.2,<- H3.out.2.2] at hge
    rw [<- HPP.out.1,<- HPP.out.2,<- H3.out.2.2,<- HS.out] at hgw
    have hTe : (G.sum - 2 ^ r).toNat = T:=by
     rw [<- HPP.out.1,hgw]
     have h1 : M = ((P : Int) - S).toNat:=by
      have:=HMT.out.1; unfold giveM at this; rw [<- HPP.out.1,<- HPP.out.2,<- HS.out] at this; exact this
     have h2:=HMT.out.2
     omega
    have HT2 : Hid (a8Z c G T):=λ k hk=>by
     have:=(a6t HC.out hge.1 k (by rw [hTe]; exact hk)).1
     exact ⟨this.len,this.rng,this.iff⟩
    have HNL : Hid (a0O c T G = normL c r):=by
     show _ = _
     unfold normL
     simp only []
     rw [<- HMT.out.1,<- HPP.out.1,<- HPP.out.2,<- H3.out.2.2,HPP.out.1,hTe]
    have HB3 : Hid (Below N w1 w3):=HB1.out.trans H3.out.2.1
    have hcs:=HC.out.le
    clear hge hgw
    refine (c4C N 256 cp A w1 N HNs.out G c T w3 H3.out.1 (Kd.C_below HR.out HB0.out) HB3.out HC.out.len (λ s=>⟨(HC.out.get s).1,by have:=(HC.out.get s).2; omega⟩) HT2.out hTb (λ _=>c4K HC.out)).mono ?_
    rintro e w4 ⟨rfl,hq4,hb4⟩
    have H4:=Lib.hid (And.intro hq4 hb4)
    clear hq4 hb4 hTe
    go_wp2_with fail
    go_ret2
    have hNl : w.heap.size <= N:=by rw [HNs.out]; exact HB0.out.size
    refine ⟨_,rfl,?_,HB0.out.trans (H4.out.2.mono hNl)⟩
    rw [<- HNL.out]
    exact Kd.R_lower H4.out.1 hNl
end Go.Proofs.YtipjlneepponpaaGreat
namespace Go.Proofs.YtipjlneepponpaaGreat
open Go.RowKit Go.IntWalk Go.Proofs.YtipjlneepponpaaGreatW.PrintWords
theorem a1E {w : World} {g : Nat} {a b c : Value} (hg : w.heap[g]? = some (.cells #[a,b,c] 31 (0,0))) : (loadVar 31 ⟨g,0,none⟩).run Tryz.prog w = .ok (.agg #[a,b,c]) w:=
 run_loadVar_row w g _ _ _ _ _ hg Tryz.underlying31 rfl a4Y
theorem a6V {fn : Func} {p u : Tmp} {ty : TypeId} (h : fn.results = #[.cell p ty,.tmp u]) (tmps : Array Value) (w : World) (g : Nat) (cs : Array Value)
    (hp : tmps.getD p undef = .pointer (some ⟨g,0,none⟩)) (hl : (loadVar ty ⟨g,0,none⟩).run Tryz.prog w = .ok (.agg cs) w) :
    (results fn tmps).run Tryz.prog w = .ok (.tuple #[.agg cs,tmps.getD u undef]) w:=by
 have hp' : tmps[p]?.getD undef = .pointer (some ⟨g,0,none⟩):=by simpa using hp
 simp [results,h,hp',asAddr,hl]
theorem b4J {b : List Int} (hb : Bytes b) (hl : b.length <= 1000000) (h0 : 0 < b.length) : 0 < manyC (histL b):=by
 rw [b3v (a4V b hb hl)]
 have hx:=hb _ (List.getElem_mem h0)
 obtain ⟨s,hs⟩ : ∃ s : Nat,b[0] = (s : Int):=⟨(b[0]).toNat,by omega⟩
 have hs2 : s < 256:=by omega
 have hp:=(a8z b hs2).2 (by rw [<- hs]; exact List.getElem_mem h0)
 refine List.countP_pos_iff.2 ⟨(histL b).getD s 0,a2a (by unfold histL; rw [a1s]; exact hs2),by simpa using hp⟩
theorem a2t {fn : Func} {p u v : Tmp} {ty : TypeId} (h : fn.results = #[.cell p ty,.tmp u,.tmp v]) (tmps : Array Value) (w : World) (g : Nat) (cs : Array Value)
    (hp : tmps.getD p undef = .pointer (some ⟨g,0,none⟩)) (hl : (loadVar ty ⟨g,0,none⟩).run Tryz.prog w = .ok (.agg cs) w) :
    (results fn tmps).run Tryz.prog w = .ok (.tuple #[.agg cs,tmps.getD u undef,tmps.getD v undef]) w:=by
 have hp' : tmps[p]?.getD undef = .pointer (some ⟨g,0,none⟩):=by simpa using hp
 simp [results,h,hp',asAddr,hl]
def Told (k : Int) (y : List Int) (w : World) (e : Ending) (w' : World) : Prop:=
 ∃ A c,e = .returned (.tuple #[.slice A y.length c,.int .i64 k]) /\ (Kd.int .u8).R 5 w' w.heap.size (λ _=>True) (.slice A y.length c) y /\ Below w.heap.size w w'
theorem ReadPost.told {k : Int} {y : List Int} {w : World} {e : Ending} {w' : World} (h : ReadPost (k,y) w e w') : Told k y w e w':=by
 obtain ⟨⟨v,rfl,hv⟩,hb⟩:=h
 obtain ⟨A,c,rfl⟩:=Kd.R_slice hv
 exact ⟨A,c,rfl,hv,hb⟩
structure BSl (w : World) (A : Option Addr) (c : Nat) (p : List Int) : Prop where
 row : (Kd.int .u8).C w A p.length p
 cap : p.length <= c
 nil : A = none -> c = 0
 by' : Bytes p
theorem BSl.below {w w' : World} {A : Option Addr} {c : Nat} {p : List Int} (h : BSl w A c p) (hb : Below w.heap.size w w') : BSl w' A c p:=⟨Kd.C_below h.row hb,h.cap,h.nil,h.by'⟩
theorem BSl.of {w : World} {A : Option Addr} {c n base : Nat} {p : List Int} {ok : Nat -> Prop} (h : (Kd.int .u8).R 5 w base ok (.slice A n c) p) (hp : Bytes p) : BSl w A c p:=by
 obtain ⟨e,h2,h3⟩:=Kd.R_reads' h
 refine ⟨h3,by omega,λ ha=>?_,hp⟩
 obtain ⟨_,inner,⟨_,ho⟩,_⟩:=h
 rcases ho with ⟨h4,_⟩ | ⟨g,cap,cur,h4,_⟩
 · cases h4; rfl
 · rw [ha] at h4; cases h4
theorem Told.out {k : Int} {y : List Int} {w : World} {e : Ending} {w' : World} (h : Told k y w e w') (hy : Bytes y) : ∃ A c,e = .returned (.tuple #[.slice A y.length c,.int .i64 k]) /\ BSl w' A c y /\ Below w.heap.size w w':=by
 obtain ⟨A,c,he,hr,hb⟩:=h
 exact ⟨A,c,he,BSl.of hr hy,hb⟩
theorem a9d {w : World} (xs : List Int) (hx : Bytes xs) (hl : xs.length <= 1000000) : BSl (w.alloc (.cells (xs.map (Value.int .u8)).toArray 5)) (some ⟨w.heap.size,0,none⟩) xs.length xs:=
 BSl.of (a4Z .u8 5 w w.heap.size (λ _=>True) trivial (Nat.le_refl _) xs hl) hx
theorem BSl.str {w : World} {A : Option Addr} {c : Nat} {p : List Int} (h : BSl w A c p) : (convert 22 9 (.slice A p.length c)).run Tryz.prog w = .ok (.string (strOfNums p)) w:=
 Kd.C_string Tryz.underlying22 Tryz.underlying5 Tryz.underlying9 h.row
theorem b4Q {κ : IntKind} {w : World} {A : Option Addr} {xs : List Int} (h : (Kd.int κ).C w A xs.length xs) (k : Nat) (hk : k <= xs.length) : (Kd.int κ).C w A k (xs.take k):=by
 obtain ⟨h1,h2,h3⟩:=h
 refine ⟨by rw [List.length_take]; omega,by omega,λ h0=>?_⟩
 obtain ⟨ad,e,hc⟩:=h3 (by omega)
 refine ⟨ad,e,λ j p hj=>hc j p ?_⟩
 rw [List.getElem?_take] at hj
 split at hj
 · exact hj
 · cases hj
theorem BSl.cut {w : World} {A : Option Addr} {c : Nat} {p : List Int} (h : BSl w A c p) {k : Nat} (hk : k <= p.length) : BSl w A c (p.take k):=
 ⟨by have:=b4Q h.row k hk; rwa [List.length_take,Nat.min_eq_left hk],by rw [List.length_take]; have:=h.cap; omega,h.nil,λ x hx=>h.by' x (List.mem_of_mem_take hx)⟩
end Go.Proofs.YtipjlneepponpaaGreat
namespace Go.Proofs.YtipjlneepponpaaGreat
open Go.RowKit
theorem b4S (ps : List Int) (r : Nat) : ∀ (l : List Int) (qs : List (List Int)) (at_ : Nat),(hdrsT ps r l qs at_).2.1.length = qs.length
 | [],_,_=>rfl
 | c :: l,qs,at_=>by
  unfold hdrsT
  split
  · rfl
  · rw [b4S ps r l,List.length_set]
theorem b4T (ps : List Int) (r : Nat) : ∀ (l : List Int) (qs : List (List Int)) (at_ : Nat),at_ <= 8 * ps.length -> (hdrsT ps r l qs at_).1 = 0 -> (hdrsT ps r l qs at_).2.2 <= 8 * ps.length
 | [],_,_,h,_=>h
 | c :: l,qs,at_,h,h0=>by
  unfold hdrsT at h0 ⊢
  by_cases h1 : (hdrT ps (8 * ps.length) 257 a0F 0 (2 ^ r) false at_).1 ≠ 0
  · rw [if_pos h1] at h0; exact absurd h0 h1
  · rw [if_neg h1] at h0 ⊢
    exact b4T ps r l _ _ (a6M _ _ _ _ _ _ h (Classical.not_not.1 h1)) h0
theorem b4U (ps : List Int) : (∃ k,k ≠ 0 /\ a0H ps = (k,0,[],[])) \/ ∃ r qs m,5 <= r /\ r <= 9 /\ (qs : List (List Int)).length = 256 /\ a0H ps = (0,r,qs,(ps.drop 33).drop m):=by
 unfold a0H
 by_cases h0 : ps.length = 0
 · rw [if_pos h0]; exact .inl ⟨3,by decide,rfl⟩
 · rw [if_neg h0]
   by_cases h1 : (ps.getD 0 0).toNat < 5 \/ 9 < (ps.getD 0 0).toNat
   · rw [if_pos h1]; exact .inl ⟨13,by decide,rfl⟩
   · rw [if_neg h1]
     by_cases hd : (dirT (ps.drop 1)).1 ≠ 0
     · rw [if_pos hd]; exact .inl ⟨_,hd,rfl⟩
     · rw [if_neg hd]
       have hl:=b4S (ps.drop 33) (ps.getD 0 0).toNat (dirT (ps.drop 1)).2 a2s 0
       obtain ⟨H,hH⟩ : ∃ H,H = hdrsT (ps.drop 33) (ps.getD 0 0).toNat (dirT (ps.drop 1)).2 a2s 0:=⟨_,rfl⟩
       rw [<- hH] at hl ⊢
       by_cases h2 : H.1 ≠ 0
       · rw [if_pos h2]; exact .inl ⟨_,h2,rfl⟩
       · rw [if_neg h2]
         by_cases h3 : H.2.2 % 8 ≠ 0 /\ ((ps.drop 33).getD (H.2.2 / 8) 0).toNat / 2 ^ (H.2.2 % 8) ≠ 0
         · rw [if_pos h3]; exact .inl ⟨4,by decide,rfl⟩
         · rw [if_neg h3]; exact .inr ⟨_,_,_,by omega,by omega,by rw [hl]; exact List.length_replicate,rfl⟩
theorem a9e {ps : List Int} (h : Bytes ps) : Bytes (a0H ps).2.2.2:=by
 rcases b4U ps with ⟨k,_,e⟩ | ⟨r,q,m,_,_,_,e⟩
 · rw [e]; intro x hx; cases hx
 · rw [e]; exact λ x hx=>h x (List.mem_of_mem_drop (List.mem_of_mem_drop hx))
theorem b4V (ps : List Int) : (a0H ps).2.2.2.length <= ps.length /\ (a0H ps).2.2.1.length <= 256:=by
 rcases b4U ps with ⟨k,_,e⟩ | ⟨r,q,m,_,_,h,e⟩
 · rw [e]; simp
 · rw [e]; exact ⟨by simp,by rw [h]; exact Nat.le_refl _⟩
theorem b4W {b : List Int} (hb : Bytes b) (hl : b.length <= 40000) (h0 : 0 < b.length) : dec1M (a1b b) b.length = (0,b):=by
 have hc : canM (a0o b : Nat) false (a0y b) b = true:=a3p (one:=false) hb (by omega) h0
 unfold dec1M
 rw [c3D hb (by omega) h0,if_neg (λ h=>h rfl)]
 dsimp only
 exact b2S hc hb
theorem a9f {x : Int} {l : List Int} (hx : 0 <= x /\ x < 256) (hl : Bytes l) : Bytes (x :: l):=λ y hy=>by
 rcases List.mem_cons.1 hy with h | h
 · rw [h]; exact hx
 · exact hl y h
theorem a4u {a b : List Int} (ha : Bytes a) (hb : Bytes b) : Bytes (a ++ b):=λ y hy=>by
 rcases List.mem_append.1 hy with h | h
 · exact ha y h
 · exact hb y h
theorem a9g (b : List Int) : Bytes (a1b b):=by
 unfold a1b
 have hr:=a2q b
 exact a4u (a4u (a4u (a9f (by omega) (λ x hx=>by cases hx)) (a3L _)) (a3L _)) (a3L _)
open Go.IntWalk Go.Proofs.YtipjlneepponpaaGreatW.PrintWords
theorem a9h (r : Nat) (qs : List (List Int)) (c : Int) : ∀ l : List Int,hdrsB r qs (l ++ [c]) = hdrsB r qs l ++ hdrB (qs.getD c.toNat []) 257 0 (2 ^ r)
 | []=>by simp [hdrsB]
 | x :: l=>by
  show hdrB _ 257 0 (2 ^ r) ++ hdrsB r qs (l ++ [c]) = (hdrB _ 257 0 (2 ^ r) ++ hdrsB r qs l) ++ _
  rw [a9h r qs c l,List.append_assoc]
theorem a4v {r : Nat} {qs : List (List Int)} (hr9 : r <= 9) : ∀ l : List Int,(∀ c ∈ l,Nrm (qs.getD c.toNat []) r) -> (hdrsB r qs l).length <= l.length * 3072
 | [],_=>by simp [hdrsB]
 | x :: l,h=>by
  have hn:=h x (by simp)
  have ih:=a4v hr9 l (λ c hc=>h c (by simp [hc]))
  have e2 : (2 : Int) ^ r = ((2 ^ r : Nat) : Int):=by simp
  have h1:=a3q hn.r12 hn.len hn.nn 257 0 (2 ^ r) (by omega) (by rw [List.drop_zero,hn.sum,e2]) (by rw [Nat.pow_succ]; have:=Nat.two_pow_pos r; omega)
  have h2 : (256 - 0) * (r + 3) <= 256 * 12:=Nat.mul_le_mul (by omega) (by omega)
  show (hdrB _ 257 0 (2 ^ r) ++ hdrsB r qs l).length <= _
  rw [List.length_append,List.length_cons]; omega
def a3r (r : Nat) (qs : List (List Int)) (l : List Int) : List Int:=[(r : Int)] ++ dirL l ++ packB (hdrsB r qs l)
def c5m (r : Nat) (qs : List (List Int)) (l : List Int) (w : World) (e : Ending) (w' : World) : Prop:=∃ v,e = .returned v /\ (Kd.int .u8).R 5 w' w.heap.size (λ _=>True) v (a3r r qs l) /\ Below w.heap.size w w'
set_option maxRecDepth 100000 in
set_option maxHeartbeats 4000000 in
theorem c5n (r c cl : Nat) (A Al : Option Addr) (qs : List (List Int)) (l : List Int) (w : World) (hr : kq.C w A qs.length qs) (hq : qs.length = 256) (hl : (Kd.int .i64).C w Al l.length l) (hA : Asc l) (hll : l.length <= 256) (hr9 : r <= 9) (hN : ∀ c ∈ l,Nrm (qs.getD c.toNat []) r) :
    Calls Tryz.prog 45 #[.agg #[.int .i64 r,.bool false,.slice A 256 c],.slice Al l.length cl] w (c5m r qs l w):=by
 obtain ⟨W,hW⟩ : ∃ W,W = w.alloc (.cells #[.int .i64 r,.bool false,.slice A 256 c] 31):=⟨_,rfl⟩
 have hb1 : Below w.heap.size w W:=by rw [hW]; exact (Below.refl _ _).alloc (Nat.le_refl _) _
 have hk1 : W.heap[w.heap.size]? = some (.cells #[.int .i64 r,.bool false,.slice A 256 c] 31 (0,0)):=by rw [hW]; exact a0m _ _
 obtain ⟨mb,hmb⟩ : ∃ mb,mb = w.heap.size:=⟨_,rfl⟩
 rw [<- hmb] at hk1
 have HMb:=Lib.hid hmb
 have HR:=Lib.hid (And.intro hr (And.intro hl (And.intro hA (And.intro hll (And.intro hN hq)))))
 have H1:=Lib.hid (And.intro hb1 hk1)
 have hll2 : l.length <= 256:=hll
 clear hr hq hl hA hll hN hb1 hk1
 go_enter Tryz.func45,Tryz.ntmps45
 go_wp2_with fail
 rw [<- hW,<- hmb]
 clear hW hmb
 refine (c3M Al cl l W (Kd.C_below HR.out.2.1 H1.out.1) HR.out.2.2.1 HR.out.2.2.2.1).mono ?_
 rintro e w2 ⟨vd,rfl,hvd,hb2⟩
 obtain ⟨Ad,cd,rfl⟩:=Kd.R_slice hvd
 rw [a2F] at hvd ⊢
 have HD:=Lib.hid (Kd.R_reads' hvd).2.2
 have HB2:=Lib.hid (a0g H1.out.1 hb2)
 have HK2:=Lib.hid (a0l H1.out.2 hb2)
 clear hvd hb2
 go_wp2_with fail
 refine (a5W _).mono ?_
 rintro e w3 ⟨rfl,hw3⟩
 have hw0 : WrVal w3 w2.heap.size w2.heap.size (.slice none 0 0) []:=by rw [hw3]; exact a8J w2
 have hb3 : Below w2.heap.size w2 w3:=by rw [hw3]; exact (Below.refl _ _).alloc (Nat.le_refl _) _
 obtain ⟨P,hP⟩ : ∃ P,P = w2.heap.size:=⟨_,rfl⟩
 rw [<- hP] at hw0 ⊢
 have HW0:=Lib.hid (And.intro hw0 (And.intro hb3 hP))
 have HB3:=Lib.hid (a0g HB2.out hb3)
 clear hw3 hw0 hb3 hP
 go_wp2_with fail
 go_loopw [18] (λ kv wr=>∃ i : Nat,i <= l.length /\ kv = .int .i64 i /\ Hid (PutRel P P (.slice none 0 0) (hdrsB r qs (l.take i)) w3 wr)) (λ kv _=>l.length - (intOf kv).toNat)
 case atStart=>exact ⟨0,by omega,rfl,Lib.hid ⟨_,HW0.out.1,.inl rfl,Only.refl _ _⟩⟩
 case round=>
  obtain ⟨i,hi,rfl,H⟩:=hrel
  have hBw2 : Below w2.heap.size w2 wr:=PutRel.bel H.out HW0.out.2.1 (by have:=HW0.out.2.2; omega) (λ k hk=>by simp [Value.ownBlock] at hk)
  have hBw : Below w.heap.size w wr:=HB2.out.trans (hBw2.mono HB2.out.size)
  obtain ⟨⟨ka,kb,kc⟩,-⟩:=cell3 (a0l HK2.out hBw2)
  by_cases hlt : i < l.length
  · obtain ⟨cx,hc,hc256⟩:=HR.out.2.2.1.get hlt
    obtain ⟨ad,hA2,hcx⟩:=a0C (Kd.C_below HR.out.2.1 hBw) i hlt
    subst hA2
    rw [hc] at hcx
    have hm:=a1t hlt
    rw [hc] at hm
    have hn:=HR.out.2.2.2.2.1 _ hm
    rw [Int.toNat_natCast] at hn
    obtain ⟨aq,B,cq,hA3,hcq',-,hCq⟩:=kq_at HR.out.1 cx (by rw [HR.out.2.2.2.2.2]; exact hc256)
    subst hA3
    rw [hn.len] at hcq' hCq
    have hcq:=a0t hBw hcq'
    have HCq:=Lib.hid hCq
    have HBw:=Lib.hid (And.intro hBw hBw2)
    clear hcq'
    have ht : l.take (i + 1) = l.take i ++ [(cx : Int)]:=by rw [List.take_succ_eq_append_getElem hlt,<- hc,List.getD_eq_getElem?_getD,List.getElem?_eq_getElem hlt,Option.getD_some]
    have hs : hdrsB r qs (l.take (i + 1)) = hdrsB r qs (l.take i) ++ hdrB (qs.getD cx []) 257 0 (2 ^ r):=by rw [ht,a9h,Int.toNat_natCast]
    have hlb:=a4v (r:=r) (qs:=qs) hr9 (l.take i) (λ x hx=>HR.out.2.2.2.2.1 x (List.mem_of_mem_take hx))
    have hlb2 : (hdrsB r qs (l.take i)).length <= 800000:=by rw [List.length_take] at hlb; omega
    have HS:=Lib.hid hs
    have HN:=Lib.hid (And.intro hn hlb2)
    have hc2 : (cx : Int) < 256:=by omega
    obtain ⟨v1,k1,k2,k3⟩:=H.out
    have HK:=Lib.hid (And.intro k1 (And.intro k2 k3))
    have HBs : Hid (P <= wr.heap.size):=Lib.hid (Nat.le_trans (by have:=HW0.out.2.2; have:=HW0.out.2.1.size; omega) k3.size)
    clear hc hm hn hCq ht hs hlb hlb2 k1 k2 k3 hBw2 hBw
    go_wp2_with fail
    refine (b3V P P cq r B v1 (hdrsB r qs (l.take i)) (qs.getD cx []) w wr HK.out.1 HBs.out HN.out.2 HCq.out HBw.out.1 (by have:=HW0.out.2.2; have:=HB2.out.size; omega) (by have:=HW0.out.2.2; have:=HB2.out.size; omega) HN.out.1).mono ?_
    rintro e w5 ⟨rfl,hp⟩
    have HP5:=Lib.hid (PutRel.trans HK.out hp)
    clear hp
    go_wp2_with fail
    go_roundw
    case rel=>exact ⟨i + 1,by omega,by go_num,Lib.hid (by rw [HS.out]; exact HP5.out)⟩
    case measure=>first | (simp [intOf]; done) | (simp [intOf]; omega)
  · obtain rfl : i = l.length:=by omega
    rw [List.take_length] at H
    obtain ⟨v1,k1,k2,k3⟩:=H.out
    have hlb:=a4v (r:=r) (qs:=qs) hr9 l HR.out.2.2.2.2.1
    have HX:=Lib.hid (And.intro k1 (by omega : (hdrsB r qs l).length <= 800000))
    obtain ⟨X,hX⟩ : ∃ X,X = packB (hdrsB r qs l):=⟨_,rfl⟩
    have HXX:=Lib.hid hX
    have HXl : Hid (X.length <= 100001):=Lib.hid (by rw [hX,a0x]; omega)
    have HBw:=Lib.hid hBw
    have HD2:=Lib.hid (Kd.C_below HD.out hBw2)
    have hDl:=a2F l
    obtain ⟨D,hD⟩ : ∃ D,D = dirL l:=⟨_,rfl⟩
    rw [<- hD] at HD2 hDl
    have HDD:=Lib.hid (And.intro hD hDl)
    clear k1 k2 k3 hlb hBw hBw2 hX hD hDl H
    have hrw : IntKind.u8.wrap (r : Int) = (r : Int):=by rw [IntKind.wrap_u8]; omega
    have hWl : Below w.heap.size w (wr.alloc (.cells #[.int .u8 (r : Int)] 5)):=HBw.out.alloc HBw.out.size _
    have HWl:=Lib.hid (And.intro hWl hWl.size)
    have HO1 : Hid ((Kd.int .u8).R 5 (wr.alloc (.cells #[.int .u8 (r : Int)] 5)) w.heap.size (λ _=>True) (.slice (some ⟨wr.heap.size,0,none⟩) 1 1) [(r : Int)]):=Lib.hid (a4Z .u8 5 wr w.heap.size (λ _=>True) trivial HBw.out.size [(r : Int)] (by simp))
    have HD3 : Hid ((Kd.int .u8).C (wr.alloc (.cells #[.int .u8 (r : Int)] 5)) Ad 32 D):=Lib.hid (by have:=Kd.C_alloc HD2.out (.cells #[.int .u8 (r : Int)] 5); rw [HDD.out.2] at this; exact this)
    have HL1 : Hid ((([(r : Int)] : List Int).length + 32) * 1 <= 140737488355328):=Lib.hid (by simp)
    have HWr : Hid (WrVal wr P P v1 (hdrsB r qs l)):=HX.out.1
    have HWr2 : Hid (WrVal (wr.alloc (.cells #[.int .u8 (r : Int)] 5)) P P v1 (hdrsB r qs l)):=Lib.hid ⟨a0r HX.out.1.blk _,Kd.R_alloc HX.out.1.row _⟩
    have HZ33 : Hid (([(r : Int)] ++ D).length = 33):=Lib.hid (by rw [List.length_append,HDD.out.2]; rfl)
    clear hWl
    go_wp2_with (at_builtin; refine Kd.R_append_rows (Kd.int .u8) (Rr:=(Kd.int .u8).K (wr.alloc (.cells #[.int .u8 (r : Int)] 5))) (w0:=w) (W:=wr.alloc (.cells #[.int .u8 (r : Int)] 5)) w.heap.size rfl (.tmp 33) (.tmp 34) 22 5 (.int .u8 0) 1 rfl Tryz.underlying22 a1p rfl (by decide) (by decide) (.slice (some ⟨wr.heap.size,0,none⟩) 1 1) [(r : Int)] D Ad 32 cd (λ _=>True) (λ _=>False) rfl rfl HO1.out HD3.out (λ _ _ h=>h) (λ _ h=>h.elim) (λ _ _=>trivial) HWl.out.1 HWl.out.2 HL1.out ?_; intro vi w5 hr5 hb5 hg5 hat5; have HG5:=Lib.hid (And.intro hg5 hat5); obtain ⟨A5,c5,rfl⟩:=Kd.R_slice hr5; rw [HZ33.out] at hr5 ⊢; have HR5:=Lib.hid (And.intro hr5 hb5); clear hr5 hb5 hg5 hat5)
    have HW5 : Hid (WrVal w5 P P v1 (hdrsB r qs l)):=Lib.hid ⟨a0Z HWr2.out.blk HG5.out.1 (λ e=>by have:=a0f HWr.out.blk; simp [Value.ownBlock] at e; omega),Kd.R_mono (Kd.R_grown (Kd.R_alloc (Kd.R_bound HWr.out.row) _) HG5.out.1 (λ k hk e=>by have:=hk.2.2.1; simp [Value.ownBlock] at e; omega)) (λ k hk=>hk.1)⟩
    have HX8 : Hid ((hdrsB r qs l).length <= 900000):=Lib.hid (by have:=HX.out.2; omega)
    obtain ⟨Z,hZ⟩ : ∃ Z,Z = [(r : Int)] ++ D:=⟨_,rfl⟩
    rw [<- hZ] at HR5
    have HZ:=Lib.hid (And.intro hZ (by rw [hZ]; exact HZ33.out : Z.length = 33))
    clear hZ
    refine (a6J P P v1 _ w5 HW5.out HX8.out).mono ?_
    rintro e w6 ⟨v6,rfl,hv6,hb6⟩
    rw [<- HXX.out] at hv6
    obtain ⟨A6,c6,rfl⟩:=Kd.R_slice hv6
    have HO6:=Lib.hid (Kd.R_below HR5.out.1 hb6)
    have HX6:=Lib.hid (Kd.R_reads' hv6).2.2
    have HB6:=Lib.hid (And.intro (a0g HR5.out.2 hb6) (a0g HR5.out.2 hb6).size)
    have HL6 : Hid ((Z.length + X.length) * 1 <= 140737488355328):=Lib.hid (by have:=HZ.out.2; have:=HXl.out; omega)
    clear hv6 hb6
    go_wp2_with (at_builtin; refine Kd.R_append_rows (Kd.int .u8) (Rr:=(Kd.int .u8).K w6) (w0:=w) (W:=w6) w.heap.size rfl (.tmp 35) (.tmp 37) 22 5 (.int .u8 0) 1 rfl Tryz.underlying22 a1p rfl (by decide) (by decide) (.slice A5 33 c5) Z X A6 X.length c6 (λ _=>True) (λ _=>False) rfl rfl HO6.out HX6.out (λ _ _ h=>h) (λ _ h=>h.elim) (λ _ _=>trivial) HB6.out.1 HB6.out.2 HL6.out ?_; intro v7 w7 hr7 hb7 hg7 hat7; have HR7:=Lib.hid (And.intro hr7 hb7); clear hr7 hb7 hg7 hat7)
    go_ret
    refine ⟨v7,rfl,?_,HR7.out.2⟩
    unfold a3r
    rw [<- HXX.out,<- HDD.out.1,<- HZ.out.1]
    exact HR7.out.1
set_option maxRecDepth 100000 in
theorem c5o (A : Option Addr) (c pb pc : Nat) (b : List Int) (i : Nat) (k : Int) (w : World) (hpb : w.cell? ⟨pb,0,none⟩ = some (.slice A b.length c)) (hpc : w.cell? ⟨pc,0,none⟩ = some (.int .i64 k)) (hr : (Kd.int .u8).C w A b.length b) (hi : i < b.length) (hl : b.length <= 1000000) (hb : Bytes b) :
    Calls Tryz.prog 146 #[.int .i64 i,.pointer (some ⟨pb,0,none⟩),.pointer (some ⟨pc,0,none⟩)] w λ e w'=>e = .returned (.bool (decide (ctxI b i = k))) /\ ∃ n,w' = w.drewN n:=by
 have HN:=Lib.hid (λ W (h : Below w.heap.size w W)=>a5X A c b i W (Kd.C_below hr h) hi hl hb)
 obtain ⟨z,hz⟩ : ∃ z,z = ctxI b i:=⟨_,rfl⟩
 rw [<- hz] at HN ⊢
 clear hr hi hl hb hz
 go_enter Tryz.func146,Tryz.ntmps146
 go_wp2_with fail
 go_quiet ((go_at_call 100; refine Calls.quiet_of_same ((HN.out _ (a0b (Below.refl _ _) _)).mono λ e w' h=>⟨h.1,h.2.symm⟩)))
 all_goals
  go_wp2_with fail
  go_ret
  exact ⟨by first | rfl | exact a0X rfl,_,rfl⟩
def c5p (b : List Int) (k : Int) (w : World) (e : Ending) (w' : World) : Prop:=∃ v,e = .returned v /\ (Kd.int .u8).R 5 w' w.heap.size (λ _=>True) v (a0n b k) /\ Below w.heap.size w w'
set_option maxRecDepth 100000 in
set_option maxHeartbeats 1000000 in
theorem c5q (A : Option Addr) (c cc pb pc : Nat) (b : List Int) (k : Int) (w : World) (hpb : w.cell? ⟨pb,0,none⟩ = some (.slice A b.length cc)) (hpbl : pb < w.heap.size) (hpc : w.cell? ⟨pc,0,none⟩ = some (.int .i64 k)) (hpcl : pc < w.heap.size) (hr : (Kd.int .u8).C w A b.length b) (hl : b.length <= 1000000) (hb : Bytes b) :
    Calls Tryz.prog 145 #[.slice A b.length c,.func (Fn.func 146) #[] #[.pointer (some ⟨pb,0,none⟩),.pointer (some ⟨pc,0,none⟩)]] w (c5p b k w):=by
 have HR:=Lib.hid (And.intro hr (And.intro hl (And.intro hb (And.intro hpbl hpcl))))
 have HCe:=Lib.hid (And.intro hpb hpc)
 clear hr hl hb hpb hpc hpbl hpcl
 go_enter Tryz.func145,Tryz.ntmps145
 go_wp2_with fail
 go_loopw [5,10] (λ v kv wr=>∃ i : Nat,i <= b.length /\ kv = .int .i64 i /\ Hid ((Kd.int .u8).R 5 wr w.heap.size (λ _=>True) v (pkL b k i) /\ Below w.heap.size w wr)) (λ _ kv _=>b.length - (intOf kv).toNat)
 case atStart=>exact ⟨0,by omega,rfl,Lib.hid ⟨by have : pkL b k 0 = []:=rfl; rw [this]; exact Kd.R_nil _ _ _ _ _,Below.refl _ _⟩⟩
 case round=>
  obtain ⟨i,hi,rfl,H⟩:=hrel
  by_cases hlt : i < b.length
  · obtain ⟨Av,cv,rfl⟩:=Kd.R_slice H.out.1
    have hbi:=HR.out.2.2.1 _ (a1t hlt)
    obtain ⟨y,hy⟩ : ∃ y : Nat,b.getD i 0 = y:=⟨(b.getD i 0).toNat,by omega⟩
    obtain ⟨ad,hA,hcx⟩:=a0C (Kd.C_below HR.out.1 H.out.2) i hlt
    rw [hy] at hcx
    subst hA
    have hcl:=a3P b k i
    have HLn : Hid (((pkL b k i).length + 1) * 1 <= 140737488355328):=by show _ <= _; have:=HR.out.2.1; omega
    have hl6 : b.length <= 1000000:=HR.out.2.1
    obtain ⟨L,hL⟩ : ∃ L,L = pkL b k i:=⟨_,rfl⟩
    have HL:=Lib.hid hL
    have HY:=Lib.hid (And.intro hy hbi)
    have hF:=c5o (some ad) cc pb pc b i k wr (by rw [H.out.2.cell (p:=⟨pb,0,none⟩) HR.out.2.2.2.1]; exact HCe.out.1) (by rw [H.out.2.cell (p:=⟨pc,0,none⟩) HR.out.2.2.2.2]; exact HCe.out.2) (Kd.C_below HR.out.1 H.out.2) hlt HR.out.2.1 HR.out.2.2.1
    have HF:=Lib.hid hF
    rw [<- hL] at H hcl HLn ⊢
    clear hF hy hbi hL
    by_cases hcond : ctxI b i = k
    · have HN : Hid (pkL b k (i + 1) = L ++ [(y : Int)]):=by show _ = _; rw [a6p hcond,<- HL.out,HY.out.1]
      have hd:=decide_eq_true hcond
      rw [hd] at HF
      clear hcond hd
      go_wp2_with fail
      refine HF.out.mono ?_
      rintro e w1 ⟨rfl,nq,rfl⟩
      obtain ⟨w2,hw2⟩ : ∃ w2,w2 = wr.drewN nq:=⟨_,rfl⟩
      have HB2 : Hid (Below w.heap.size w w2 /\ w.heap.size <= w2.heap.size):=by
       have h1 : Below w.heap.size w w2:=by rw [hw2]; exact a0b H.out.2 nq
       exact Lib.hid ⟨h1,h1.size⟩
      have HR2 : Hid ((Kd.int .u8).R 5 w2 w.heap.size (λ _=>True) (.slice Av L.length cv) L):=Lib.hid (by rw [hw2]; exact Kd.R_drewN H.out.1 nq)
      rw [<- hw2]
      clear hw2 hcx
      go_wp2_with (at_builtin; refine Kd.R_append (Kd.int .u8) (w0:=w) (W:=w2) w.heap.size rfl (.tmp 18) (.tmp 20) 22 5 (.int .u8 0) 1 rfl Tryz.underlying22 a1p rfl (by decide) (by decide) _ _ (y : Int) [.int .u8 y] (λ _=>True) (λ _=>False) rfl rfl rfl (λ _ h=>h.elim) (λ _ _=>trivial) HR2.out HB2.out.1 HB2.out.2 HLn.out ?_; intro v1 w3 hr3 hb3 hg3 hat3; have HA:=Lib.hid (And.intro hr3 hb3); clear hr3 hb3 hg3 hat3)
      go_roundw
      case rel=>exact ⟨i + 1,by omega,by go_num,Lib.hid ⟨by rw [HN.out]; exact HA.out.1,HA.out.2⟩⟩
      case measure=>simp [intOf]; omega
    · have HN : Hid (pkL b k (i + 1) = L):=by show _ = _; rw [a6q hcond,<- HL.out]
      have hd:=decide_eq_false hcond
      rw [hd] at HF
      clear hcond hd
      go_wp2_with fail
      refine HF.out.mono ?_
      rintro e w1 ⟨rfl,nq,rfl⟩
      go_wp2_with fail
      go_roundw
      case rel=>exact ⟨i + 1,by omega,by go_num,Lib.hid ⟨by rw [HN.out]; exact Kd.R_drewN H.out.1 nq,a0b H.out.2 nq⟩⟩
      case measure=>simp [intOf]; omega
  · obtain rfl : i = b.length:=by omega
    go_wp2_with fail
    go_ret
    exact ⟨_,rfl,H.out.1,H.out.2⟩
def b4Y (b : List Int) (k : Int) (w : World) (e : Ending) (w' : World) : Prop:=∃ v,e = .returned v /\ (Kd.int .i64).R 3 w' w.heap.size (λ _=>True) v (histL (a0n b k)) /\ Below w.heap.size w w'
theorem a6X {b : List Int} (hb : Bytes b) (k : Int) : Bytes (a0n b k):=b3d hb k _
set_option maxRecDepth 100000 in
theorem b4Z (A : Option Addr) (c : Nat) (b : List Int) (k : Int) (w : World) (hr : (Kd.int .u8).C w A b.length b) (hl : b.length <= 1000000) (hb : Bytes b) :
    Calls Tryz.prog 98 #[.slice A b.length c,.int .i64 k] w (b4Y b k w):=by
 obtain ⟨W,hW⟩ : ∃ W,W = (w.alloc (.cells #[.slice A b.length c] 22)).alloc (.cells #[.int .i64 k] 3):=⟨_,rfl⟩
 have hb1 : Below w.heap.size w W:=by rw [hW]; exact ((Below.refl _ _).alloc (Nat.le_refl _) _).alloc (by simp) _
 have hs : W.heap.size = w.heap.size + 2:=by rw [hW]; simp
 have hk1 : W.heap[w.heap.size]? = some (.cells #[.slice A b.length c] 22 (0,0)):=by rw [hW]; exact a0r (a0m _ _) _
 have hk2 : W.heap[w.heap.size + 1]? = some (.cells #[.int .i64 k] 3 (0,0)):=by rw [hW]; exact a2D _ _ _
 have HP:=Lib.hid (c5q A c c w.heap.size (w.heap.size + 1) b k W ((a0a hk1 0).trans rfl) (by omega) ((a0a hk2 0).trans rfl) (by omega) (Kd.C_below hr hb1) hl hb)
 have HX:=Lib.hid (And.intro hb1 (And.intro hl hb))
 have hc1 : W.cell? ⟨w.heap.size,0,none⟩ = some (.slice A b.length c):=(a0a hk1 0).trans rfl
 clear hr hl hb hb1 hs hk1 hk2
 go_enter Tryz.func98,Tryz.ntmps98
 go_wp2_with fail
 rw [<- hW]
 clear hW
 refine HP.out.mono ?_
 rintro e w1 ⟨v,rfl,hv,hb1⟩
 obtain ⟨A1,c1,rfl⟩:=Kd.R_slice hv
 have H1:=Lib.hid (And.intro (Kd.R_reads' hv).2.2 (a0g HX.out.1 hb1))
 have HLp : Hid ((a0n b k).length <= 1000000):=by show _ <= _; have:=a3P b k b.length; have:=HX.out.2.1; unfold a0n; omega
 clear hv hb1
 go_wp2_with fail
 refine (b4g A1 c1 (a0n b k) w1 H1.out.1 HLp.out (a6X HX.out.2.2 k)).mono ?_
 rintro e w2 ⟨v2,rfl,hv2,hb2⟩
 have H2:=Lib.hid (And.intro hv2 hb2)
 clear hv2 hb2
 go_wp2_with fail
 go_ret
 exact ⟨v2,rfl,Kd.R_lower H2.out.1 H1.out.2.size,a0g H1.out.2 H2.out.2⟩
end Go.Proofs.YtipjlneepponpaaGreat
namespace Go.Proofs.YtipjlneepponpaaGreat
open Go.RowKit Go.IntWalk Go.Proofs.YtipjlneepponpaaGreatW.PrintWords Go.Proofs.YtipjlneepponpaaGreatW.PrintMore
attribute [local go_sem] a1R a1S a1T a1J
def metL (b : List Int) : Nat -> List Bool
 | 0=>List.replicate 256 false
 | i + 1=>(metL b i).set (ctxI b (i : Nat)).toNat true
theorem a6Y (b : List Int) : ∀ i,(metL b i).length = 256
 | 0=>List.length_replicate
 | i + 1=>by unfold metL; rw [List.length_set]; exact a6Y b i
theorem b5a {b : List Int} (hb : Bytes b) {i : Nat} (hi : i < b.length) : 0 <= ctxI b (i : Nat) /\ ctxI b (i : Nat) < 256:=by
 unfold ctxI
 rw [if_neg (by omega)]
 split
 · omega
 · exact hb.get _
theorem b5b {b : List Int} (hb : Bytes b) {c : Nat} (hc : c < 256) : ∀ i,i <= b.length -> (metL b i).getD c false = decide (0 < (pkL b (c : Int) i).length)
 | 0,_=>by
  have : pkL b (c : Int) 0 = []:=rfl
  rw [this]
  unfold metL
  rw [List.getD_eq_getElem?_getD,List.getElem?_replicate,if_pos hc]; rfl
 | i + 1,h=>by
  have ih:=b5b hb hc i (by omega)
  have hr:=b5a hb (show i < b.length by omega)
  unfold metL
  rw [List.getD_eq_getElem?_getD,List.getElem?_set]
  by_cases e : ctxI b (i : Nat) = (c : Int)
  · rw [if_pos (by omega),if_pos (by rw [a6Y]; omega),a6p e]
    simp
  · rw [if_neg (by omega),<- List.getD_eq_getElem?_getD,ih,a6q e]
theorem c5r : (Tryz.prog.info? 121).map (·.size) = some 256:=by kernel_rfl
theorem c5s : (Tryz.prog.info? 4).map (·.size) = some 1:=by kernel_rfl
theorem c5t : Tryz.zeroCells121 = ((List.replicate 256 false).map Value.bool).toArray:=by kernel_rfl
theorem c5u (ms : List Bool) (hm : ms.length = 256) (i : Nat) (hi : i < 256) (w : World) : (Instr.index 121 (.agg (ms.map Value.bool).toArray) (.int .i64 i)).run Tryz.prog w = .ok (.bool (ms.getD i false)) w:=by
 obtain ⟨i0,hi0,hsz⟩:=Option.map_eq_some_iff.1 c5s
 have h1 : (0 : Int) <= i /\ (i : Int) < ((256 : Nat) : Int):=by omega
 have hag : (isAgg 4).run Tryz.prog w = .ok false w:=by simp [isAgg,Tryz.underlying4,go_sem,run_underlying]
 have he : ms[i]? = some ms[i]:=List.getElem?_eq_getElem (by omega)
 unfold Instr.index
 simp [run_underlying (P:=Tryz.prog) Tryz.underlying121,asIntOf,sizeOf,typeInfo,hi0,hsz,part,hag,h1,Result.andThen,he,hi]
def MetAt (p : Nat) (ms : List Bool) (w : World) : Prop:=w.heap[p]? = some (.cells (ms.map Value.bool).toArray 121 (0,0))
theorem MetAt.cell {p : Nat} {ms : List Bool} {w : World} (h : MetAt p ms w) {c : Nat} (hc : c < ms.length) : w.cell? ⟨p,c,none⟩ = some (.bool (ms.getD c false)) /\ w.frozen? ⟨p,c,none⟩ = false:=by
 refine ⟨(a0a h c).trans ?_,a0e h c⟩
 rw [List.getElem?_toArray,List.getElem?_map,List.getElem?_eq_getElem hc,List.getD_eq_getElem?_getD,List.getElem?_eq_getElem hc]; rfl
theorem MetAt.set {p : Nat} {ms : List Bool} {w : World} (h : MetAt p ms w) (c : Nat) : MetAt p (ms.set c true) (w.setCell ⟨p,c,none⟩ (.bool true)):=by
 unfold MetAt at h ⊢
 rw [a0v h c]
 congr 2
 rw [List.map_set]; simp
theorem MetAt.range {p : Nat} {ms : List Bool} {w : World} (h : MetAt p ms w) : w.rangeAt p 0 (ms.map Value.bool):=λ j v hv=>by
 rw [Nat.zero_add,a0a h j]
 simpa using hv
def c5v (b : List Int) (w : World) (e : Ending) (w' : World) : Prop:=∃ v,e = .returned v /\ (Kd.int .i64).R 3 w' w.heap.size (λ _=>True) v (presN b 256) /\ Below w.heap.size w w'
theorem c5w {b : List Int} (hb : Bytes b) {c : Nat} (hc : c < 256) : (metL b b.length).getD c false = decide (0 < (a0n b (c : Int)).length):=b5b hb hc b.length (Nat.le_refl _)
set_option maxRecDepth 100000 in
set_option maxHeartbeats 1000000 in
theorem b5c (A : Option Addr) (cp : Nat) (b : List Int) (w : World) (hr : (Kd.int .u8).C w A b.length b) (hl : b.length <= 1000000) (hb : Bytes b) :
    Calls Tryz.prog 46 #[.slice A b.length cp] w (c5v b w):=by
 obtain ⟨W,hW⟩ : ∃ W,W = w.alloc (.cells Tryz.zeroCells121 121):=⟨_,rfl⟩
 have hb1 : Below w.heap.size w W:=by rw [hW]; exact (Below.refl _ _).alloc (Nat.le_refl _) _
 have hm1 : MetAt w.heap.size (metL b 0) W:=by rw [hW,c5t]; exact a0m _ _
 have H1:=Lib.hid (And.intro hb1 hm1)
 have HR:=Lib.hid (And.intro hr (And.intro hl hb))
 obtain ⟨p,hp⟩ : ∃ p,p = w.heap.size:=⟨_,rfl⟩
 rw [<- hp] at H1
 have HP:=Lib.hid hp
 clear hr hl hb hb1 hm1
 go_enter Tryz.func46,Tryz.ntmps46
 go_wp2_with fail
 rw [<- hW,<- hp]
 clear hW hp
 go_loopw [10] (λ kv wr=>∃ i : Nat,i <= b.length /\ kv = .int .i64 i /\ Hid (MetAt p (metL b i) wr /\ Below p w wr /\ Only (λ k=>k = p) W wr)) (λ kv _=>b.length - (intOf kv).toNat)
 case atStart=>exact ⟨0,by omega,rfl,Lib.hid ⟨H1.out.2,by rw [HP.out]; have:=H1.out.1; rw [HP.out] at this; exact this,Only.refl _ _⟩⟩
 case round=>
  obtain ⟨i,hi,rfl,H⟩:=hrel
  by_cases hlt : i < b.length
  · have hB : Below w.heap.size w wr:=by have:=H.out.2.1; rw [HP.out] at this; exact this
    have hRr : (Kd.int .u8).C wr A b.length b:=Kd.C_below HR.out.1 hB
    have HAt:=Lib.hid (a5X A cp b i wr hRr hlt HR.out.2.1 HR.out.2.2)
    obtain ⟨c,hc,hc2⟩ : ∃ c : Nat,ctxI b (i : Nat) = c /\ c < 256:=by
     have:=b5a HR.out.2.2 hlt
     exact ⟨(ctxI b (i : Nat)).toNat,by omega,by omega⟩
    rw [hc] at HAt
    obtain ⟨mc,mf⟩:=H.out.1.cell (c:=c) (by rw [a6Y]; omega)
    have HN : Hid (metL b (i + 1) = (metL b i).set c true):=by show _ = _; rw [metL,hc,Int.toNat_natCast]
    have hl6 : b.length <= 1000000:=HR.out.2.1
    clear hc hRr hB
    go_wp2_with fail
    refine HAt.out.mono ?_
    rintro e w1 ⟨rfl,rfl⟩
    go_wp2_with fail
    go_roundw
    case rel=>exact ⟨i + 1,by omega,by go_num,Lib.hid ⟨by rw [HN.out]; exact H.out.1.set c,H.out.2.1.setCell (Nat.le_refl _) _,H.out.2.2.set1 _ _⟩⟩
    case measure=>simp [intOf]; omega
  · obtain rfl : i = b.length:=by omega
    have hld:=H.out.1.range
    obtain ⟨ms,hms⟩ : ∃ ms,ms = metL b b.length:=⟨_,rfl⟩
    have HMs : Hid (ms.length = 256 /\ ∀ c,c < 256 -> ms.getD c false = decide (0 < (a0n b (c : Int)).length)):=Lib.hid ⟨by rw [hms]; exact a6Y b _,λ c hc=>by rw [hms]; exact c5w HR.out.2.2 hc⟩
    rw [<- hms] at hld
    have HLd:=Lib.hid hld
    clear hms hld
    go_wp2_with fail
    refine wp_load_mid 121 (.tmp 3) rfl p 0 rfl (ms.map Value.bool) _ HLd.out Tryz.underlying121 rfl (by rw [c5r]; simp [HMs.out.1]) ?_
    go_wp2_with fail
    go_loopw [5,19] (λ v kv wr=>∃ c : Nat,c <= 256 /\ kv = .int .i64 c /\ Hid ((Kd.int .i64).R 3 wr w.heap.size (λ _=>True) v (presN b c) /\ Below w.heap.size w wr)) (λ _ kv _=>256 - (intOf kv).toNat)
    case atStart=>exact ⟨0,by omega,rfl,Lib.hid ⟨by have : presN b 0 = []:=rfl; rw [this]; exact Kd.R_nil _ _ _ _ _,by have:=H.out.2.1; rw [HP.out] at this; exact this⟩⟩
    case round=>
     obtain ⟨c,hc,rfl,G⟩:=hrel
     by_cases hlt : c < 256
     · have hix:=c5u ms HMs.out.1 c hlt
       have hmc:=HMs.out.2 c hlt
       obtain ⟨Av,cv,rfl⟩:=Kd.R_slice G.out.1
       have hpl:=a3Q b c
       have HLn : Hid (((presN b c).length + 1) * 8 <= 140737488355328):=by show _ <= _; omega
       obtain ⟨L,hL⟩ : ∃ L,L = presN b c:=⟨_,rfl⟩
       have hsucc:=a8p b c
       rw [<- hL] at G hpl HLn hsucc ⊢
       have HGB : Hid (Below w.heap.size w wr /\ w.heap.size <= wr.heap.size):=Lib.hid ⟨G.out.2,G.out.2.size⟩
       by_cases hp0 : 0 < (a0n b (c : Int)).length
       · rw [decide_eq_true hp0] at hmc
         rw [if_pos hp0] at hsucc
         rw [hmc] at hix
         have HS:=Lib.hid hsucc
         clear hmc hsucc hL hp0
         go_wp2_with (at_builtin; refine Kd.R_append (Kd.int .i64) (w0:=w) (W:=wr) w.heap.size rfl (.tmp 24) (.tmp 26) 47 3 (.int .i64 0) 8 rfl Tryz.underlying47 a4d rfl (by decide) (by decide) _ _ (c : Int) [.int .i64 c] (λ _=>True) (λ _=>False) rfl rfl rfl (λ _ h=>h.elim) (λ _ _=>trivial) G.out.1 HGB.out.1 HGB.out.2 HLn.out ?_; intro v1 w3 hr3 hb3 hg3 hat3; have HA:=Lib.hid (And.intro hr3 hb3); clear hr3 hb3 hg3 hat3)
         go_roundw
         case rel=>exact ⟨c + 1,by omega,by go_num,Lib.hid ⟨by rw [HS.out]; exact HA.out.1,HA.out.2⟩⟩
         case measure=>simp [intOf]; omega
       · rw [decide_eq_false hp0] at hmc
         rw [if_neg hp0] at hsucc
         rw [hmc] at hix
         have HS:=Lib.hid hsucc
         clear hmc hsucc hL hp0
         go_wp2_with fail
         go_roundw
         case rel=>exact ⟨c + 1,by omega,by go_num,Lib.hid ⟨by rw [HS.out]; exact G.out.1,G.out.2⟩⟩
         case measure=>simp [intOf]; omega
     · obtain rfl : c = 256:=by omega
       go_wp2_with fail
       go_ret
       exact ⟨_,rfl,G.out.1,G.out.2⟩
def widL (b : List Int) : List Int -> Nat
 | []=>0
 | c :: l=>max (manyC (histL (a0n b c))) (widL b l)
theorem a9i (b : List Int) (c : Int) : ∀ l : List Int,widL b (l ++ [c]) = max (widL b l) (manyC (histL (a0n b c)))
 | []=>by simp [widL]
 | x :: l=>by
  show max (manyC (histL (a0n b x))) (widL b (l ++ [c])) = max (max (manyC (histL (a0n b x))) (widL b l)) _
  rw [a9i b c l,Nat.max_assoc]
theorem b5d : manyC (histL []) = 0:=by decide +kernel
theorem a9j (b : List Int) : ∀ k,widL b (presN b k) = widN b k
 | 0=>rfl
 | k + 1=>by
  rw [a8p]
  show _ = max (widN b k) (manyC (histL (a0n b (k : Nat))))
  by_cases h : 0 < (a0n b (k : Int)).length
  · rw [if_pos h,a9i,a9j b k]
  · rw [if_neg h,a9j b k]
    have e : a0n b ((k : Nat) : Int) = []:=List.eq_nil_of_length_eq_zero (by omega)
    rw [e,b5d]; simp
theorem b5e (b : List Int) : ∀ l,widL b l <= 256
 | []=>by simp [widL]
 | c :: l=>by
  have:=b5e b l; have:=a4l (histL (a0n b c))
  simp only [widL]; omega
set_option maxRecDepth 100000 in
set_option maxHeartbeats 1000000 in
theorem c5x (A : Option Addr) (cp : Nat) (b : List Int) (w : World) (hr : (Kd.int .u8).C w A b.length b) (hl : b.length <= 1000000) (hb : Bytes b) :
    Calls Tryz.prog 96 #[.slice A b.length cp] w (Ret (.int .i64 (widN b 256 : Nat)) w):=by
 have HR:=Lib.hid (And.intro hr (And.intro hl hb))
 clear hr hl hb
 go_enter Tryz.func96,Tryz.ntmps96
 go_wp2_with fail
 refine (b5c A cp b w HR.out.1 HR.out.2.1 HR.out.2.2).mono ?_
 rintro e w1 ⟨v,rfl,hv,hb1⟩
 obtain ⟨A1,c1,rfl⟩:=Kd.R_slice hv
 have H1:=Lib.hid (And.intro (Kd.R_reads' hv).2.2 hb1)
 have hpl:=a3Q b 256
 obtain ⟨L,hL⟩ : ∃ L,L = presN b 256:=⟨_,rfl⟩
 have HL:=Lib.hid hL
 rw [<- hL] at H1 hpl ⊢
 clear hv hb1 hL
 go_wp2_with fail
 go_loopw [3,9] (λ mv kv wr=>∃ i : Nat,i <= L.length /\ kv = .int .i64 i /\ mv = .int .i64 (widL b (L.take i) : Nat) /\ Hid (Below w1.heap.size w1 wr)) (λ _ kv _=>L.length - (intOf kv).toNat)
 case atStart=>exact ⟨0,by omega,rfl,rfl,Lib.hid (Below.refl _ _)⟩
 case round=>
  obtain ⟨i,hi,rfl,rfl,H⟩:=hrel
  by_cases hlt : i < L.length
  · obtain ⟨ad,hA,hcx⟩:=a0C (Kd.C_below H1.out.1 H.out) i hlt
    subst hA
    have ht : L.take (i + 1) = L.take i ++ [L.getD i 0]:=by rw [List.take_succ_eq_append_getElem hlt,List.getD_eq_getElem?_getD,List.getElem?_eq_getElem hlt,Option.getD_some]
    obtain ⟨c,hc⟩ : ∃ c,c = L.getD i 0:=⟨_,rfl⟩
    rw [<- hc] at ht hcx
    obtain ⟨m,hm⟩ : ∃ m,m = widL b (L.take i):=⟨_,rfl⟩
    obtain ⟨k,hk⟩ : ∃ k,k = manyC (histL (a0n b c)):=⟨_,rfl⟩
    have hN : widL b (L.take (i + 1)) = max m k:=by rw [ht,a9i,<- hm,<- hk]
    have hm256 : m <= 256:=by rw [hm]; exact b5e _ _
    have hk256 : k <= 256:=by rw [hk]; exact a4l _
    have HN:=Lib.hid (And.intro hN hk)
    rw [<- hm]
    have hBw:=a0g H1.out.2 H.out
    have HFor:=Lib.hid (b4Z A cp b c wr (Kd.C_below HR.out.1 hBw) HR.out.2.1 HR.out.2.2)
    have HB:=Lib.hid H.out
    clear ht hc hm hN hk hBw
    go_wp2_with fail
    refine HFor.out.mono ?_
    rintro e w2 ⟨v2,rfl,hv2,hb2⟩
    obtain ⟨A2,c2,rfl⟩:=Kd.R_slice hv2
    have HV2:=Lib.hid (Kd.R_reads' hv2).2.2
    have HB2 : Hid (Below w1.heap.size w1 w2):=Lib.hid (a0g HB.out hb2)
    have HRi : Hid (a0N (histL (a0n b c)) = true):=Lib.hid (a4V _ (a6X HR.out.2.2 c) (by have:=a3P b c b.length; have:=HR.out.2.1; unfold a0n; omega))
    clear hv2 hb2
    go_wp2_with fail
    refine (a5e A2 c2 _ w2 HV2.out HRi.out).mono ?_
    rw [<- HN.out.2]
    rintro e w3 ⟨rfl,rfl⟩
    by_cases hmk : (m : Int) < (k : Int)
    · have HM : Hid (max m k = k):=by show _ = _; omega
      go_wp2_with fail
      go_roundw
      case rel=>exact ⟨i + 1,by omega,by go_num,by rw [HN.out.1,HM.out],HB2.out⟩
      case measure=>simp [intOf]; omega
    · have HM : Hid (max m k = m):=by show _ = _; omega
      go_wp2_with fail
      go_roundw
      case rel=>exact ⟨i + 1,by omega,by go_num,by rw [HN.out.1,HM.out],HB2.out⟩
      case measure=>simp [intOf]; omega
  · obtain rfl : i = L.length:=by omega
    have HE : Hid (widL b (L.take L.length) = widN b 256):=by show _ = _; rw [List.take_length,HL.out,a9j]
    rw [HE.out]
    go_wp2_with fail
    go_ret
    exact ⟨rfl,a0g H1.out.2 H.out⟩
end Go.Proofs.YtipjlneepponpaaGreat
namespace Go.Proofs.YtipjlneepponpaaGreat
open Go.RowKit Go.IntWalk Go.Proofs.YtipjlneepponpaaGreatW.PrintWords
set_option maxRecDepth 100000 in
theorem c5y (A : Option Addr) (cp p : Nat) (b : List Int) (k : Int) (w : World) (h : w.cell? ⟨p,0,none⟩ = some (.slice A b.length cp)) (hr : (Kd.int .u8).C w A b.length b) (hl : b.length <= 1000000) (hb : Bytes b) :
    Calls Tryz.prog 97 #[.int .i64 k,.pointer (some ⟨p,0,none⟩)] w (b4Y b k w):=by
 have HF:=Lib.hid (b4Z A cp b k w hr hl hb)
 clear hr hl hb
 go_enter Tryz.func97,Tryz.ntmps97
 go_wp2_with fail
 refine HF.out.mono ?_
 rintro e w1 ⟨v,rfl,hv,hb⟩
 have H1:=Lib.hid (And.intro hv hb)
 clear hv hb
 go_wp2_with fail
 go_ret
 exact ⟨v,rfl,H1.out.1,H1.out.2⟩
def a1P (b : List Int) (c : Nat) : List (List Int):=(List.range c).map (a1c b)
theorem b5f (b : List Int) (c : Nat) : a1P b (c + 1) = a1P b c ++ [a1c b c]:=by simp [a1P,List.range_succ]
theorem a6Z (b : List Int) (c : Nat) : (a1P b c).length = c:=by simp [a1P]
def FMade (b : List Int) (r : Nat) (m0 m1 base c : Nat) (w wr : World) : Prop:=∃ A1 c1,wr.heap[m1]? = some (.cells #[.int .i64 r,.bool false,.slice A1 c c1] 31 (0,0)) /\ wr.heap[m0]? = some (.cells #[.int .i64 0,.bool false,.slice none 0 0] 31 (0,0)) /\ kq.R 47 wr base (λ _=>True) (.slice A1 c c1) (a1P b c) /\ Below m0 w wr /\ base <= wr.heap.size
theorem FMade.next {b : List Int} {r m0 m1 base c : Nat} {w w6 : World} {A1 : Option Addr} {c1 : Nat} (hm : m0 < base /\ m1 < base /\ m0 ≠ m1 /\ m0 <= m1) (h0 : w6.heap[m0]? = some (.cells #[.int .i64 0,.bool false,.slice none 0 0] 31 (0,0)))
    (h1 : w6.heap[m1]? = some (.cells #[.int .i64 r,.bool false,.slice A1 c c1] 31 (0,0))) {A2 : Option Addr} {c2 : Nat} (hq : kq.R 47 w6 base (λ _=>True) (.slice A2 (c + 1) c2) (a1P b (c + 1))) (hb : Below m0 w w6) (hsz : base <= w6.heap.size) :
    FMade b r m0 m1 base (c + 1) w (w6.setCell ⟨m1,2,none⟩ (.slice A2 (c + 1) c2)):=by
 refine ⟨A2,c2,a0v h1 2 _,a1V h0 (p:=⟨m1,2,none⟩) hm.2.2.1 _,?_,hb.setCell hm.2.2.2 _,by simpa using hsz⟩
 refine Kd.R_mono (Kd.R_far (p:=⟨m1,2,none⟩) (Kd.R_bound hq) (λ k hk=>?_) _) (λ _ _=>trivial)
 show k ≠ m1
 have:=hk.2.1
 omega
set_option maxRecDepth 100000 in
set_option maxHeartbeats 4000000 in
theorem c5z (p cp : Nat) (A : Option Addr) (b : List Int) (w : World) (hp : w.heap[p]? = some (.cells #[.slice A b.length cp] 22 (0,0))) (hr : (Kd.int .u8).C w A b.length b) (hl : b.length <= 1000000) (hb : Bytes b) :
    Calls Tryz.prog 55 #[.int .i64 (a0o b : Nat),.int .i64 256,.func (Fn.func 97) #[] #[.pointer (some ⟨p,0,none⟩)]] w (MadeM (a0o b : Nat) false (a0y b) w):=by
 obtain ⟨r,hrr⟩ : ∃ r,r = a0o b:=⟨_,rfl⟩
 have HRR:=Lib.hid hrr
 rw [<- hrr]
 clear hrr
 obtain ⟨W2,hW2⟩ : ∃ W2,W2 = (w.alloc (.cells #[.int .i64 0,.bool false,.slice none 0 0] 31)).alloc (.cells #[.int .i64 r,.bool false,.slice none 0 0] 31):=⟨_,rfl⟩
 have hb2 : Below w.heap.size w W2:=by rw [hW2]; exact ((Below.refl w.heap.size w).alloc (Nat.le_refl _) _).alloc (by simp) _
 have hs2 : W2.heap.size = w.heap.size + 2:=by rw [hW2]; simp
 have hm1 : W2.heap[w.heap.size + 1]? = some (.cells #[.int .i64 r,.bool false,.slice none 0 0] 31 (0,0)):=by rw [hW2]; exact a2D _ _ _
 have hm0 : W2.heap[w.heap.size]? = some (.cells #[.int .i64 0,.bool false,.slice none 0 0] 31 (0,0)):=by rw [hW2]; exact a0r (a0m _ _) _
 have HPl : Hid (w.heap.size <= w.heap.size + 1):=Nat.le_succ _
 have H2:=Lib.hid (And.intro hb2 (And.intro hs2 (And.intro hm1 hm0)))
 have HP:=Lib.hid hp
 have HR:=Lib.hid (And.intro hr (And.intro hl hb))
 clear hp hr hl hb hb2 hs2 hm1 hm0
 go_enter Tryz.func55,Tryz.ntmps55
 go_wp2_with fail
 rw [<- hW2]
 clear hW2
 obtain ⟨m0,hm0⟩ : ∃ m0,m0 = w.heap.size:=⟨_,rfl⟩
 have HM0:=Lib.hid hm0
 rw [<- hm0] at H2 ⊢
 clear hm0
 obtain ⟨m1,hm1⟩ : ∃ m1,m1 = m0 + 1:=⟨_,rfl⟩
 have HM1:=Lib.hid hm1
 rw [<- hm1] at H2 ⊢
 clear hm1
 go_loopw [16] (λ kv wr=>∃ c : Nat,c <= 256 /\ kv = .int .i64 c /\ Hid (FMade b r m0 m1 W2.heap.size c w wr)) (λ kv _=>256 - (intOf kv).toNat)
 case atStart=>exact ⟨0,by omega,rfl,Lib.hid ⟨none,0,H2.out.2.2.1,H2.out.2.2.2,Kd.R_nil _ _ _ _ _,H2.out.1,Nat.le_refl _⟩⟩
 case round=>
  obtain ⟨c,hc,rfl,H⟩:=hrel
  by_cases hlt : c < 256
  · obtain ⟨A1,c1,h1,h2,h3,h4,h5⟩:=H.out
    have hbw : Below w.heap.size w wr:=by have:=h4; rw [HM0.out] at this; exact this
    have hpc : wr.cell? ⟨p,0,none⟩ = some (.slice A b.length cp):=(a0a (a0l HP.out hbw) 0).trans rfl
    have HF:=Lib.hid (c5y A cp p b c wr hpc (Kd.C_below HR.out.1 hbw) HR.out.2.1 HR.out.2.2)
    have HH:=Lib.hid (And.intro h1 (And.intro h2 (And.intro h3 (And.intro h4 h5))))
    have hmm : Hid (m0 < W2.heap.size /\ m1 < W2.heap.size /\ m0 ≠ m1 /\ m0 <= m1):=by
     have:=a0f H2.out.2.2.1; have:=a0f H2.out.2.2.2; have:=HM1.out
     exact Lib.hid (by omega)
    have HPk:=Lib.hid (a3P b (c : Int) b.length)
    have HOwn : Hid (∀ k,(Value.slice A1 c c1).ownBlock = some k -> W2.heap.size <= k /\ k < wr.heap.size):=Lib.hid λ k hk=>⟨Kd.R_base h3 k hk,Kd.R_lt h3 k hk⟩
    clear h1 h2 h3 h4 h5 hbw hpc H
    go_wp2_with fail
    refine HF.out.mono ?_
    rintro e w3 ⟨vl,rfl,hvl,hb3⟩
    obtain ⟨Al,cl,rfl⟩:=Kd.R_slice hvl
    have hhl : (histL (a0n b (c : Int))).length = 256:=a1s _
    have hrd:=(Kd.R_reads' hvl).2.2
    have hmany:=a5e Al cl (histL (a0n b (c : Int))) w3 hrd (a4V _ (a6X HR.out.2.2 c) (by have:=HPk.out; have:=HR.out.2.1; unfold a0n; omega))
    rw [hhl] at hrd hmany ⊢
    have HV:=Lib.hid hrd
    have HMa:=Lib.hid hmany
    have HB3:=Lib.hid hb3
    clear hvl hb3 hrd hmany hhl
    go_wp2_with fail
    refine HMa.out.mono ?_
    by_cases hp0 : 0 < (a0n b (c : Int)).length
    · have hmp : 0 < manyC (histL (a0n b (c : Int))):=b4J (a6X HR.out.2.2 c) (by have:=HPk.out; have:=HR.out.2.1; unfold a0n; omega) hp0
      have HCan:=Lib.hid (a4X HR.out.2.2 HR.out.2.1 hlt hp0)
      have HQ : Hid (a1c b c = normL (histL (a0n b (c : Int))) r):=by show _ = _; unfold a1c; rw [if_pos hp0,<- HRR.out]
      rw [<- HRR.out] at HCan
      obtain ⟨mn,hmn⟩ : ∃ mn,mn = manyC (histL (a0n b (c : Int))):=⟨_,rfl⟩
      rw [<- hmn] at hmp ⊢
      clear hmn hp0
      rintro e w' ⟨rfl,rfl⟩
      go_wp2_with fail
      refine (b4I Al cl _ r w3 HV.out HCan.out).mono ?_
      rintro e w5 ⟨vq,rfl,hq,hb5⟩
      rw [<- HQ.out] at hq
      obtain ⟨Aq,cq,rfl⟩:=Kd.R_slice hq
      obtain ⟨Q,hQ⟩ : ∃ Q,Q = a1c b c:=⟨_,rfl⟩
      rw [<- hQ] at hq ⊢
      have HQQ:=Lib.hid hQ
      obtain ⟨ql,hql⟩ : ∃ ql,ql = Q.length:=⟨_,rfl⟩
      rw [<- hql] at hq ⊢
      have HQr : Hid ((Kd.int .i64).R 3 w5 W2.heap.size (λ k=>wr.heap.size <= k) (.slice Aq ql cq) Q):=Lib.hid (Kd.R_mono (Kd.R_lower (Kd.R_bound hq) (Nat.le_trans HH.out.2.2.2.2 HB3.out.size)) (λ k hk=>by have:=hk.2.1; have:=HB3.out.size; omega))
      have hb35:=a0g HB3.out hb5
      have h15:=a0l HH.out.1 hb35
      have H05:=Lib.hid (a0l HH.out.2.1 hb35)
      obtain ⟨⟨ca,cb,cc⟩,fa,fb,fc⟩:=cell3 h15
      have H15:=Lib.hid h15
      have HB5:=Lib.hid hb35
      have hm1l:=a0f h15
      have hm1n : ¬ m1 = w5.heap.size:=by omega
      have hm1n' : ¬ w5.heap.size = m1:=by omega
      have HS5 : Hid (W2.heap.size <= w5.heap.size):=Lib.hid (Nat.le_trans HH.out.2.2.2.2 hb35.size)
      have HB5' : Hid (Below W2.heap.size w5 w5):=Below.refl _ _
      have HL : Hid (((a1P b c).length + 1) * 24 <= 140737488355328):=by show _ <= _; rw [a6Z]; omega
      have HO5:=Lib.hid (Kd.R_below HH.out.2.2.1 hb35)
      clear hq hb5 h15 hql hQ hb35
      go_wp2_with (at_builtin; refine Kd.R_append kq (w0:=w5) (W:=w5) W2.heap.size rfl (.tmp 32) (.tmp 34) 29 47 (.slice none 0 0) 24 rfl Tryz.underlying29 a6z rfl (by decide) (by decide) (.slice A1 c c1) (a1P b c) Q [.slice Aq ql cq] (λ _=>True) (λ k=>wr.heap.size <= k) rfl (by simp [go_sem]) ⟨_,rfl,HQr.out⟩ (λ k hk=>⟨trivial,λ e=>by have:=(HOwn.out k e.symm).2; omega⟩) (λ _ _=>trivial) HO5.out HB5'.out HS5.out HL.out ?_; intro v1 w6 hr6 hb6 hg6 hat6; have h16:=a0Z H15.out hg6 (λ e=>by have:=(HOwn.out _ e.symm).1; have:=hmm.out; omega); have H16:=Lib.hid h16; have H06:=Lib.hid (a0Z H05.out hg6 (λ e=>by have:=(HOwn.out _ e.symm).1; have:=hmm.out; omega)); obtain ⟨⟨da,db,dc⟩,ga,gb,gc⟩:=cell3 h16; obtain ⟨A2,c2,rfl⟩:=Kd.R_slice hr6; have hlen : (a1P b c ++ [Q]).length = c + 1:=(by rw [List.length_append,a6Z]; rfl); rw [hlen] at hr6; have HR6:=Lib.hid hr6; have HB6:=Lib.hid hb6; rw [hlen]; clear hr6 hb6 hg6 hat6 h16 hlen)
      go_roundw
      case rel=>
       refine ⟨c + 1,by omega,by go_num,Lib.hid (FMade.next hmm.out H06.out H16.out ?_ ?_ (Nat.le_trans HS5.out HB6.out.size))⟩
       · rw [b5f,<- HQQ.out]; exact HR6.out
       · have hm:=hmm.out
         have hs:=HH.out.2.2.2.2
         exact (HH.out.2.2.2.1.trans (HB5.out.mono (by omega))).trans (HB6.out.mono (by omega))
      case measure=>simp [intOf]; omega
    · have hpe : a0n b (c : Int) = []:=List.eq_nil_of_length_eq_zero (by omega)
      rw [hpe,b5d]
      have HQ : Hid (a1c b c = []):=by show _ = _; unfold a1c; rw [if_neg hp0]
      clear hp0 hpe
      rintro e w' ⟨rfl,rfl⟩
      have h15:=a0l HH.out.1 HB3.out
      have H05:=Lib.hid (a0l HH.out.2.1 HB3.out)
      obtain ⟨⟨ca,cb,cc⟩,fa,fb,fc⟩:=cell3 h15
      have H15:=Lib.hid h15
      have hm1l:=a0f h15
      have hm1n : ¬ m1 = w3.heap.size:=by omega
      have hm1n' : ¬ w3.heap.size = m1:=by omega
      have HS5 : Hid (W2.heap.size <= w3.heap.size):=Lib.hid (Nat.le_trans HH.out.2.2.2.2 HB3.out.size)
      have HB5' : Hid (Below W2.heap.size w3 w3):=Below.refl _ _
      have HL : Hid (((a1P b c).length + 1) * 24 <= 140737488355328):=by show _ <= _; rw [a6Z]; omega
      have HO5:=Lib.hid (Kd.R_below HH.out.2.2.1 HB3.out)
      clear h15
      go_wp2_with (at_builtin; refine Kd.R_append kq (w0:=w3) (W:=w3) W2.heap.size rfl (.tmp 32) (.tmp 34) 29 47 (.slice none 0 0) 24 rfl Tryz.underlying29 a6z rfl (by decide) (by decide) (.slice A1 c c1) (a1P b c) [] [.slice none 0 0] (λ _=>True) (λ _=>False) rfl (by simp [go_sem]) ⟨_,rfl,Kd.R_nil _ _ _ _ _⟩ (λ _ h=>h.elim) (λ _ _=>trivial) HO5.out HB5'.out HS5.out HL.out ?_; intro v1 w6 hr6 hb6 hg6 hat6; have h16:=a0Z H15.out hg6 (λ e=>by have:=(HOwn.out _ e.symm).1; have:=hmm.out; omega); have H16:=Lib.hid h16; have H06:=Lib.hid (a0Z H05.out hg6 (λ e=>by have:=(HOwn.out _ e.symm).1; have:=hmm.out; omega)); obtain ⟨⟨da,db,dc⟩,ga,gb,gc⟩:=cell3 h16; obtain ⟨A2,c2,rfl⟩:=Kd.R_slice hr6; have hlen : (a1P b c ++ [([] : List Int)]).length = c + 1:=(by rw [List.length_append,a6Z]; rfl); rw [hlen] at hr6; have HR6:=Lib.hid hr6; have HB6:=Lib.hid hb6; rw [hlen]; clear hr6 hb6 hg6 hat6 h16 hlen)
      go_roundw
      case rel=>
       refine ⟨c + 1,by omega,by go_num,Lib.hid (FMade.next hmm.out H06.out H16.out ?_ ?_ (Nat.le_trans HS5.out HB6.out.size))⟩
       · rw [b5f,HQ.out]; exact HR6.out
       · have hm:=hmm.out
         have hs:=HH.out.2.2.2.2
         exact (HH.out.2.2.2.1.trans (HB3.out.mono (by omega))).trans (HB6.out.mono (by omega))
      case measure=>simp [intOf]; omega
  · obtain rfl : c = 256:=by omega
    obtain ⟨A1,c1,h1,h2,h3,h4,h5⟩:=H.out
    obtain ⟨⟨ca,cb,cc⟩,fa,fb,fc⟩:=cell3 h1
    obtain ⟨⟨da,db,dc⟩,ga,gb,gc⟩:=cell3 h2
    have HH:=Lib.hid (And.intro h2 (And.intro h3 (And.intro h4 h5)))
    clear h1 h2 h3 h4 h5 H
    go_wp2_with fail
    have hmm : m0 < W2.heap.size:=a0f H2.out.2.2.2
    refine bodyPost_ret (results_cell_row (fn:=Tryz.f55) (p:=6) (ty:=31) rfl _ _ _ _ _ _ _ rfl (a1D HH.out.1 _ _ _) Tryz.underlying31 rfl a4Y) rfl ?_
    have hw0:=HM0.out
    subst hw0
    refine ⟨_,rfl,?_,((HH.out.2.2.1.setCell (Nat.le_refl _) _).setCell (Nat.le_refl _) _).setCell (Nat.le_refl _) _⟩
    have e : a1P b 256 = a0y b:=rfl
    have h4 : kq.R 47 wr w.heap.size (λ k=>k ≠ w.heap.size) (.slice A1 256 c1) (a0y b):=Kd.R_mono (Kd.R_lower (Kd.R_bound HH.out.2.1) (by omega)) (λ k hk=>by have:=hk.2.1; omega)
    exact Kd.R_mono (a2E h4 _ _ _) (λ _ _=>trivial)
def b5g (b : List Int) (w : World) (e : Ending) (w' : World) : Prop:=
 (b.length = 0 /\ e = .returned (.tuple #[.agg #[.int .i64 0,.bool false,.slice none 0 0],.int .i64 1]) /\ Below w.heap.size w w') \/
 (0 < b.length /\ ∃ Av cv,e = .returned (.tuple #[.agg #[.int .i64 (a0o b : Nat),.bool false,.slice Av 256 cv],.int .i64 0]) /\ kq.R 47 w' w.heap.size (λ _=>True) (.slice Av 256 cv) (a0y b) /\ Below w.heap.size w w')
set_option maxRecDepth 100000 in
theorem c5A (A : Option Addr) (cp : Nat) (w : World) : Calls Tryz.prog 44 #[.slice A 0 cp] w (b5g [] w):=by
 obtain ⟨W1,hW1⟩ : ∃ W1,W1 = (w.alloc (.cells #[.slice A 0 cp] 22)).alloc (.cells #[.int .i64 0,.bool false,.slice none 0 0] 31):=⟨_,rfl⟩
 have hb1 : Below w.heap.size w W1:=by rw [hW1]; exact ((Below.refl w.heap.size w).alloc (Nat.le_refl _) _).alloc (by simp) _
 have hk1 : W1.heap[w.heap.size + 1]? = some (.cells #[.int .i64 0,.bool false,.slice none 0 0] 31 (0,0)):=by rw [hW1]; exact a2D _ _ _
 have hk0 : W1.heap[w.heap.size]? = some (.cells #[.slice A 0 cp] 22 (0,0)):=by rw [hW1]; exact a0r (a0m _ _) _
 have hc0 : W1.cell? ⟨w.heap.size,0,none⟩ = some (.slice A 0 cp):=(a0a hk0 0).trans rfl
 obtain ⟨m,hm⟩ : ∃ m,m = w.heap.size + 1:=⟨_,rfl⟩
 have HM:=Lib.hid hm
 rw [<- hm] at hk1
 obtain ⟨⟨ca,cb,cc⟩,fa,fb,fc⟩:=cell3 hk1
 have HB:=Lib.hid hb1
 have HK:=Lib.hid hk1
 clear hb1 hk1 hk0
 go_enter Tryz.func44,Tryz.ntmps44
 go_wp2_with fail
 rw [<- hW1,<- hm]
 clear hW1 hm
 go_wp2_with fail
 refine bodyPost_ret (a6V (fn:=Tryz.f44) (p:=2) (u:=3) (ty:=31) rfl _ _ _ _ rfl (a1E HK.out)) rfl ?_
 exact .inl ⟨rfl,rfl,HB.out⟩
theorem a4w {w w' : World} {m j : Nat} {c : Value} (hb : Below w.heap.size w w') (hc : w.cell? ⟨m,j,none⟩ = some c) (hf : w.frozen? ⟨m,j,none⟩ = false) : w'.frozen? ⟨m,j,none⟩ = false:=by
 rw [hb.frozen (p:=⟨m,j,none⟩) (World.block_lt_of_cell? w _ hc)]; exact hf
def SF (W1 : World) (p m n cp : Nat) (A : Option Addr) (W : World) : Prop:=Below W1.heap.size W1 W /\ W.cell? ⟨p,0,none⟩ = some (.slice A n cp) /\ W.cell? ⟨m,0,none⟩ = some (.int .i64 0) /\ W.cell? ⟨m,1,none⟩ = some (.bool false) /\ W.cell? ⟨m,2,none⟩ = some (.slice none 0 0) /\ W.frozen? ⟨m,0,none⟩ = false /\ W.frozen? ⟨m,1,none⟩ = false /\ W.frozen? ⟨m,2,none⟩ = false
theorem SF.keep {W1 W w' : World} {p m n cp : Nat} {A : Option Addr} (h : SF W1 p m n cp A W) (hb : Below W.heap.size W w') : SF W1 p m n cp A w':=
 ⟨a0g h.1 hb,a0t hb h.2.1,a0t hb h.2.2.1,a0t hb h.2.2.2.1,a0t hb h.2.2.2.2.1,a4w hb h.2.2.1 h.2.2.2.2.2.1,a4w hb h.2.2.2.1 h.2.2.2.2.2.2.1,a4w hb h.2.2.2.2.1 h.2.2.2.2.2.2.2⟩
theorem SF.drew {W1 W : World} {p m n cp : Nat} {A : Option Addr} (h : SF W1 p m n cp A W) : SF W1 p m n cp A W.drew:=
 ⟨h.1.drew,h.2.1,h.2.2.1,h.2.2.2.1,h.2.2.2.2.1,h.2.2.2.2.2.1,h.2.2.2.2.2.2.1,h.2.2.2.2.2.2.2⟩
set_option maxRecDepth 100000 in
set_option maxHeartbeats 4000000 in
theorem b5h (A : Option Addr) (cp : Nat) (b : List Int) (w : World) (hr : (Kd.int .u8).C w A b.length b) (hb : Bytes b) (hl : b.length <= 1000000) (h0 : 0 < b.length) :
    Calls Tryz.prog 44 #[.slice A b.length cp] w (b5g b w):=by
 have hne : ((b.length : Int) == 0) = false:=by simp; intro e; subst e; simp at h0
 have hne2 : ¬ b = []:=by intro e; subst e; simp at h0
 obtain ⟨n,hn⟩ : ∃ n,n = b.length:=⟨_,rfl⟩
 rw [<- hn] at hne
 obtain ⟨W1,hW1⟩ : ∃ W1,W1 = (w.alloc (.cells #[.slice A n cp] 22)).alloc (.cells #[.int .i64 0,.bool false,.slice none 0 0] 31):=⟨_,rfl⟩
 have hb1 : Below w.heap.size w W1:=by rw [hW1]; exact ((Below.refl w.heap.size w).alloc (Nat.le_refl _) _).alloc (by simp) _
 have hk1 : W1.heap[w.heap.size + 1]? = some (.cells #[.int .i64 0,.bool false,.slice none 0 0] 31 (0,0)):=by rw [hW1]; exact a2D _ _ _
 have hk0 : W1.heap[w.heap.size]? = some (.cells #[.slice A n cp] 22 (0,0)):=by rw [hW1]; exact a0r (a0m _ _) _
 have hc0 : W1.cell? ⟨w.heap.size,0,none⟩ = some (.slice A n cp):=(a0a hk0 0).trans rfl
 obtain ⟨m,hm⟩ : ∃ m,m = w.heap.size + 1:=⟨_,rfl⟩
 have HM:=Lib.hid hm
 rw [<- hm] at hk1
 obtain ⟨p,hp⟩ : ∃ p,p = w.heap.size:=⟨_,rfl⟩
 have HPp:=Lib.hid hp
 rw [<- hp] at hk0 hc0
 obtain ⟨⟨ca,cb,cc⟩,fa,fb,fc⟩:=cell3 hk1
 have s0 : SF W1 p m n cp A W1:=⟨Below.refl _ _,hc0,ca,cb,cc,fa,fb,fc⟩
 have HK:=Lib.hid (And.intro hk1 hk0)
 have hrz:=a2q b
 have HX:=Lib.hid (And.intro hb (And.intro hl (And.intro h0 (And.intro hb1 hn))))
 have HR1:=Lib.hid (Kd.C_below hr hb1)
 have hW256:=a6r b 256
 obtain ⟨wd,hwd⟩ : ∃ wd,wd = widN b 256:=⟨_,rfl⟩
 have hw256 : wd <= 256:=by omega
 have HWd:=Lib.hid hwd
 have hn6 : n <= 1000000:=by omega
 have HCW : Hid (∀ W : World,Below W1.heap.size W1 W -> Calls Tryz.prog 96 #[.slice A n cp] W λ e w'=>e = .returned (.int .i64 wd) /\ Below W.heap.size W w'):=Lib.hid λ W hW=>by
  have:=c5x A cp b W (Kd.C_below HR1.out hW) hl hb
  rw [<- hn,<- hwd] at this; exact this
 obtain ⟨rz,hrz1⟩ : ∃ rz,rz = a0o b:=⟨_,rfl⟩
 have HRZ:=Lib.hid hrz1
 have hpk : pickI n wd 9 = (rz : Int):=by rw [hn,hwd,hrz1]; exact hrz.1
 have HPk : Hid (∀ W : World,Calls Tryz.prog 56 #[.int .i64 n,.int .i64 wd,.int .i64 9] W λ e w'=>e = .returned (.int .i64 rz) /\ Below W.heap.size W w'):=Lib.hid λ W=>by
  have:=b4F n wd 9 W hn6 (by omega)
  rw [hpk] at this; exact this
 have HMd : Hid (∀ W : World,Below W1.heap.size W1 W -> Calls Tryz.prog 55 #[.int .i64 rz,.int .i64 256,.func (Fn.func 97) #[] #[.pointer (some ⟨p,0,none⟩)]] W λ e w'=>∃ Av cv,e = .returned (.agg #[.int .i64 rz,.bool false,.slice Av 256 cv]) /\ kq.R 47 w' W1.heap.size (λ _=>True) (.slice Av 256 cv) (a0y b) /\ Below W.heap.size W w'):=Lib.hid λ W hW=>by
  have h7:=a0l hk0 hW
  rw [hn] at h7
  have:=c5z p cp A b W h7 (Kd.C_below HR1.out hW) hl hb
  rw [<- hrz1] at this
  refine this.mono ?_
  rintro e w' ⟨v,rfl,hv,hb⟩
  obtain ⟨Av,cv,rfl⟩:=Kd.R_slice hv
  rw [a6x] at hv ⊢
  exact ⟨Av,cv,rfl,Kd.R_lower hv hW.size,hb⟩
 have hmf : ∀ (fn : Fn) (first cap : Array Value) (w : World),(Instr.makeFunc fn first cap).run Tryz.prog w = .ok (.func fn first cap) w:=λ _ _ _ _=>rfl
 rw [<- hn]
 clear hr hb hl h0 hb1 hk1 hk0 hn hrz hwd hrz1 hpk hW256
 go_enter Tryz.func44,Tryz.ntmps44
 go_wp2_with fail
 rw [<- hW1,<- hm,<- hp]
 clear hW1 hm hp
 go_wp2_with fail
 go_region_law (first
  | (go_simp; go_at_call 96; refine (HCW.out _ (by first | exact And.left ‹SF _ _ _ _ _ _ _› | exact (SF.drew ‹SF _ _ _ _ _ _ _›).1)).mono ?_; rintro e w' ⟨rfl,hb⟩; have s1:=(by first | exact SF.keep ‹_› hb | exact SF.keep (SF.drew ‹_›) hb : SF W1 p m n cp A w'); obtain ⟨g0,g1,g2,g3,g4,g5,g6,g7⟩:=id s1)
  | (go_simp; go_at_call 56; refine (HPk.out _).mono ?_; rintro e w' ⟨rfl,hb⟩; have s1:=(by first | exact SF.keep ‹_› hb | exact SF.keep (SF.drew ‹_›) hb : SF W1 p m n cp A w'); obtain ⟨g0,g1,g2,g3,g4,g5,g6,g7⟩:=id s1)
  | (go_simp; go_at_call 55; refine (HMd.out _ (by first | exact And.left ‹SF _ _ _ _ _ _ _› | exact (SF.drew ‹SF _ _ _ _ _ _ _›).1)).mono ?_; rintro e w' ⟨Av,cv,rfl,hv,hb⟩; have s1:=(by first | exact SF.keep ‹_› hb | exact SF.keep (SF.drew ‹_›) hb : SF W1 p m n cp A w'); obtain ⟨g0,g1,g2,g3,g4,g5,g6,g7⟩:=id s1))
 all_goals
  have HV:=Lib.hid hv
  have HS:=Lib.hid s1
  go_wp2_with fail
  refine bodyPost_ret (a6V (fn:=Tryz.f44) (p:=2) (u:=3) (ty:=31) rfl _ _ _ _ rfl (a1E (a1D (a0l HK.out.1 HS.out.1) _ _ _))) rfl ?_
  have hle : w.heap.size <= m:=by have:=HM.out; omega
  have hlt : m < W1.heap.size:=a0f HK.out.1
  have hB : Below w.heap.size w w':=a0g HX.out.2.2.2.1 HS.out.1
  have h4 : kq.R 47 w' w.heap.size (λ k=>k ≠ m) (.slice Av 256 cv) (a0y b):=Kd.R_mono (Kd.R_lower (Kd.R_bound HV.out) (by omega)) (λ k hk=>by have:=hk.2.1; omega)
  exact .inr ⟨HX.out.2.2.1,Av,cv,(by rw [<- HRZ.out]; rfl),Kd.R_mono (a2E h4 _ _ _) (λ _ _=>trivial),((hB.setCell hle _).setCell hle _).setCell hle _⟩
theorem b5i {b : List Int} (hb : Bytes b) (hl : b.length <= 1000000) : ∀ c ∈ presN b 256,Nrm ((a0y b).getD c.toNat []) (a0o b):=by
 intro c hc
 have hr:=a2q b
 obtain ⟨i,hi,e⟩:=a6O hc
 obtain ⟨c',h1,h2,h3⟩:=a6D b hi
 have : c = (c' : Int):=by rw [<- e,h1]
 subst this
 rw [Int.toNat_natCast,a6y b h2]
 obtain ⟨n1,n2,n3⟩:=a6N hb hl h2 h3
 exact ⟨n1,n2,n3,by omega,by omega⟩
def SLater (W1 W : World) : Prop:=Below W1.heap.size W1 W
theorem SLater.keep {W1 W w' : World} (h : SLater W1 W) (hb : Below W.heap.size W w') : SLater W1 w':=a0g h hb
theorem SLater.drew {W1 W : World} (h : SLater W1 W) : SLater W1 W.drew:=Below.drew h
def c5B (b : List Int) (w : World) (e : Ending) (w' : World) : Prop:=∃ v,e = .returned (.tuple #[v,.int .i64 0]) /\ (Kd.int .u8).R 5 w' w.heap.size (λ _=>True) v (a1b b) /\ Below w.heap.size w w'
set_option maxRecDepth 100000 in
theorem c5C (A : Option Addr) (cp : Nat) (w : World) : Calls Tryz.prog 17 #[.slice A 0 cp] w (λ e w'=>e = .returned (.tuple #[.slice none 0 0,.int .i64 1]) /\ Below w.heap.size w w'):=by
 have HZ:=Lib.hid (c5A A cp w)
 go_enter Tryz.func17,Tryz.ntmps17
 go_wp2_with fail
 refine HZ.out.mono ?_
 rintro e w1 (⟨_,rfl,hb1⟩ | ⟨h,_⟩)
 · have HB1:=Lib.hid hb1
   clear hb1
   go_wp2_with fail
   go_ret2
   exact ⟨rfl,HB1.out.alloc HB1.out.size _⟩
 · cases h
set_option maxRecDepth 100000 in
set_option maxHeartbeats 4000000 in
theorem c5D (A : Option Addr) (cp : Nat) (b : List Int) (w : World) (hr : (Kd.int .u8).C w A b.length b) (hb : Bytes b) (hl : b.length <= 40000) (h0 : 0 < b.length) :
    Calls Tryz.prog 17 #[.slice A b.length cp] w (c5B b w):=by
 have HR:=Lib.hid (And.intro hr (And.intro hb (And.intro hl h0)))
 have HCan : Hid (canM (a0o b : Nat) false (a0y b) b = true):=a3p (one:=false) hb (by omega) h0
 have HZ:=Lib.hid (b5h A cp b w hr hb (by omega) h0)
 have HRok:=Lib.hid (a2q b)
 have HFit:=Lib.hid (a3n (a3o HCan.out).1 hb)
 have HNr:=Lib.hid (b5i hb (by omega : b.length <= 1000000))
 obtain ⟨r,hr'⟩ : ∃ r,r = a0o b:=⟨_,rfl⟩
 obtain ⟨q,hq'⟩ : ∃ q,q = a0y b:=⟨_,rfl⟩
 have HQl : Hid (q.length = 256):=Lib.hid (by rw [hq']; exact a6x b)
 have HRQ:=Lib.hid (And.intro hr' hq')
 rw [<- hr',<- hq'] at HCan HFit HNr
 rw [<- hr'] at HRok
 obtain ⟨L,hL⟩ : ∃ L,L = presN b 256:=⟨_,rfl⟩
 have HL : Hid (L = presN b 256 /\ Asc L /\ L.length <= 256):=Lib.hid ⟨hL,by rw [hL]; exact b4a h0,by rw [hL]; exact a3Q b 256⟩
 rw [<- hL] at HNr
 clear hr hb hl h0 hL
 go_enter Tryz.func17,Tryz.ntmps17
 go_wp2_with fail
 refine HZ.out.mono ?_
 rintro e w1 (⟨h,_⟩ | ⟨_,Av,cv,rfl,hv,hb1⟩)
 · have:=HR.out.2.2.2; omega
 rw [<- hr']
 rw [<- hq'] at hv
 have HV:=Lib.hid (Kd.R_reads' hv).2.2
 have HB1:=Lib.hid hb1
 clear hv hb1 hr' hq'
 obtain ⟨w2,hw2⟩ : ∃ w2,w2 = w1.alloc (.cells #[.int .i64 r,.bool false,.slice Av 256 cv] 31):=⟨_,rfl⟩
 have HB2 : Hid (Below w.heap.size w w2):=Lib.hid (by rw [hw2]; exact HB1.out.alloc HB1.out.size _)
 have HV2 : Hid (kq.C w2 Av q.length q):=Lib.hid (by rw [hw2]; exact Kd.C_alloc HV.out _)
 have hk2 : w2.heap[w1.heap.size]? = some (.cells #[.int .i64 r,.bool false,.slice Av 256 cv] 31 (0,0)):=by rw [hw2]; exact a0m _ _
 obtain ⟨mb,hmb⟩ : ∃ mb,mb = w1.heap.size:=⟨_,rfl⟩
 rw [<- hmb] at hk2
 have HK2:=Lib.hid hk2
 clear hk2
 have HEnc:=b2E (r : Nat) false Av cv q A cp b w2 HV2.out (by have:=HQl.out; omega) (Kd.C_below HR.out.1 HB2.out) HR.out.2.1 (by have:=HR.out.2.2.1; omega)
 rw [HQl.out] at HEnc
 have HE:=Lib.hid HEnc
 clear HEnc
 go_wp2_with fail
 rw [<- hw2,<- hmb]
 clear hw2 hmb
 refine HE.out.mono ?_
 rintro e w3 ⟨_,h2,hb3⟩
 obtain ⟨vp,rfl,hvp⟩:=h2 HCan.out
 obtain ⟨Ap,cpp,rfl⟩:=Kd.R_slice hvp
 have HB3 : Hid (Below w.heap.size w w3):=Lib.hid (HB2.out.trans (hb3.mono HB2.out.size))
 have hk3:=a0l HK2.out hb3
 have HV3 : Hid (kq.C w3 Av q.length q):=Lib.hid (Kd.C_below HV2.out hb3)
 have HP3:=Lib.hid (Kd.R_reads' hvp).2.2
 obtain ⟨Pl,hPl⟩ : ∃ Pl,Pl = packB (a0M (r : Nat) false q b ++ [true]):=⟨_,rfl⟩
 have HPl:=Lib.hid hPl
 rw [<- hPl] at HP3 ⊢
 have HPlen : Hid (Pl.length <= 700000):=Lib.hid (by
  rw [hPl,a0x,List.length_append]
  have:=HFit.out; have:=HR.out.2.2.1; simp only [List.length_singleton]; omega)
 have HK3:=Lib.hid hk3
 obtain ⟨⟨ka,kb,kc⟩,-⟩:=cell3 hk3
 have s0 : SLater w3 w3:=Below.refl _ _
 have HPres : Hid (∀ W : World,SLater w3 W -> Calls Tryz.prog 46 #[.slice A b.length cp] W λ e w'=>∃ Al cl,e = .returned (.slice Al L.length cl) /\ (Kd.int .i64).C w' Al L.length L /\ Below W.heap.size W w'):=Lib.hid λ W hW=>by
  refine (b5c A cp b W (Kd.C_below HR.out.1 (HB3.out.trans (Below.mono hW HB3.out.size))) (by have:=HR.out.2.2.1; omega) HR.out.2.1).mono ?_
  rintro e w' ⟨v,rfl,hv,hb⟩
  obtain ⟨Al,cl,rfl⟩:=Kd.R_slice hv
  rw [<- HL.out.1] at hv ⊢
  exact ⟨Al,cl,rfl,(Kd.R_reads' hv).2.2,hb⟩
 have HHead : Hid (∀ (W : World) (Al : Option Addr) (cl : Nat),SLater w3 W -> (Kd.int .i64).C W Al L.length L -> Calls Tryz.prog 45 #[.agg #[.int .i64 r,.bool false,.slice Av 256 cv],.slice Al L.length cl] W λ e w'=>∃ Ah ch,e = .returned (.slice Ah (a3r r q L).length ch) /\ (Kd.int .u8).R 5 w' w3.heap.size (λ _=>True) (.slice Ah (a3r r q L).length ch) (a3r r q L) /\ Below W.heap.size W w'):=Lib.hid λ W Al cl hW hC=>by
  refine (c5n r cv cl Av Al q L W (Kd.C_below HV3.out hW) HQl.out hC HL.out.2.1 HL.out.2.2 (by have:=HRok.out; omega) HNr.out).mono ?_
  rintro e w' ⟨v,rfl,hv,hb⟩
  obtain ⟨Ah,ch,rfl⟩:=Kd.R_slice hv
  exact ⟨Ah,ch,rfl,Kd.R_lower hv (Below.size hW),hb⟩
 have HHl : Hid ((a3r r q L).length <= 200000):=Lib.hid (by
  have h1:=a4v (r:=r) (qs:=q) (by have:=HRok.out; omega) L HNr.out
  have h2:=HL.out.2.2
  unfold a3r
  rw [List.length_append,List.length_append,a2F,a0x,List.length_singleton]; omega)
 obtain ⟨Hd,hHd⟩ : ∃ Hd,Hd = a3r r q L:=⟨_,rfl⟩
 rw [<- hHd] at HHead HHl
 have HHd:=Lib.hid hHd
 have HLn : Hid ((Hd.length + Pl.length) * 1 <= 140737488355328):=Lib.hid (by have:=HHl.out; have:=HPlen.out; omega)
 clear h2 hb3 hvp hk3 hPl hHd
 go_wp2_with fail
 go_region_law (first
  | (go_simp; go_at_call 46; refine (HPres.out _ (by first | assumption | exact SLater.drew ‹_›)).mono ?_; rintro e w' ⟨Al,cl,rfl,hcl,hb⟩; have s1:=(by first | exact SLater.keep ‹_› hb | exact SLater.keep (SLater.drew ‹_›) hb : SLater w3 w'); obtain ⟨⟨ka,kb,kc⟩,-⟩:=cell3 (a0l HK3.out s1))
  | (go_simp; go_at_call 45; refine (HHead.out _ _ _ (by first | assumption | exact SLater.drew ‹_›) (by first | assumption | exact Kd.C_drew ‹_›)).mono ?_; rintro e w' ⟨Ah,ch,rfl,hvh,hb⟩; have s1:=(by first | exact SLater.keep ‹_› hb | exact SLater.keep (SLater.drew ‹_›) hb : SLater w3 w'); have HVH:=Lib.hid (And.intro hvh s1); clear hvh hb)
  | (refine Kd.R_append_rows_step (Kd.int .u8) (Rr:=(Kd.int .u8).K w') (w0:=w) (W:=w') w.heap.size rfl (.tmp 27) (.tmp 28) 22 5 (.int .u8 0) 1 rfl Tryz.underlying22 a1p rfl (by decide) (by decide) _ Hd Pl Ap Pl.length cpp (λ _=>True) (λ _=>False) rfl rfl (Kd.R_lower HVH.out.1 HB3.out.size) (Kd.C_below HP3.out HVH.out.2) (λ _ _ h=>h) (λ _ h=>h.elim) (λ _ _=>trivial) (HB3.out.trans (Below.mono HVH.out.2 HB3.out.size)) (Nat.le_trans HB3.out.size (Below.size HVH.out.2)) HLn.out ?_; intro v9 w9 hr9 hb9 hg9 hat9; have HA:=Lib.hid (And.intro hr9 hb9); clear hr9 hb9 hg9 hat9))
 all_goals
  go_wp2_with fail
  go_ret2
  refine ⟨v9,rfl,?_,HA.out.2⟩
  have h9:=HA.out.1
  have e : a1b b = Hd ++ Pl:=by unfold a1b; rw [HHd.out,HPl.out,HRQ.out.1,HRQ.out.2,HL.out.1]; rfl
  rw [e]; exact h9
theorem b5j (A : Option Addr) (cp : Nat) (b : List Int) (w : World) (hr : (Kd.int .u8).C w A b.length b) (hb : Bytes b) (hl : b.length <= 40000) (h0 : 0 < b.length) :
    Calls Tryz.prog 17 #[.slice A b.length cp] w (Told 0 (a1b b) w):=by
 refine (c5D A cp b w hr hb hl h0).mono ?_
 rintro e w' ⟨v,rfl,hv,hbl⟩
 obtain ⟨A1,c1,rfl⟩:=Kd.R_slice hv
 exact ⟨A1,c1,rfl,hv,hbl⟩
end Go.Proofs.YtipjlneepponpaaGreat
namespace Go.Proofs.YtipjlneepponpaaGreat
open Go.RowKit Go.IntWalk Go.Proofs.YtipjlneepponpaaGreatW.PrintWords
attribute [local go_sem] Oper.semAt_some
def a4z : Code := (Code.region 5 #[{ dst := some 5, op := Op.assign (Operand.tmp 12), type := 3, pos := "dir.go:52", after := #[], guard := none }] false)
def a4A : Code := (Code.block 1 (((Code.region 6 #[{ dst := some 13, op := Op.load 47 (Operand.tmp 4), type := 47, pos := "dir.go:53", after := #[], guard := none }, { dst := some 14, op := Op.call { callee := Callee.builtin Builtin.len, args := #[Operand.tmp 13], argTypes := #[47] }, type := 3, pos := "dir.go:53", after := #[{ on := 0, ground := Ground.data }], guard := none }, { dst := some 15, op := Op.binOp BinOp.eql 3 (Operand.tmp 14) (Operand.const (Value.int IntKind.i64 0)) 3, type := 4, pos := "dir.go:53", after := #[{ on := 1, ground := Ground.data }], guard := none }, { dst := some 16, op := Op.move (Operand.tmp 15), type := 4, pos := "dir.go:53", after := #[{ on := 2, ground := Ground.data }], guard := none }, { dst := some 17, op := Op.move (Operand.tmp 5), type := 3, pos := "dir.go:53", after := #[{ on := 3, ground := Ground.guard }], guard := some (3, true) }, { dst := some 18, op := Op.binOp BinOp.neq 3 (Operand.tmp 17) (Operand.const (Value.int IntKind.i64 0)) 3, type := 4, pos := "dir.go:53", after := #[{ on := 4, ground := Ground.data }, { on := 3, ground := Ground.guard }], guard := some (3, true) }, { dst := some 19, op := Op.pick (Operand.tmp 16) (Operand.tmp 18) (Operand.const (Value.bool false)), type := 4, pos := "dir.go:53", after := #[{ on := 3, ground := Ground.data }, { on := 5, ground := Ground.data }], guard := none }] false).seq (Code.cond (Operand.tmp 19) ((Code.region 7 #[{ dst := none, op := Op.store 47 (Operand.tmp 2) (Operand.const (Value.slice none 0 0)), type := 0, pos := "dir.go:54", after := #[], guard := none }, { dst := none, op := Op.store 24 (Operand.tmp 3) (Operand.const (Value.int IntKind.i64 13)), type := 0, pos := "dir.go:54", after := #[{ on := 0, ground := Ground.chain }, { on := 0, ground := Ground.phase }], guard := none }] false).seq Code.ret) Code.skip)).seq (Code.region 8 #[{ dst := some 20, op := Op.load 47 (Operand.tmp 4), type := 47, pos := "dir.go:56", after := #[], guard := none }, { dst := some 21, op := Op.move (Operand.tmp 5), type := 3, pos := "dir.go:56", after := #[], guard := none }, { dst := some 22, op := Op.buildSlice 47 1 #[(0, Operand.tmp 21)], type := 47, pos := "dir.go:56", after := #[{ on := 1, ground := Ground.data }], guard := none }, { dst := some 23, op := Op.call { callee := Callee.builtin Builtin.append, args := #[Operand.tmp 20, Operand.tmp 22], argTypes := #[47, 47] }, type := 47, pos := "dir.go:56", after := #[{ on := 0, ground := Ground.data }, { on := 2, ground := Ground.data }], guard := none }, { dst := none, op := Op.store 47 (Operand.tmp 4) (Operand.tmp 23), type := 0, pos := "dir.go:56", after := #[{ on := 3, ground := Ground.data }, { on := 3, ground := Ground.chain }, { on := 0, ground := Ground.phase }, { on := 1, ground := Ground.phase }, { on := 2, ground := Ground.phase }, { on := 3, ground := Ground.phase }], guard := none }] false)))
def tkRec (fn : FuncId) (tm : Array Value) (D : Nat) (st : LoopState) (pend : Option Code) : Loop:={ state:=st,pending:=pend,fn,tmps:=tm,params:=#[12],assign:=a4z,body:=a4A,defers:=D }
structure Tk (fn : FuncId) (tm : Array Value) (ob D l B0 p : Nat) (W1 : World) (ps out : List Int) (at_ : Nat) (W : World) : Prop where
 rd : RfAt W B0 p ps at_
 v : ∃ v,W.heap[ob]? = some (.cells #[v] 47 (0,0)) /\ W.ownsRow B0 3 1 v out.length (out.map (Value.int .i64)) /\ (∀ k,v.ownBlock = some k -> p < k)
 lp : W.heap[l]? = some (.loop (tkRec fn tm D .ready none))
 on : Only (λ k=>k = ob \/ k = l \/ B0 <= k) W1 W
theorem a3u {W : World} {B : Nat} {e : TypeId} {v : Value} {n : Nat} {xs : List Value} (h : W.ownsRow B e 1 v n xs) : ∃ A c,v = .slice A n c:=by
 rcases h.2 with ⟨rfl,rfl⟩ | ⟨g,cap,cur,rfl,_⟩
 · exact ⟨_,_,rfl⟩
 · exact ⟨_,_,rfl⟩
theorem a4B {W W' : World} {B : Nat} {e : TypeId} {v : Value} {n : Nat} {xs : List Value} (h : W.ownsRow B e 1 v n xs) (hs : ∀ k,v.ownBlock = some k -> W'.heap[k]? = W.heap[k]?) : W'.ownsRow B e 1 v n xs:=by
 refine ⟨h.1,?_⟩
 rcases h.2 with h | ⟨g,cap,cur,rfl,hb,hg,rest⟩
 · exact .inl h
 · exact .inr ⟨g,cap,cur,rfl,hb,(hs g rfl).trans hg,rest⟩
theorem RfAt.only {w w' : World} {base p : Nat} {ps : List Int} {at_ : Nat} {S : Nat -> Prop} (h : RfAt w base p ps at_) (ho : Only S w w') (hp : ¬ S p) (hs : ∀ k,base <= k -> k < p -> ¬ S k) : RfAt w' base p ps at_:=by
 obtain ⟨A,c,h1,h2⟩:=h.ex
 have hb:=λ k hk=>(Kd.R_bound h2).1 k hk
 refine ⟨A,c,(ho.block p (a0f h1) hp).trans h1,Kd.R_mono (Kd.R_step (Kd.R_tight (d:=Kd.int .u8) rfl h2) (λ k hk hlt=>ho.block k hlt ?_)) (λ k hk=>(hb k hk.symm).1)⟩
 have:=hb k hk.symm
 exact hs k this.2.1 this.1
def tkTm (A : Option Addr) (n c rb eb ob : Nat) (f v6 v7 v8 v9 v10 : Value) : Array Value:=#[.slice A n c,undef,.pointer (some ⟨rb,0,none⟩),.pointer (some ⟨eb,0,none⟩),.pointer (some ⟨ob,0,none⟩),undef,v6,v7,v8,v9,v10,f,undef,undef,undef,undef,undef,undef,undef,undef,undef,undef,undef,undef,undef,undef,undef,undef]
theorem Only.putObj {S : Nat -> Prop} {a b : World} {l : Nat} (h : Only S a b) (hl : S l) (o : Obj) : Only S a (b.putObj l o):=
 h.trans ⟨rfl,rfl,rfl,by simp,λ k _ hn=>World.putObj_heap_other (λ e=>hn (e ▸ hl))⟩
theorem Only.grown {S : Nat -> Prop} {a b c : World} {row : Option Nat} (h : Only S a b) (hg : b.grownBy c row) (hs : ∀ k,row = some k -> S k) : Only S a c:=h.trans (Only.of_grown hg hs)
theorem tkEnd {fn : FuncId} {A : Option Addr} {n c rb eb ob D l B0 p : Nat} {f v6 v7 v8 v9 v10 : Value} {W1 W W2 w1 : World} {ps out : List Int} {at_ k : Nat} {lit : Obj} {Av : Option Addr} {cv g' cap' : Nat}
    (hp : B0 <= p) (hob : (Value.slice Av out.length cv).ownBlock = some ob -> False) (ho : ob < l) (hl : l < B0) (hs2 : p < W2.heap.size) (h : Tk fn (tkTm A n c rb eb ob f v6 v7 v8 v9 v10) ob D l B0 p W1 ps out at_ W)
    (hlp2 : W2.heap[l]? = some (.loop { tkRec fn (tkTm A n c rb eb ob f v6 v7 v8 v9 v10) D .ready none with state:=.busy })) (hon2 : Only (λ k=>k = ob \/ k = l \/ p < k) W W2)
    (hok : ∀ k,(Value.slice Av out.length cv).ownBlock = some k -> p < k) (hv2 : W2.heap[ob]? = some (.cells #[.slice Av out.length cv] 47 (0,0)))
    (hown' : w1.ownsRow B0 3 1 (.slice (some ⟨g',0,none⟩) (out.length + 1) cap') (out.length + 1) (out.map (Value.int .i64) ++ [.int .i64 k])) (hgrow : (W2.alloc lit).grownBy w1 (Value.slice Av out.length cv).ownBlock)
    (hat : (Value.slice (some ⟨g',0,none⟩) (out.length + 1) cap').ownBlock = (Value.slice Av out.length cv).ownBlock \/ (Value.slice (some ⟨g',0,none⟩) (out.length + 1) cap').ownBlock = some (W2.alloc lit).heap.size) :
    ∃ v w',(Instr.endRound l none).run Tryz.prog (w1.setCell ⟨ob,0,none⟩ (.slice (some ⟨g',0,none⟩) (out.length + 1) cap')) = .ok v w' /\ (Ending.returned v = .returned (.bool true) /\ Tk fn (tkTm A n c rb eb ob f v6 v7 v8 v9 v10) ob D l B0 p W1 ps (out ++ [(k : Int)]) at_ w' /\ p < w'.heap.size):=by
 have hg : p < g':=by
  rcases hat with e | e
  · exact hok g' (by rw [<- e]; rfl)
  · have : g' = (W2.alloc lit).heap.size:=by injection e
    rw [this]; simp; omega
 obtain ⟨W3,hW3⟩ : ∃ W3,W3 = w1.setCell ⟨ob,0,none⟩ (.slice (some ⟨g',0,none⟩) (out.length + 1) cap'):=⟨_,rfl⟩
 have hon1 : Only (λ k=>k = ob \/ k = l \/ p < k) W w1:=(hon2.alloc lit).grown hgrow (λ k hk=>.inr (.inr (hok k hk)))
 have hon3 : Only (λ k=>k = ob \/ k = l \/ p < k) W W3:=by rw [hW3]; exact hon1.setCell (p:=⟨ob,0,none⟩) (.inl rfl) _
 have hv1 : w1.heap[ob]? = some (.cells #[.slice Av out.length cv] 47 (0,0)):=a0Z (a0r hv2 _) hgrow (λ e=>hob e.symm)
 have hv3 : W3.heap[ob]? = some (.cells #[.slice (some ⟨g',0,none⟩) (out.length + 1) cap'] 47 (0,0)):=by rw [hW3]; exact (a0v hv1 0 _).trans rfl
 have hl1 : w1.heap[l]? = some (.loop { tkRec fn (tkTm A n c rb eb ob f v6 v7 v8 v9 v10) D .ready none with state:=.busy }):=a0Z (a0r hlp2 _) hgrow (λ e=>by have:=hok l e.symm; omega)
 have hl3 : W3.heap[l]? = some (.loop { tkRec fn (tkTm A n c rb eb ob f v6 v7 v8 v9 v10) D .ready none with state:=.busy }):=by rw [hW3]; exact (Below.heap_setCell _ ⟨ob,0,none⟩ _ l (by show l ≠ ob; omega)).trans hl1
 have hown3 : W3.ownsRow B0 3 1 (.slice (some ⟨g',0,none⟩) (out.length + 1) cap') (out.length + 1) (out.map (Value.int .i64) ++ [.int .i64 k]):=a4B hown' (λ j hj=>by
  have : j = g':=by injection hj with e; exact e.symm
  rw [hW3]; exact Below.heap_setCell _ ⟨ob,0,none⟩ _ j (by show j ≠ ob; omega))
 have hs3 : p < W3.heap.size:=by
  have h1:=hgrow.size
  have h2 : W3.heap.size = w1.heap.size:=by rw [hW3]; simp [World.setCell]
  simp at h1; omega
 have hsl:=a0f hl3
 rw [<- hW3]
 clear hW3
 refine ⟨_,_,run_endRound none hl3,rfl,?_,by simpa using hs3⟩
 have hon4 : Only (λ k=>k = ob \/ k = l \/ p < k) W (W3.putObj l (.loop { tkRec fn (tkTm A n c rb eb ob f v6 v7 v8 v9 v10) D .ready none with state:=if (none : Option Code).isNone then .ready else .done,pending:=none })):=hon3.putObj (.inr (.inl rfl)) _
 refine ⟨h.rd.only hon4 (λ h=>by omega) (λ k hB hk h=>by omega),⟨_,(World.putObj_heap_other (by omega)).trans hv3,?_,λ j hj=>?_⟩,World.putObj_heap_same hsl,h.on.trans2 hon4 (λ k _ h=>by omega)⟩
 · rw [List.length_append,List.map_append]
   exact a4B hown3 (λ j hj=>by
    have : j = g':=by injection hj with e; exact e.symm
    exact World.putObj_heap_other (by omega))
 · have : j = g':=by injection hj with e; exact e.symm
   omega
set_option maxRecDepth 100000 in
set_option maxHeartbeats 2000000 in
theorem c5V (m : Nat) (fn : FuncId) (A : Option Addr) (n c rb eb ob D l B0 p : Nat) (f v6 v7 v8 v9 v10 : Value) (W1 : World) (ps out : List Int) (at_ : Nat) (W : World) (h : Tk fn (tkTm A n c rb eb ob f v6 v7 v8 v9 v10) ob D l B0 p W1 ps out at_ W) (k : Nat) (hol : out.length <= 256) (hgo : ((out.length : Int) == 0) = false \/ (k = 0 /\ out = []))
    (ho : ob < l) (hl : l < B0) (hp : B0 <= p) (hW : p < W.heap.size) :
    RoundIn Fence.wide m Tryz.prog l fn #[.slice A n c,undef,.pointer (some ⟨rb,0,none⟩),.pointer (some ⟨eb,0,none⟩),.pointer (some ⟨ob,0,none⟩),undef,v6,v7,v8,v9,v10,f,.int .i64 k,undef,undef,undef,undef,undef,undef,undef,undef,undef,undef,undef,undef,undef,undef,undef] a4z a4A W
     λ e W'=>e = .returned (.bool true) /\ Tk fn (tkTm A n c rb eb ob f v6 v7 v8 v9 v10) ob D l B0 p W1 ps (out ++ [(k : Int)]) at_ W' /\ p < W'.heap.size:=by
 refine roundIn_of_wpIn trivial ?_
 have hll : l < W.heap.size:=a0f h.lp
 have hbr:=run_beginRound (P:=Tryz.prog) h.lp rfl
 have hlp2 : (W.putObj l (.loop { tkRec fn (tkTm A n c rb eb ob f v6 v7 v8 v9 v10) D .ready none with state:=.busy })).heap[l]? = some (.loop { tkRec fn (tkTm A n c rb eb ob f v6 v7 v8 v9 v10) D .ready none with state:=.busy }):=World.putObj_heap_same hll
 have hon2 : Only (λ k=>k = ob \/ k = l \/ p < k) W (W.putObj l (.loop { tkRec fn (tkTm A n c rb eb ob f v6 v7 v8 v9 v10) D .ready none with state:=.busy })):=(Only.refl _ W).putObj (.inr (.inl rfl)) _
 obtain ⟨W2,hW2⟩ : ∃ W2,W.putObj l (.loop { tkRec fn (tkTm A n c rb eb ob f v6 v7 v8 v9 v10) D .ready none with state:=.busy }) = W2:=⟨_,rfl⟩
 rw [hW2] at hbr hlp2 hon2
 obtain ⟨v,hv,hown,hok⟩:=h.v
 obtain ⟨Av,cv,rfl⟩:=a3u hown
 have hv2 : W2.heap[ob]? = some (.cells #[.slice Av out.length cv] 47 (0,0)):=by rw [<- hW2]; exact (World.putObj_heap_other (by omega)).trans hv
 have hown2 : W2.ownsRow B0 3 1 (.slice Av out.length cv) out.length (out.map (Value.int .i64)):=a4B hown (λ k hk=>by rw [<- hW2]; exact World.putObj_heap_other (by have:=hok k hk; omega))
 have hs2 : p < W2.heap.size:=by rw [<- hW2]; simpa using hW
 have hc2 : W2.cell? ⟨ob,0,none⟩ = some (.slice Av out.length cv):=(a0a hv2 0).trans rfl
 have hf2 : W2.frozen? ⟨ob,0,none⟩ = false:=a0e hv2 0
 have HT:=Lib.hid h
 have HF:=Lib.hid (And.intro hv2 (And.intro hok (And.intro hlp2 hon2)))
 obtain ⟨i0,hi,hz0,hz1,hz2⟩:=info_parts a4d
 clear hW2 h hv hown hlp2 hon2 hv2 hok
 unfold a4z
 gi_wp2
 clear hbr
 unfold a4A
 rcases hgo with hgo | ⟨hgo,hgo2⟩
 · gi_wp2_with (gi_at_builtin; refine wpListIn_append_own_at _ rfl (.tmp 20) (.tmp 22) 47 rfl B0 3 i0 (.int .i64 0) 1 8 Tryz.underlying47 hi hz0 hz1 hz2 rfl (by decide) (.slice Av out.length cv) out.length (out.map (Value.int .i64)) rfl (hown2.alloc _) ⟨W2.heap.size,0,none⟩ 1 1 [.int .i64 k] rfl rfl (cell_one_new _ _ _) (by simp [Value.oneCell']) (by unfold maxLen; omega) (by omega) (by simp; omega) ?_; intro v' w1 hown' hgrow _ hat; obtain ⟨g',cap',rfl⟩:=ownsRow_succ hown'; have HA:=Lib.hid (And.intro hown' (And.intro hgrow hat)); have hv3:=a0Z (a0r HF.out.1 _) hgrow (λ e=>by have:=HF.out.2.1 _ e.symm; omega); have hc3:=(a0a hv3 0).trans rfl; have hf3:=a0e hv3 0; clear hown' hgrow hat hv3)
   exact tkEnd hp (λ e=>by have:=HF.out.2.1 _ e; omega) ho hl hs2 HT.out HF.out.2.2.1 HF.out.2.2.2 (λ k hk=>HF.out.2.1 k hk) HF.out.1 HA.out.1 HA.out.2.1 HA.out.2.2
 · subst hgo hgo2
   have hown2 : W2.ownsRow B0 3 1 (.slice Av 0 cv) 0 []:=hown2
   gi_wp2_with (gi_at_builtin; refine wpListIn_append_own_at _ rfl (.tmp 20) (.tmp 22) 47 rfl B0 3 i0 (.int .i64 0) 1 8 Tryz.underlying47 hi hz0 hz1 hz2 rfl (by decide) (.slice Av 0 cv) 0 [] rfl (hown2.alloc _) ⟨W2.heap.size,0,none⟩ 1 1 [.int .i64 0] rfl rfl (cell_one_new _ _ _) (by simp [Value.oneCell']) (by unfold maxLen; omega) (by omega) (by simp; omega) ?_; intro v' w1 hown' hgrow _ hat; obtain ⟨g',cap',rfl⟩:=ownsRow_succ hown'; have HA:=Lib.hid (And.intro hown' (And.intro hgrow hat)); have hv3:=a0Z (a0r HF.out.1 _) hgrow (λ e=>by have:=HF.out.2.1 _ e.symm; omega); have hc3:=(a0a hv3 0).trans rfl; have hf3:=a0e hv3 0; clear hown' hgrow hat hv3)
   exact tkEnd hp (λ e=>by have:=HF.out.2.1 _ e; omega) ho hl hs2 HT.out HF.out.2.2.1 HF.out.2.2.2 (λ k hk=>HF.out.2.1 k hk) HF.out.1 HA.out.1 HA.out.2.1 HA.out.2.2
structure TkX (fn : FuncId) (tm : Array Value) (rb eb ob D l B0 : Nat) (W1 : World) (W : World) : Prop where
 lp : W.heap[l]? = some (.loop (tkRec fn tm D .done (some .ret)))
 r0 : W.heap[rb]? = some (.cells #[.slice none 0 0] 47 (0,0))
 r1 : W.heap[eb]? = some (.cells #[.int .i64 13] 24 (0,0))
 on : Only (λ k=>k = ob \/ k = l \/ k = rb \/ k = eb \/ B0 <= k) W1 W
set_option maxRecDepth 100000 in
set_option maxHeartbeats 2000000 in
theorem c5W (m : Nat) (fn : FuncId) (A : Option Addr) (n c rb eb ob D l B0 p : Nat) (f v6 v7 v8 v9 v10 : Value) (W1 : World) (ps : List Int) (at_ : Nat) (W : World) (h : Tk fn (tkTm A n c rb eb ob f v6 v7 v8 v9 v10) ob D l B0 p W1 ps [] at_ W) (k : Nat) (hk : k ≠ 0)
    (hr : W1.heap[rb]? = some (.cells #[.slice none 0 0] 47 (0,0))) (he : W1.heap[eb]? = some (.cells #[.int .i64 0] 24 (0,0)))
    (h1 : rb < eb) (h2 : eb < ob) (ho : ob < l) (hl : l < B0) :
    RoundIn Fence.wide m Tryz.prog l fn #[.slice A n c,undef,.pointer (some ⟨rb,0,none⟩),.pointer (some ⟨eb,0,none⟩),.pointer (some ⟨ob,0,none⟩),undef,v6,v7,v8,v9,v10,f,.int .i64 k,undef,undef,undef,undef,undef,undef,undef,undef,undef,undef,undef,undef,undef,undef,undef] a4z a4A W
     λ e W'=>e = .returned (.bool false) /\ TkX fn (tkTm A n c rb eb ob f v6 v7 v8 v9 v10) rb eb ob D l B0 W1 W':=by
 refine roundIn_of_wpIn trivial ?_
 have hll : l < W.heap.size:=a0f h.lp
 have hbr:=run_beginRound (P:=Tryz.prog) h.lp rfl
 have hlp2 : (W.putObj l (.loop { tkRec fn (tkTm A n c rb eb ob f v6 v7 v8 v9 v10) D .ready none with state:=.busy })).heap[l]? = some (.loop { tkRec fn (tkTm A n c rb eb ob f v6 v7 v8 v9 v10) D .ready none with state:=.busy }):=World.putObj_heap_same hll
 have hon2 : Only (λ k=>k = ob \/ k = l \/ k = rb \/ k = eb \/ B0 <= k) W1 (W.putObj l (.loop { tkRec fn (tkTm A n c rb eb ob f v6 v7 v8 v9 v10) D .ready none with state:=.busy })):=(h.on.mono (λ k _ hk=>by omega)).putObj (.inr (.inl rfl)) _
 have hr0 : W.heap[rb]? = some (.cells #[.slice none 0 0] 47 (0,0)):=(h.on.block rb (a0f hr) (by omega)).trans hr
 have he0 : W.heap[eb]? = some (.cells #[.int .i64 0] 24 (0,0)):=(h.on.block eb (a0f he) (by omega)).trans he
 obtain ⟨W2,hW2⟩ : ∃ W2,W.putObj l (.loop { tkRec fn (tkTm A n c rb eb ob f v6 v7 v8 v9 v10) D .ready none with state:=.busy }) = W2:=⟨_,rfl⟩
 rw [hW2] at hbr hlp2 hon2
 obtain ⟨v,hv,hown,hok⟩:=h.v
 obtain ⟨Av,cv,rfl⟩:=a3u hown
 have hv2 : W2.heap[ob]? = some (.cells #[.slice Av 0 cv] 47 (0,0)):=by rw [<- hW2]; exact (World.putObj_heap_other (by omega)).trans hv
 have hr2 : W2.heap[rb]? = some (.cells #[.slice none 0 0] 47 (0,0)):=by rw [<- hW2]; exact (World.putObj_heap_other (by omega)).trans hr0
 have he2 : W2.heap[eb]? = some (.cells #[.int .i64 0] 24 (0,0)):=by rw [<- hW2]; exact (World.putObj_heap_other (by omega)).trans he0
 have hc2 : W2.cell? ⟨ob,0,none⟩ = some (.slice Av 0 cv):=(a0a hv2 0).trans rfl
 have hcr : W2.cell? ⟨rb,0,none⟩ = some (.slice none 0 0):=(a0a hr2 0).trans rfl
 have hce : W2.cell? ⟨eb,0,none⟩ = some (.int .i64 0):=(a0a he2 0).trans rfl
 have hfr : W2.frozen? ⟨rb,0,none⟩ = false:=a0e hr2 0
 have hfe : W2.frozen? ⟨eb,0,none⟩ = false:=a0e he2 0
 have HF:=Lib.hid (And.intro hr2 (And.intro he2 (And.intro hlp2 hon2)))
 have hkz : ((k : Int) != 0) = true:=by simpa using hk
 have hre : rb ≠ eb:=by omega
 clear hW2 h hv hown hlp2 hon2 hv2 hok hr2 he2 hr0 he0 hr he
 unfold a4z
 gi_wp2
 clear hbr
 unfold a4A
 gi_wp2
 have H3 : ((W2.setCell ⟨rb,0,none⟩ (.slice none 0 0)).setCell ⟨eb,0,none⟩ (.int .i64 13)).heap[l]? = some (.loop { tkRec fn (tkTm A n c rb eb ob f v6 v7 v8 v9 v10) D .ready none with state:=.busy }):=
  (Below.heap_setCell _ ⟨eb,0,none⟩ _ l (by show l ≠ eb; omega)).trans ((Below.heap_setCell _ ⟨rb,0,none⟩ _ l (by show l ≠ rb; omega)).trans HF.out.2.2.1)
 have H4 : ((W2.setCell ⟨rb,0,none⟩ (.slice none 0 0)).setCell ⟨eb,0,none⟩ (.int .i64 13)).heap[rb]? = some (.cells #[.slice none 0 0] 47 (0,0)):=
  (Below.heap_setCell _ ⟨eb,0,none⟩ _ rb (by show rb ≠ eb; omega)).trans ((a0v HF.out.1 0 _).trans rfl)
 have H5 : ((W2.setCell ⟨rb,0,none⟩ (.slice none 0 0)).setCell ⟨eb,0,none⟩ (.int .i64 13)).heap[eb]? = some (.cells #[.int .i64 13] 24 (0,0)):=
  (a0v ((Below.heap_setCell _ ⟨rb,0,none⟩ _ eb (by show eb ≠ rb; omega)).trans HF.out.2.1) 0 _).trans rfl
 exact ⟨_,_,run_endRound (some .ret) H3,rfl,World.putObj_heap_same (a0f H3),(World.putObj_heap_other (by omega)).trans H4,(World.putObj_heap_other (by omega)).trans H5,
  ((HF.out.2.2.2.setCell (p:=⟨rb,0,none⟩) (.inr (.inr (.inl rfl))) _).setCell (p:=⟨eb,0,none⟩) (.inr (.inr (.inr (.inl rfl)))) _).putObj (.inr (.inl rfl)) _⟩
end Go.Proofs.YtipjlneepponpaaGreat
namespace Go.Proofs.YtipjlneepponpaaGreat
open Go.RowKit Go.IntWalk Go.Proofs.YtipjlneepponpaaGreatW.PrintWords
attribute [local go_sem] Oper.semAt_some
theorem c5X (ps : List Int) (c : Nat) : takeF ps c 1 = bitI ps c:=by
 rw [b4d]
 have : takeF ps c 0 = 0:=rfl
 rw [this]; simp
theorem c5Y (ps : List Int) (c : Nat) : bitI ps c < 2:=by unfold bitI; omega
theorem a9w (ps : List Int) (k : Nat) : ∀ m,k <= m -> onesN ps k ≠ [] -> (onesN ps m).getD 0 1 = (onesN ps k).getD 0 1
 | 0,h,_=>by have : k = 0:=by omega
             rw [this]
 | m + 1,h,hne=>by
  by_cases e : k = m + 1
  · rw [e]
  · have ih:=a9w ps k m (by omega) hne
    rw [a5d]
    split
    · rw [<- ih]
      cases hm : onesN ps m with
      | nil=>
       rw [hm] at ih
       cases hk : onesN ps k with
       | nil=>exact absurd hk hne
       | cons x l=>
        exfalso
        have hx : x ∈ onesN ps k:=by rw [hk]; exact List.mem_cons_self
        obtain ⟨c,rfl,h1,h2⟩:=b3Y hx
        have : (c : Int) ∈ onesN ps m:=by
         unfold onesN
         exact List.mem_map.2 ⟨c,List.mem_filter.2 ⟨List.mem_range.2 (by omega),decide_eq_true h2⟩,rfl⟩
        rw [hm] at this; cases this
      | cons x l=>rfl
    · exact ih
theorem Tk.taken {fn : FuncId} {tm : Array Value} {ob D l B0 p : Nat} {W1 W W' : World} {ps out : List Int} {at_ at' : Nat} (h : Tk fn tm ob D l B0 p W1 ps out at_ W) (hr : RfAt W' B0 p ps at') (ho : Only (λ k=>k = p) W W') (h1 : ob < B0) (h2 : l < B0) (hp : B0 <= p) : Tk fn tm ob D l B0 p W1 ps out at' W':=by
 obtain ⟨v,hv,hown,hok⟩:=h.v
 refine ⟨hr,⟨v,(ho.block ob (a0f hv) (by omega)).trans hv,a4B hown (λ k hk=>?_),hok⟩,(ho.block l (a0f h.lp) (by omega)).trans h.lp,h.on.trans2 ho (λ k _ hk=>by omega)⟩
 have:=hok k hk
 by_cases hlt : k < W.heap.size
 · exact ho.block k hlt (by omega)
 · rcases hown.2 with ⟨rfl,_⟩ | ⟨g,cap,cur,rfl,_,hg,_⟩
   · cases hk
   · have : g = k:=by injection hk
     subst this
     exact absurd (a0f hg) hlt
def b5z (fn : FuncId) (tm : Array Value) (rb eb ob D l B0 : Nat) (W1 : World) (ps : List Int) (e : Ending) (W' : World) : Prop:=
 (∃ v,e = .returned v) /\ ((∃ p at_,B0 <= p /\ Tk fn tm ob D l B0 p W1 ps (onesN ps 256) at_ W' /\ (onesN ps 256 = [] \/ (onesN ps 256).getD 0 1 = 0)) \/ (TkX fn tm rb eb ob D l B0 W1 W' /\ onesN ps 256 ≠ [] /\ (onesN ps 256).getD 0 1 ≠ 0))
set_option maxRecDepth 100000 in
set_option maxHeartbeats 2000000 in
theorem c5Z (m : Nat) (fn : FuncId) (A : Option Addr) (n c rb eb ob D l pb : Nat) (f v6 v7 v8 v9 v10 : Value) (W1 : World) (ad : Addr) (cs : Nat) (ps : List Int) (hlen : ps.length = 32) (hps : Bytes ps) (hcs : 32 <= cs)
    (hpb : W1.heap[pb]? = some (.cells #[.slice (some ad) 32 cs] 22 (0,0))) (hC : (Kd.int .u8).C W1 (some ad) ps.length ps)
    (hlp : W1.heap[l]? = some (.loop (tkRec fn (tkTm A n c rb eb ob f v6 v7 v8 v9 v10) D .ready none))) (hv : W1.heap[ob]? = some (.cells #[.slice none 0 0] 47 (0,0)))
    (hr : W1.heap[rb]? = some (.cells #[.slice none 0 0] 47 (0,0))) (he : W1.heap[eb]? = some (.cells #[.int .i64 0] 24 (0,0)))
    (h1 : rb < eb) (h2 : eb < ob) (ho : ob < l) :
    CallsIn Fence.wide m Tryz.prog 148 #[.func (.yield l) #[] #[],.pointer (some ⟨pb,0,none⟩)] W1 (b5z fn (tkTm A n c rb eb ob f v6 v7 v8 v9 v10) rb eb ob D l W1.heap.size W1 ps):=by
 have hl:=a0f hlp
 have hcell : W1.cell? ⟨pb,0,none⟩ = some (.slice (some ad) 32 cs):=(a0a hpb 0).trans rfl
 have HNew:=Lib.hid (a8P (some ad) cs ps W1 hC (by omega) (by omega) (λ h=>by cases h))
 rw [hlen] at HNew
 have H0:=Lib.hid (And.intro hlp (And.intro hv (And.intro hr (And.intro he (And.intro hlen hps)))))
 clear hC hlp hv hr he hpb hlen hps
 refine callsIn_of_wp Tryz.func148 rfl trivial ?_ rfl
 simp only [Tryz.ntmps148,List.size_toArray,List.length_cons,List.length_nil,Nat.reduceAdd,Nat.reduceSub,Array.replicate_succ,Array.replicate_zero,List.push_toArray,List.append_toArray,List.nil_append,List.cons_append]
 gi_wp2
 refine ⟨trivial,λ h=>(by cases h),(callsIn_wide.2 HNew.out).mono ?_⟩
 rintro e w2 ⟨p,rfl,hp,hrd,hb⟩
 have HT : Hid (Tk fn (tkTm A n c rb eb ob f v6 v7 v8 v9 v10) ob D l W1.heap.size p W1 ps (onesN ps 0) 0 w2):=Lib.hid
  ⟨hrd,⟨_,a0l H0.out.2.1 hb,⟨rfl,.inl ⟨rfl,rfl⟩⟩,λ k hk=>by cases hk⟩,a0l H0.out.1 hb,Only.of_below hb⟩
 have HP : Hid (W1.heap.size <= p /\ p < w2.heap.size):=by
  obtain ⟨_,_,hx,_⟩:=hrd.ex
  exact Lib.hid ⟨hp,a0f hx⟩
 clear hb hrd hp hcell
 gi_wp2
 gi_loopw [4,5,6,9] (λ _ _ _ kv wr=>∃ k : Nat,k <= 256 /\ kv = .int .i64 k /\ Hid (Tk fn (tkTm A n c rb eb ob f v6 v7 v8 v9 v10) ob D l W1.heap.size p W1 ps (onesN ps k) k wr /\ p < wr.heap.size /\ (onesN ps k = [] \/ (onesN ps k).getD 0 1 = 0))) (λ _ _ _ kv _=>256 - (intOf kv).toNat)
 case atStart=>exact ⟨0,by omega,rfl,Lib.hid ⟨HT.out,HP.out.2,.inl rfl⟩⟩
 case round=>
  obtain ⟨k,hk,rfl,H⟩:=hrel
  by_cases hlt : k < 256
  · have hI : (k : Int) < 256:=by omega
    have HTk:=a6R W1.heap.size p ps k 1 wr H.out.1.rd H0.out.2.2.2.2.2 (by have:=H0.out.2.2.2.2.1; omega) (by have:=H0.out.2.2.2.2.1; omega) (by decide)
    rw [show ((1 : Nat) : Int) = 1 from rfl] at HTk
    have HTk:=Lib.hid HTk
    gi_wp2
    refine ⟨trivial,λ h=>(by cases h),(callsIn_wide.2 HTk.out).mono ?_⟩
    rintro e w3 ⟨ht,_,hon⟩
    obtain ⟨rfl,hrd⟩:=ht (by have:=H0.out.2.2.2.2.1; omega)
    have HT3:=Lib.hid (H.out.1.taken hrd hon (by have:=a0f H0.out.2.1; omega) hl HP.out.1)
    have HS3:=Lib.hid (Nat.lt_of_lt_of_le H.out.2.1 hon.size)
    rw [c5X]
    clear hon hrd ht HTk
    have hb2:=c5Y ps k
    by_cases hbit : bitI ps k = 1
    · rw [hbit]
      have hy : (Instr.yield l #[.int .i64 k]).run Tryz.prog w3 = .ok (.round l fn #[.slice A n c,undef,.pointer (some ⟨rb,0,none⟩),.pointer (some ⟨eb,0,none⟩),.pointer (some ⟨ob,0,none⟩),undef,v6,v7,v8,v9,v10,f,.int .i64 k,undef,undef,undef,undef,undef,undef,undef,undef,undef,undef,undef,undef,undef,undef,undef] a4z a4A) w3:=by
       simpa [tkRec,tkTm] using run_yield (P:=Tryz.prog) (args:=#[.int .i64 k]) HT3.out.lp rfl
      gi_wp2
      have hol:=b3X ps k
      have hob:=a0f H0.out.2.1
      by_cases hst : onesN ps k = [] /\ k ≠ 0
      · have hT3:=HT3.out
        rw [hst.1] at hT3
        refine ⟨λ h=>(by cases h),(c5W (m - 1) fn A n c rb eb ob D l W1.heap.size p f v6 v7 v8 v9 v10 W1 ps (k + 1) w3 hT3 k hst.2 H0.out.2.2.1 H0.out.2.2.2.1 h1 h2 ho hl).mono ?_⟩
        rintro e w4 ⟨rfl,hx⟩
        have HX:=Lib.hid hx
        have HE : Hid (onesN ps 256 ≠ [] /\ (onesN ps 256).getD 0 1 ≠ 0):=by
         have e1 : onesN ps (k + 1) = [(k : Int)]:=by rw [a5d,if_pos hbit,hst.1]; rfl
         have e2:=a9w ps (k + 1) 256 (by omega) (by rw [e1]; simp)
         rw [e1] at e2
         refine Lib.hid ⟨λ e=>?_,?_⟩
         · rw [e] at e2
           have e3 : (1 : Int) = (k : Int):=e2
           have : (k : Int) ∈ onesN ps 256:=by
            unfold onesN
            exact List.mem_map.2 ⟨k,List.mem_filter.2 ⟨List.mem_range.2 hlt,decide_eq_true hbit⟩,rfl⟩
           rw [e] at this; cases this
         · rw [e2]; show ((k : Int)) ≠ 0; have:=hst.2; omega
        clear hx hst hy hT3
        gi_wp2
        go_end0
        exact ⟨⟨_,rfl⟩,.inr ⟨HX.out,HE.out⟩⟩
      · have hgo : (((onesN ps k).length : Int) == 0) = false \/ (k = 0 /\ onesN ps k = []):=by
          by_cases e : onesN ps k = []
          · exact .inr ⟨by
              by_cases e0 : k = 0
              · exact e0
              · exact absurd ⟨e,e0⟩ hst,e⟩
          · refine .inl ?_
            simp; exact e
        have HE : Hid ((onesN ps (k + 1)).getD 0 1 = 0):=by
         rcases H.out.2.2 with e | e
         · have k0 : k = 0:=by
             by_cases e0 : k = 0
             · exact e0
             · exact absurd ⟨e,e0⟩ hst
           rw [a5d,if_pos hbit,e,k0]; exact Lib.hid rfl
         · have hne : onesN ps k ≠ []:=λ h=>by rw [h] at e; exact absurd e (by decide)
           rw [a9w ps k (k + 1) (by omega) hne]; exact Lib.hid e
        refine ⟨λ h=>(by cases h),(c5V (m - 1) fn A n c rb eb ob D l W1.heap.size p f v6 v7 v8 v9 v10 W1 ps (onesN ps k) (k + 1) w3 HT3.out k (by omega) hgo ho hl HP.out.1 HS3.out).mono ?_⟩
        rintro e w4 ⟨rfl,hx,hs4⟩
        have HX : Hid (Tk fn (tkTm A n c rb eb ob f v6 v7 v8 v9 v10) ob D l W1.heap.size p W1 ps (onesN ps (k + 1)) (k + 1) w4 /\ p < w4.heap.size):=by
         rw [a5d,if_pos hbit]; exact Lib.hid ⟨hx,hs4⟩
        clear hx hs4 hst hgo hy
        gi_wp2
        go_roundw
        case rel=>exact ⟨k + 1,by omega,by go_num,Lib.hid ⟨HX.out.1,HX.out.2,.inr HE.out⟩⟩
        case measure=>simp [intOf]; omega
    · have h0 : bitI ps k = 0:=by omega
      rw [h0]
      have HN:=Lib.hid (show onesN ps (k + 1) = onesN ps k from by rw [a5d,if_neg hbit])
      clear hbit h0 hb2
      gi_wp2
      refine ⟨λ _ h=>(by cases h),?_⟩
      gi_wp2
      go_roundw
      case rel=>exact ⟨k + 1,by omega,by go_num,Lib.hid (by rw [HN.out]; exact ⟨by have:=HT3.out; exact this,HS3.out,H.out.2.2⟩)⟩
      case measure=>simp [intOf]; omega
  · obtain rfl : k = 256:=by omega
    gi_wp2
    go_end0
    exact ⟨⟨_,rfl⟩,.inl ⟨p,256,HP.out.1,H.out.1,H.out.2.2⟩⟩
end Go.Proofs.YtipjlneepponpaaGreat
namespace Go.Proofs.YtipjlneepponpaaGreat
open Go.RowKit Go.IntWalk Go.Proofs.YtipjlneepponpaaGreatW.PrintWords
attribute [local go_sem] Oper.semAt_some
theorem b5A {fn : Func} {p q : Tmp} {t u : TypeId} (h : fn.results = #[.cell p t,.cell q u]) (tmps : Array Value) (w : World) (g k : Nat) (v x : Value)
    (hp : tmps.getD p undef = .pointer (some ⟨g,0,none⟩)) (hq : tmps.getD q undef = .pointer (some ⟨k,0,none⟩)) (hl : (loadVar t ⟨g,0,none⟩).run Tryz.prog w = .ok v w) (hm : (loadVar u ⟨k,0,none⟩).run Tryz.prog w = .ok x w) :
    (results fn tmps).run Tryz.prog w = .ok (.tuple #[v,x]) w:=by
 have hp' : tmps[p]?.getD undef = .pointer (some ⟨g,0,none⟩):=by simpa using hp
 have hq' : tmps[q]?.getD undef = .pointer (some ⟨k,0,none⟩):=by simpa using hq
 simp [results,h,hp',hq',asAddr,hl,hm]
theorem b5B {w : World} {g : Nat} {v : Value} (h : w.heap[g]? = some (.cells #[v] 47 (0,0))) : (loadVar 47 ⟨g,0,none⟩).run Tryz.prog w = .ok v w:=by
 have hc : w.cell? ⟨g,0,none⟩ = some v:=(a0a h 0).trans rfl
 simp [go_sem,hc]
theorem b5C {w : World} {g : Nat} {v : Value} (h : w.heap[g]? = some (.cells #[v] 24 (0,0))) : (loadVar 24 ⟨g,0,none⟩).run Tryz.prog w = .ok v w:=by
 have hc : w.cell? ⟨g,0,none⟩ = some v:=(a0a h 0).trans rfl
 simp [go_sem,hc]
def a3S (b : List Int) (w : World) (e : Ending) (w' : World) : Prop:=
 ∃ v,e = .returned (.tuple #[v,.int .i64 (dirT b).1]) /\ (Kd.int .i64).R 3 w' w.heap.size (λ _=>True) v (dirT b).2 /\ Below w.heap.size w w'
set_option maxRecDepth 100000 in
theorem c6a (A : Option Addr) (c : Nat) (b : List Int) (w : World) (hl : b.length < 32) :
    Calls Tryz.prog 50 #[.slice A b.length c] w (a3S b w):=by
 have hI : (b.length : Int) < 32:=by omega
 have HL:=Lib.hid hl
 clear hl
 go_enter Tryz.func50,Tryz.ntmps50
 go_wp2_with fail
 refine bodyPost_ret (b5A (fn:=Tryz.f50) (p:=2) (q:=3) (t:=47) (u:=24) rfl _ _ _ _ _ _ rfl rfl (b5B (a0r (a0m _ _) _)) (b5C (a2D _ _ _))) rfl ?_
 have e : dirT b = (3,[]):=by unfold dirT; rw [if_pos HL.out]
 unfold a3S
 rw [e]
 exact ⟨_,rfl,Kd.R_nil _ _ _ _ _,((Below.refl w.heap.size w).alloc (Nat.le_refl _) _).alloc (by simp) _⟩
set_option maxRecDepth 100000 in
theorem c6b (A : Option Addr) (n c : Nat) (w : World) :
    Calls Tryz.prog 104 #[.slice A n c] w λ e w'=>e = .returned (.func (.func 148) #[] #[.pointer (some ⟨w.heap.size,0,none⟩)]) /\ w' = w.alloc (.cells #[.slice A n c] 22):=by
 have hmf : ∀ (fn : Fn) (first cap : Array Value) (w : World),(Instr.makeFunc fn first cap).run Tryz.prog w = .ok (.func fn first cap) w:=λ _ _ _ _=>rfl
 go_enter Tryz.func104,Tryz.ntmps104
 go_wp2_with fail
 go_ret
 exact ⟨rfl,rfl⟩
theorem c6c {b : List Int} {i : Nat} (hi : i < 256) : bitI (b.take 32) i = bitI b i:=by
 have h : (b.take 32).getD (i / 8) 0 = b.getD (i / 8) 0:=by
  rw [List.getD_eq_getElem?_getD,List.getElem?_take,if_pos (by omega),List.getD_eq_getElem?_getD]
 unfold bitI
 rw [h]
theorem c6d (b : List Int) : onesN (b.take 32) 256 = onesN b 256:=by
 unfold onesN
 congr 1
 refine List.filter_congr (λ c hc=>?_)
 rw [c6c (List.mem_range.1 hc)]
theorem c6e {b : List Int} (h : 32 <= b.length) (h0 : (onesN b 256).getD 0 1 = 0) : dirT b = (0,onesN b 256):=by
 unfold dirT; rw [if_neg (by omega),if_neg (λ e=>e h0)]
theorem b5D {b : List Int} (h : 32 <= b.length) (h0 : (onesN b 256).getD 0 1 ≠ 0) : dirT b = (13,[]):=by
 unfold dirT; rw [if_neg (by omega),if_pos h0]
theorem c6f {W : World} {B B' : Nat} {e : TypeId} {v : Value} {n : Nat} {xs : List Value} (h : W.ownsRow B e 1 v n xs) (hB : B' <= B) : W.ownsRow B' e 1 v n xs:=by
 refine ⟨h.1,?_⟩
 rcases h.2 with h | ⟨g,cap,cur,rfl,hb,rest⟩
 · exact .inl h
 · exact .inr ⟨g,cap,cur,rfl,by omega,rest⟩
theorem dtEnd {w W : World} {b L : List Int} {v : Value} {x : Int} {D : Nat} {tmps : Array Value} (hD : w.heap.size + 1 < D) (hO : Only (λ k=>w.heap.size <= k) w W) (kr : W.heap[w.heap.size]? = some (.cells #[v] 47 (0,0))) (ke : W.heap[w.heap.size + 1]? = some (.cells #[.int .i64 x] 24 (0,0)))
    (kd : W.heap[D]? = some (.deferred (some []))) (hR : ∀ W' : World,(∀ k,k ≠ D -> W'.heap[k]? = W.heap[k]?) -> (Kd.int .i64).R 3 W' w.heap.size (λ _=>True) v L) (hd : dirT b = (x,L))
    (h2 : tmps.getD 2 undef = .pointer (some ⟨w.heap.size,0,none⟩)) (h3 : tmps.getD 3 undef = .pointer (some ⟨w.heap.size + 1,0,none⟩)) :
    LeavesInM Fence.wide 3 Tryz.prog Tryz.f50 tmps (a3S b w) [{ target:=.collected D,args:=#[] }] .returning W:=by
 refine ⟨by simp,.inl ⟨_,_,rfl,run_takeDeferred kd,?_⟩⟩
 refine ⟨_,b5A (fn:=Tryz.f50) (p:=2) (q:=3) (t:=47) (u:=24) rfl _ _ _ _ _ _ h2 h3 (b5B ((World.putObj_heap_other (by omega)).trans kr)) (b5C ((World.putObj_heap_other (by omega)).trans ke)),?_⟩
 unfold a3S
 rw [hd]
 exact ⟨v,rfl,hR _ (λ k hk=>World.putObj_heap_other hk),(hO.putObj (by show w.heap.size <= D; omega) _).below (Nat.le_refl _) (λ _ h=>h)⟩
theorem c6g {W W' : World} {B B' : Nat} {v : Value} {L : List Int} (h : W.ownsRow B 3 1 v L.length (L.map (Value.int .i64))) (hB : B' <= B) (hs : ∀ k,B <= k -> W'.heap[k]? = W.heap[k]?) : (Kd.int .i64).R 3 W' B' (λ _=>True) v L:=by
 refine Kd.R_of_own (h1:=λ _=>rfl) (a4B (c6f h hB) (λ k hk=>hs k ?_)) (λ _ _=>trivial)
 rcases h.2 with ⟨rfl,_⟩ | ⟨g,cap,cur,rfl,hb,_⟩
 · cases hk
 · have : g = k:=by injection hk
   omega
set_option maxRecDepth 100000 in
set_option maxHeartbeats 2000000 in
theorem c6h (A : Option Addr) (c : Nat) (b : List Int) (w : World) (hr : (Kd.int .u8).C w A b.length b) (hb : Bytes b) (hl : b.length <= 1000000) (hc : b.length <= c) (h32 : 32 <= b.length) :
    Calls Tryz.prog 50 #[.slice A b.length c] w (a3S b w):=by
 obtain ⟨ad,hA,-⟩:=a0C hr 0 (by omega)
 subst hA
 refine (callsIn_wide (n:=3)).1 ?_
 refine callsIn_of_wp_marks Tryz.func50 rfl trivial ?_ rfl
 simp only [Tryz.ntmps50,List.size_toArray,List.length_cons,List.length_nil,Nat.reduceAdd,Nat.reduceSub,Array.replicate_succ,Array.replicate_zero,List.push_toArray,List.append_toArray,List.nil_append,List.cons_append]
 have hI : decide ((b.length : Int) < 32) = false:=decide_eq_false (by omega)
 have hI2 : (32 : Int) <= (c : Int):=by omega
 obtain ⟨W0,hW0⟩ : ∃ W0,W0 = ((w.alloc (.cells #[.slice none 0 0] 47)).alloc (.cells #[.int .i64 0] 24)).alloc (.cells #[.slice none 0 0] 47):=⟨_,rfl⟩
 have HX:=Lib.hid (And.intro hr (And.intro hb (And.intro hl (And.intro hc h32))))
 clear hr hb hl hc h32
 gi_wp2
 rw [<- hW0]
 have hs0 : W0.heap.size = w.heap.size + 1 + 1 + 1:=by rw [hW0]; simp
 have hB0 : Below w.heap.size w W0:=by rw [hW0]; exact (((Below.refl w.heap.size w).alloc (Nat.le_refl _) _).alloc (by simp) _).alloc (by simp; omega) _
 have kr0 : W0.heap[w.heap.size]? = some (.cells #[.slice none 0 0] 47 (0,0)):=by rw [hW0]; exact a0r (a0r (a0m _ _) _) _
 have ke0 : W0.heap[w.heap.size + 1]? = some (.cells #[.int .i64 0] 24 (0,0)):=by rw [hW0]; exact a0r (a2D _ _ _) _
 have ko0 : W0.heap[w.heap.size + 1 + 1]? = some (.cells #[.slice none 0 0] 47 (0,0)):=by
  have:=a0m ((w.alloc (.cells #[.slice none 0 0] 47)).alloc (.cells #[.int .i64 0] 24)) (.cells #[.slice none 0 0] 47)
  simp only [World.size_alloc] at this
  rw [hW0]; exact this
 have H0:=Lib.hid (And.intro hs0 (And.intro hB0 (And.intro kr0 (And.intro ke0 ko0))))
 clear hW0 hs0 hB0 kr0 ke0 ko0
 refine ⟨trivial,(callsIn_wide.2 (c6b (some ad) 32 c W0)).mono ?_⟩
 rintro e w1 ⟨rfl,rfl⟩
 obtain ⟨Wb,hWb⟩ : ∃ Wb,Wb = W0.alloc (.cells #[.slice (some ad) 32 c] 22):=⟨_,rfl⟩
 obtain ⟨pb,hpb⟩ : ∃ pb,pb = W0.heap.size:=⟨_,rfl⟩
 rw [<- hWb,<- hpb]
 have hsb : Wb.heap.size = w.heap.size + 1 + 1 + 1 + 1:=by rw [hWb]; simp [H0.out.1]
 have hBb : Below w.heap.size w Wb:=by rw [hWb]; exact H0.out.2.1.alloc (by have:=H0.out.1; omega) _
 have kr : Wb.heap[w.heap.size]? = some (.cells #[.slice none 0 0] 47 (0,0)):=by rw [hWb]; exact a0r H0.out.2.2.1 _
 have ke : Wb.heap[w.heap.size + 1]? = some (.cells #[.int .i64 0] 24 (0,0)):=by rw [hWb]; exact a0r H0.out.2.2.2.1 _
 have ko : Wb.heap[w.heap.size + 1 + 1]? = some (.cells #[.slice none 0 0] 47 (0,0)):=by rw [hWb]; exact a0r H0.out.2.2.2.2 _
 have kb : Wb.heap[pb]? = some (.cells #[.slice (some ad) 32 c] 22 (0,0)):=by rw [hWb,hpb]; exact a0m W0 _
 have hlb : pb < Wb.heap.size:=a0f kb
 have HWb:=Lib.hid (And.intro hsb (And.intro hBb (And.intro kr (And.intro ke (And.intro ko (And.intro kb hlb))))))
 clear hWb hpb hsb hBb kr ke ko kb hlb
 gi_wp2
 refine wpIn_rangeFunc ?_
 intro fn hfn
 obtain ⟨hsb,hBb,kr,ke,ko,kb,hlb⟩:=HWb.out
 obtain ⟨tm,htm⟩ : ∃ tm,tm = tkTm (some ad) b.length c w.heap.size (w.heap.size + 1) (w.heap.size + 1 + 1) (.func (.func 148) #[] #[.pointer (some ⟨pb,0,none⟩)]) (.slice (some ad) b.length c) (.int .i64 b.length) (.bool false) (.slice (some ad) b.length c) (.slice (some ad) 32 c):=⟨_,rfl⟩
 obtain ⟨W1,hW1⟩ : ∃ W1,(Wb.alloc (.deferred (some []))).alloc (.loop (tkRec fn tm Wb.heap.size .ready none)) = W1:=⟨_,rfl⟩
 have hs1 : W1.heap.size = Wb.heap.size + 1 + 1:=by rw [<- hW1]; simp
 have hold : ∀ k,k < Wb.heap.size -> W1.heap[k]? = Wb.heap[k]?:=λ k hk=>by
  rw [<- hW1]; exact (Below.heap_alloc _ _ k (by simp; omega)).trans (Below.heap_alloc _ _ k hk)
 have kl : W1.heap[Wb.heap.size + 1]? = some (.loop (tkRec fn tm Wb.heap.size .ready none)):=by
  rw [<- hW1]; have:=World.alloc_heap_new (Wb.alloc (.deferred (some []))) (.loop (tkRec fn tm Wb.heap.size .ready none)); rwa [World.size_alloc] at this
 have kd : W1.heap[Wb.heap.size]? = some (.deferred (some [])):=by
  rw [<- hW1]; exact (Below.heap_alloc _ _ _ (by simp)).trans (World.alloc_heap_new Wb _)
 have hB1 : Below w.heap.size w W1:=by rw [<- hW1]; exact (hBb.alloc (by omega) _).alloc (by simp; omega) _
 have hp32 : (b.take 32).length = 32:=by rw [List.length_take]; have:=HX.out.2.2.2.2; omega
 have hC1 : (Kd.int .u8).C W1 (some ad) (b.take 32).length (b.take 32):=by
  have:=b4Q (Kd.C_below HX.out.1 hB1) 32 HX.out.2.2.2.2
  rw [hp32]; exact this
 have hIt:=c5Z 2 fn (some ad) b.length c w.heap.size (w.heap.size + 1) (w.heap.size + 1 + 1) Wb.heap.size (Wb.heap.size + 1) pb (.func (.func 148) #[] #[.pointer (some ⟨pb,0,none⟩)]) (.slice (some ad) b.length c) (.int .i64 b.length) (.bool false) (.slice (some ad) b.length c) (.slice (some ad) 32 c) W1 ad c (b.take 32) hp32 (λ x hx=>HX.out.2.1 x (List.mem_of_mem_take hx)) (by have:=HX.out.2.2.2.1; have:=HX.out.2.2.2.2; omega)
  ((hold _ (by omega)).trans kb) hC1 (by rw [<- htm]; exact kl) ((hold _ (by omega)).trans ko) ((hold _ (by omega)).trans kr) ((hold _ (by omega)).trans ke) (by omega) (by omega) (by omega)
 rw [<- htm] at hIt
 unfold b5z at hIt
 rw [c6d] at hIt
 have HIt:=Lib.hid hIt
 have HT:=Lib.hid htm
 have HK:=Lib.hid (And.intro kd (And.intro hs1 (And.intro hsb (And.intro hB1 (And.intro ((hold _ (by omega)).trans kr) ((hold _ (by omega)).trans ke))))))
 clear hIt hC1 hp32 kr ke ko kb kl kd hBb hold hlb
 refine ⟨Wb.heap.size + 1,[{ target:=.collected Wb.heap.size,args:=#[] }],W1,{ target:=.fn (.func 148) #[.pointer (some ⟨pb,0,none⟩)],args:=#[.func (.yield (Wb.heap.size + 1)) #[] #[]] },W1,148,
  #[.func (.yield (Wb.heap.size + 1)) #[] #[],.pointer (some ⟨pb,0,none⟩)],W1,?_,?_,?_,?_,λ h=>(by cases h),?_⟩
 · rw [<- hW1,htm]; exact run_enterLoop_outer _ _ _ _ _
 · simp [resolve,go_sem]
 · intro f' hf'; exact trivial
 · simp [invoke,go_sem]
 · clear hW1 htm
   refine HIt.out.mono ?_
   rintro e W2 ⟨⟨v,rfl⟩,h⟩
   obtain ⟨kd,hs1,hsb,hB1,kr,ke⟩:=HK.out
   rcases h with ⟨p,at_,hp,hT,h0⟩ | ⟨hX,hne,h0⟩
   · obtain ⟨vo,ko,hown,hok⟩:=hT.v
     obtain ⟨Av,cv,rfl⟩:=a3u hown
     have hend:=run_endLoop (P:=Tryz.prog) hT.lp (by simp [tkRec])
     have hend2 : (Instr.endLoop (Wb.heap.size + 1)).run Tryz.prog W2 = .ok none (W2.putObj (Wb.heap.size + 1) (.loop { tkRec fn tm Wb.heap.size .ready none with state:=.exhausted })):=hend
     have hO : Only (λ k=>w.heap.size <= k) w W2:=(Only.of_below (S:=λ k=>w.heap.size <= k) hB1).trans2 hT.on (λ k hk h=>by omega)
     obtain ⟨W3,hW3⟩ : ∃ W3,W2.putObj (Wb.heap.size + 1) (.loop { tkRec fn tm Wb.heap.size .ready none with state:=.exhausted }) = W3:=⟨_,rfl⟩
     rw [hW3] at hend2
     have hO3 : Only (λ k=>w.heap.size <= k) w W3:=by rw [<- hW3]; exact hO.putObj (by show w.heap.size <= _; omega) _
     have ko3 : W3.heap[w.heap.size + 1 + 1]? = some (.cells #[.slice Av (onesN b 256).length cv] 47 (0,0)):=by rw [<- hW3]; exact (World.putObj_heap_other (by omega)).trans ko
     have kd3 : W3.heap[Wb.heap.size]? = some (.deferred (some [])):=by rw [<- hW3]; exact (World.putObj_heap_other (by omega)).trans ((hT.on.block _ (a0f kd) (by omega)).trans kd)
     have kr3 : W3.heap[w.heap.size]? = some (.cells #[.slice none 0 0] 47 (0,0)):=by rw [<- hW3]; exact (World.putObj_heap_other (by omega)).trans ((hT.on.block _ (a0f kr) (by omega)).trans kr)
     have ke3 : W3.heap[w.heap.size + 1]? = some (.cells #[.int .i64 0] 24 (0,0)):=by rw [<- hW3]; exact (World.putObj_heap_other (by omega)).trans ((hT.on.block _ (a0f ke) (by omega)).trans ke)
     have hw3 : W3.ownsRow W1.heap.size 3 1 (.slice Av (onesN b 256).length cv) (onesN b 256).length ((onesN b 256).map (Value.int .i64)):=a4B hown (λ k hk=>by have:=hok k hk; rw [<- hW3]; exact World.putObj_heap_other (by omega))
     have HW3:=Lib.hid (And.intro hO3 (And.intro ko3 (And.intro kd3 (And.intro kr3 (And.intro ke3 (And.intro hw3 (And.intro hok hp)))))))
     have co : W3.cell? ⟨w.heap.size + 1 + 1,0,none⟩ = some (.slice Av (onesN b 256).length cv):=(a0a ko3 0).trans rfl
     have cr : W3.cell? ⟨w.heap.size,0,none⟩ = some (.slice none 0 0):=(a0a kr3 0).trans rfl
     have ce : W3.cell? ⟨w.heap.size + 1,0,none⟩ = some (.int .i64 0):=(a0a ke3 0).trans rfl
     have fr : W3.frozen? ⟨w.heap.size,0,none⟩ = false:=a0e kr3 0
     have fe : W3.frozen? ⟨w.heap.size + 1,0,none⟩ = false:=a0e ke3 0
     refine ⟨none,W3,hend2,?_⟩
     have HH:=Lib.hid (And.intro hsb hs1)
     clear hW3 hend hend2 hO hown hok ko kd hs1 hsb hB1 kr ke hT ko3 kd3 kr3 ke3 hw3 hO3 hp HIt HT HK
     rcases h0 with h0 | h0
     · have HE : Hid (dirT b = (13,[])):=Lib.hid (b5D HX.out.2.2.2.2 (by rw [h0]; decide))
       rw [h0] at co
       gi_wp2
       have hO4:=(HW3.out.1.setCell (p:=⟨w.heap.size,0,none⟩) (Nat.le_refl _) (.slice none 0 0)).setCell (p:=⟨w.heap.size + 1,0,none⟩) (by show w.heap.size <= w.heap.size + 1; omega) (.int .i64 13)
       exact dtEnd (by omega) hO4
        ((Below.heap_setCell _ ⟨w.heap.size + 1,0,none⟩ _ w.heap.size (by show w.heap.size ≠ w.heap.size + 1; omega)).trans ((a0v HW3.out.2.2.2.1 0 _).trans rfl))
        ((a0v ((Below.heap_setCell _ ⟨w.heap.size,0,none⟩ _ (w.heap.size + 1) (by show w.heap.size + 1 ≠ w.heap.size; omega)).trans HW3.out.2.2.2.2.1) 0 _).trans rfl)
        ((Below.heap_setCell _ ⟨w.heap.size + 1,0,none⟩ _ _ (by show w.heap.size + 1 + 1 + 1 + 1 ≠ w.heap.size + 1; omega)).trans ((Below.heap_setCell _ ⟨w.heap.size,0,none⟩ _ _ (by show w.heap.size + 1 + 1 + 1 + 1 ≠ w.heap.size; omega)).trans (by rw [<- HH.out.1]; exact HW3.out.2.2.1)))
        (λ W' _=>Kd.R_nil _ _ _ _ _) HE.out rfl rfl
     · have HE : Hid (dirT b = (0,onesN b 256)):=Lib.hid (c6e HX.out.2.2.2.2 h0)
       have hn0 : (((onesN b 256).length : Int) == 0) = false:=by
        simp; intro e; rw [e] at h0; exact absurd h0 (by decide)
       obtain ⟨L,hL⟩ : ∃ L,L = onesN b 256:=⟨_,rfl⟩
       rw [<- hL] at co hn0 HE HW3
       clear hL h0
       gi_wp2
       have hO4:=(HW3.out.1.setCell (p:=⟨w.heap.size,0,none⟩) (Nat.le_refl _) (.slice Av L.length cv)).setCell (p:=⟨w.heap.size + 1,0,none⟩) (by show w.heap.size <= w.heap.size + 1; omega) (.int .i64 0)
       exact dtEnd (by omega) hO4
        ((Below.heap_setCell _ ⟨w.heap.size + 1,0,none⟩ _ w.heap.size (by show w.heap.size ≠ w.heap.size + 1; omega)).trans ((a0v HW3.out.2.2.2.1 0 _).trans rfl))
        ((a0v ((Below.heap_setCell _ ⟨w.heap.size,0,none⟩ _ (w.heap.size + 1) (by show w.heap.size + 1 ≠ w.heap.size; omega)).trans HW3.out.2.2.2.2.1) 0 _).trans rfl)
        ((Below.heap_setCell _ ⟨w.heap.size + 1,0,none⟩ _ _ (by show w.heap.size + 1 + 1 + 1 + 1 ≠ w.heap.size + 1; omega)).trans ((Below.heap_setCell _ ⟨w.heap.size,0,none⟩ _ _ (by show w.heap.size + 1 + 1 + 1 + 1 ≠ w.heap.size; omega)).trans (by rw [<- HH.out.1]; exact HW3.out.2.2.1)))
        (λ W' hW'=>c6g HW3.out.2.2.2.2.2.1 (by have:=HH.out.1; have:=HH.out.2; omega) (λ k hk=>by
         have h1:=HH.out.1
         have h2:=HH.out.2
         exact (hW' k (by omega)).trans ((Below.heap_setCell _ ⟨w.heap.size + 1,0,none⟩ _ k (by show k ≠ w.heap.size + 1; omega)).trans (Below.heap_setCell _ ⟨w.heap.size,0,none⟩ _ k (by show k ≠ w.heap.size; omega))))) HE.out rfl rfl
   · have hend:=run_endLoop (P:=Tryz.prog) hX.lp (by simp [tkRec])
     have hend2 : (Instr.endLoop (Wb.heap.size + 1)).run Tryz.prog W2 = .ok (some .ret) (W2.putObj (Wb.heap.size + 1) (.loop { tkRec fn tm Wb.heap.size .done (some .ret) with state:=.exhausted })):=hend
     have hO : Only (λ k=>w.heap.size <= k) w W2:=(Only.of_below (S:=λ k=>w.heap.size <= k) hB1).trans2 hX.on (λ k hk h=>by omega)
     obtain ⟨W3,hW3⟩ : ∃ W3,W2.putObj (Wb.heap.size + 1) (.loop { tkRec fn tm Wb.heap.size .done (some .ret) with state:=.exhausted }) = W3:=⟨_,rfl⟩
     rw [hW3] at hend2
     have hO3 : Only (λ k=>w.heap.size <= k) w W3:=by rw [<- hW3]; exact hO.putObj (by show w.heap.size <= _; omega) _
     have kd3 : W3.heap[w.heap.size + 1 + 1 + 1 + 1]? = some (.deferred (some [])):=by rw [<- hW3,<- hsb]; exact (World.putObj_heap_other (by omega)).trans ((hX.on.block _ (a0f kd) (by omega)).trans kd)
     have kr3 : W3.heap[w.heap.size]? = some (.cells #[.slice none 0 0] 47 (0,0)):=by rw [<- hW3]; exact (World.putObj_heap_other (by omega)).trans hX.r0
     have ke3 : W3.heap[w.heap.size + 1]? = some (.cells #[.int .i64 13] 24 (0,0)):=by rw [<- hW3]; exact (World.putObj_heap_other (by omega)).trans hX.r1
     have HE : Hid (dirT b = (13,[])):=Lib.hid (b5D HX.out.2.2.2.2 h0)
     refine ⟨some .ret,W3,hend2,?_⟩
     have HZ:=Lib.hid (And.intro hO3 (And.intro kd3 (And.intro kr3 ke3)))
     clear hW3 hend hend2 hO kd hs1 hB1 kr ke hX kd3 kr3 ke3 hO3 HIt HT HK h0 hne
     gi_wp2
     exact dtEnd (by omega) HZ.out.1 HZ.out.2.2.1 HZ.out.2.2.2 HZ.out.2.1 (λ W' _=>Kd.R_nil _ _ _ _ _) HE.out rfl rfl
theorem c6i (A : Option Addr) (c : Nat) (b : List Int) (w : World) (hr : (Kd.int .u8).C w A b.length b) (hb : Bytes b) (hl : b.length <= 1000000) (hc : b.length <= c) :
    Calls Tryz.prog 50 #[.slice A b.length c] w (a3S b w):=by
 by_cases h : b.length < 32
 · exact c6a A c b w h
 · exact c6h A c b w hr hb hl hc (by omega)
end Go.Proofs.YtipjlneepponpaaGreat
namespace Go.Proofs.YtipjlneepponpaaGreat
open Go.RowKit Go.IntWalk Go.Proofs.YtipjlneepponpaaGreatW.PrintWords
structure S1 (rbx mb mc p B r n0 : Nat) (ps : List Int) (qs : List (List Int)) (at_ : Nat) (w0 W : World) : Prop where
 rd : RfAt W B p ps at_
 kb : W.heap[rbx]? = some (.cells #[.pointer (some ⟨p,0,none⟩)] 48 (0,0))
 km : W.heap[mb]? = some (.cells #[.int .i64 r,.bool false,.slice (some ⟨mc,0,none⟩) 256 256] 31 (0,0))
 row : kq.R 47 W n0 (λ k=>k ≠ p /\ k ≠ rbx /\ k ≠ mb) (.slice (some ⟨mc,0,none⟩) 256 256) qs
 on : Below n0 w0 W
def a9x (rbx mb mc p B r n0 : Nat) (ps : List Int) (qs : List (List Int)) (at_ c : Nat) (w0 W : World) (e : Ending) (w' : World) : Prop:=
 Only (λ k=>k = p \/ k = mc) W w' /\ ((hdrT ps (8 * ps.length) 257 a0F 0 (2 ^ r) false at_).1 = 0 -> e = .returned (.int .i64 0) /\ S1 rbx mb mc p B r n0 ps (qs.set c (hdrT ps (8 * ps.length) 257 a0F 0 (2 ^ r) false at_).2.1) (hdrT ps (8 * ps.length) 257 a0F 0 (2 ^ r) false at_).2.2 w0 w') /\
 ((hdrT ps (8 * ps.length) 257 a0F 0 (2 ^ r) false at_).1 ≠ 0 -> e = .returned (.int .i64 (hdrT ps (8 * ps.length) 257 a0F 0 (2 ^ r) false at_).1) /\ Below n0 w0 w')
set_option maxRecDepth 100000 in
set_option maxHeartbeats 1000000 in
theorem c6j (rbx mb mc p B r n0 : Nat) (ps : List Int) (qs : List (List Int)) (at_ c : Nat) (w0 W : World) (h : S1 rbx mb mc p B r n0 ps qs at_ w0 W) (hps : Bytes ps) (hl : ps.length <= 1000000) (ha : at_ <= 8 * ps.length) (hr1 : 1 <= r) (hr2 : r <= 12) (hc : c < 256)
    (h1 : n0 <= mc) (h2 : mc < B) (h3 : B <= p) (h4 : p < rbx) (h5 : mb < B) (_ : n0 <= mb) (h7 : mb ≠ mc) :
    Calls Tryz.prog 52 #[.int .i64 c,.pointer (some ⟨rbx,0,none⟩),.pointer (some ⟨mb,0,none⟩)] W (a9x rbx mb mc p B r n0 ps qs at_ c w0 W):=by
 unfold a9x
 obtain ⟨_,_,hpb,_⟩:=h.rd.ex
 have hTk:=b4h B p r ps at_ W h.rd hps hl ha hr1 hr2 (a0f hpb)
 obtain ⟨H,hH⟩ : ∃ H,H = hdrT ps (8 * ps.length) 257 a0F 0 (2 ^ r) false at_:=⟨_,rfl⟩
 rw [<- hH] at hTk ⊢
 have HTk:=Lib.hid hTk
 have HS:=Lib.hid h
 have cb : W.cell? ⟨rbx,0,none⟩ = some (.pointer (some ⟨p,0,none⟩)):=(a0a h.kb 0).trans rfl
 obtain ⟨⟨m0,m1,m2⟩,-⟩:=cell3 h.km
 have hps':=a0f hpb
 have hcI : (0 : Int) <= (c : Int) /\ (c : Int) < 256:=by omega
 obtain ⟨hc0,hc1⟩:=hcI
 have HBw:=Lib.hid (And.intro hps' (And.intro (a0f h.km) (a0f h.kb)))
 clear h hTk hpb hH hps'
 go_enter Tryz.func52,Tryz.ntmps52
 go_wp2_with fail
 refine HTk.out.mono ?_
 rintro e w1 ⟨t1,t2,t3⟩
 have km1 : w1.heap[mb]? = some (.cells #[.int .i64 r,.bool false,.slice (some ⟨mc,0,none⟩) 256 256] 31 (0,0)):=(t3.block mb HBw.out.2.1 (by omega)).trans HS.out.km
 have kb1 : w1.heap[rbx]? = some (.cells #[.pointer (some ⟨p,0,none⟩)] 48 (0,0)):=(t3.block rbx HBw.out.2.2 (by omega)).trans HS.out.kb
 have row1 : kq.R 47 w1 n0 (λ k=>(k ≠ p /\ k ≠ rbx /\ k ≠ mb) /\ k < W.heap.size) (.slice (some ⟨mc,0,none⟩) 256 256) qs:=Kd.R_mono (Kd.R_step (Kd.R_bound HS.out.row) (λ k hk hlt=>t3.block k hlt (by have:=hk.1; exact this.1))) (λ k hk=>⟨hk.1,hk.2.2.1⟩)
 have on1 : Below n0 w0 w1:=HS.out.on.trans (t3.below (by have:=HBw.out.1; omega) (λ k hk=>by omega))
 obtain ⟨⟨u,hu⟩,hfu⟩:=b3H row1 c hc
 obtain ⟨⟨d0,d1,d2⟩,-⟩:=cell3 km1
 have HO:=Lib.hid (t3.mono (S':=λ k=>k = p \/ k = mc) (λ k _ h=>.inl h))
 have HF:=Lib.hid (And.intro km1 (And.intro kb1 (And.intro row1 on1)))
 by_cases hz : H.1 = 0
 · obtain ⟨g,rfl,hq,hql,hrd⟩:=t1 hz
   have HQ:=Lib.hid (And.intro hq (And.intro hql hrd))
   clear t1 t2 t3 km1 kb1 row1 on1 hq hql hrd
   go_wp2_with fail
   go_ret
   refine ⟨HO.out.setCell (p:=⟨mc,c,none⟩) (.inr rfl) _,λ _=>⟨rfl,?_⟩,λ h=>absurd hz h⟩
   have hO : Only (λ k=>k = mc) w1 (w1.setCell ⟨mc,c,none⟩ (.slice (some ⟨g,0,none⟩) 256 256)):=(Only.refl (λ k=>k = mc) w1).setCell (p:=⟨mc,c,none⟩) rfl _
   refine ⟨HQ.out.2.2.only hO (by show ¬ p = mc; omega) (λ k hB hk h=>by have h : k = mc:=h; omega),a1V HF.out.2.1 (p:=⟨mc,c,none⟩) (by show rbx ≠ mc; omega) _,a1V HF.out.1 (p:=⟨mc,c,none⟩) h7 _,?_,HF.out.2.2.2.setCell h1 _⟩
   have hq2 : (Kd.int .i64).R 3 w1 n0 (λ k=>W.heap.size <= k) (.slice (some ⟨g,0,none⟩) 256 256) H.2.1:=Kd.R_lower (Kd.R_mono (Kd.R_bound HQ.out.1) (λ k hk=>hk.2.1)) (by have:=HBw.out.1; omega)
   exact b3D (okp:=λ k=>W.heap.size <= k) (Kd.R_mono HF.out.2.2.1 (λ k hk=>hk.1)) c hc hq2 (λ k hk=>⟨⟨by have:=HBw.out.1; omega,by have:=HBw.out.2.2; omega,by have:=HBw.out.2.1; omega⟩,by have:=((Kd.R_bound HF.out.2.2.1).1 mc rfl).1.2; omega⟩)
 · have he:=t2 hz
   subst he
   clear t1 t2 t3 km1 kb1 row1 on1
   go_wp2_with fail
   go_ret
   exact ⟨HO.out.setCell (p:=⟨mc,c,none⟩) (.inr rfl) _,λ h=>absurd h hz,λ _=>⟨rfl,HF.out.2.2.2.setCell h1 _⟩⟩
def b5E (rbx mb mc p B r n0 : Nat) (ps : List Int) (T : Int × List (List Int) × Nat) (w0 : World) (e : Ending) (w' : World) : Prop:=
 (T.1 = 0 -> e = .returned (.int .i64 0) /\ S1 rbx mb mc p B r n0 ps T.2.1 T.2.2 w0 w') /\ (T.1 ≠ 0 -> e = .returned (.int .i64 T.1) /\ Below n0 w0 w')
theorem c6k (ps : List Int) (r : Nat) (l : List Int) {i : Nat} (hi : i < l.length) (qs : List (List Int)) (at_ : Nat) : hdrsT ps r (l.drop i) qs at_ =
    if (hdrT ps (8 * ps.length) 257 a0F 0 (2 ^ r) false at_).1 ≠ 0 then ((hdrT ps (8 * ps.length) 257 a0F 0 (2 ^ r) false at_).1,qs,at_) else
    hdrsT ps r (l.drop (i + 1)) (qs.set (l.getD i 0).toNat (hdrT ps (8 * ps.length) 257 a0F 0 (2 ^ r) false at_).2.1) (hdrT ps (8 * ps.length) 257 a0F 0 (2 ^ r) false at_).2.2:=by
 rw [List.drop_eq_getElem_cons hi,List.getD_eq_getElem?_getD,List.getElem?_eq_getElem hi]
 rfl
set_option maxRecDepth 100000 in
set_option maxHeartbeats 1000000 in
theorem c6l (Al : Option Addr) (cl : Nat) (l : List Int) (rbx mb mc p B r n0 : Nat) (ps : List Int) (qs : List (List Int)) (at_ : Nat) (w0 W : World) (h : S1 rbx mb mc p B r n0 ps qs at_ w0 W) (hl0 : (Kd.int .i64).R 3 W n0 (λ k=>k < mc /\ k < mb) (.slice Al l.length cl) l) (hlc : ∀ c ∈ l,0 <= c /\ c < 256) (hll : l.length <= 256)
    (hps : Bytes ps) (hl : ps.length <= 1000000) (ha : at_ <= 8 * ps.length) (hr1 : 1 <= r) (hr2 : r <= 12)
    (h1 : n0 <= mc) (h2 : mc < B) (h3 : B <= p) (h4 : p < rbx) (h5 : mb < B) (h6 : n0 <= mb) (h7 : mb ≠ mc) :
    Calls Tryz.prog 51 #[.slice Al l.length cl,.func (.func 52) #[] #[.pointer (some ⟨rbx,0,none⟩),.pointer (some ⟨mb,0,none⟩)]] W (b5E rbx mb mc p B r n0 ps (hdrsT ps r l qs at_) w0):=by
 obtain ⟨T,hT⟩ : ∃ T,T = hdrsT ps r l qs at_:=⟨_,rfl⟩
 rw [<- hT]
 have hT0 : hdrsT ps r (l.drop 0) qs at_ = T:=hT.symm
 have HX:=Lib.hid (And.intro h (And.intro hl0 (And.intro hlc (And.intro hps (And.intro ha hT0)))))
 clear h hl0 hlc hps ha hT hT0
 go_enter Tryz.func51,Tryz.ntmps51
 go_wp2_with fail
 go_loopw [6,7,10] (λ _ _ kv wr=>∃ i : Nat,i <= l.length /\ kv = .int .i64 i /\ Hid (∃ qs' at',S1 rbx mb mc p B r n0 ps qs' at' w0 wr /\ at' <= 8 * ps.length /\ hdrsT ps r (l.drop i) qs' at' = T /\ (Kd.int .i64).R 3 wr n0 (λ k=>k < mc /\ k < mb) (.slice Al l.length cl) l)) (λ _ _ kv _=>l.length - (intOf kv).toNat)
 case atStart=>exact ⟨0,by omega,rfl,Lib.hid ⟨qs,at_,HX.out.1,HX.out.2.2.2.2.1,HX.out.2.2.2.2.2,HX.out.2.1⟩⟩
 case round=>
  obtain ⟨i,hi,rfl,H⟩:=hrel
  obtain ⟨qs',at',hS,hat,hTi,hlr⟩:=H.out
  by_cases hlt : i < l.length
  · obtain ⟨ad,hA,hci⟩:=a0C (Kd.R_reads' hlr).2.2 i hlt
    subst hA
    have hm:=HX.out.2.2.1 _ (a1t hlt)
    obtain ⟨c,hc⟩ : ∃ c : Nat,l.getD i 0 = (c : Int):=⟨(l.getD i 0).toNat,by omega⟩
    rw [hc] at hci hm
    have hI : (i : Int) < (l.length : Int):=by omega
    rw [c6k ps r l hlt,hc,Int.toNat_natCast] at hTi
    have hCl:=c6j rbx mb mc p B r n0 ps qs' at' c w0 wr hS HX.out.2.2.2.1 hl hat hr1 hr2 (by omega) h1 h2 h3 h4 h5 h6 h7
    have hend:=λ h=>a6M 257 a0F 0 (2 ^ r) false at' hat (h : (hdrT ps (8 * ps.length) 257 a0F 0 (2 ^ r) false at').1 = 0)
    unfold a9x at hCl
    obtain ⟨Hd,hHd⟩ : ∃ Hd,Hd = hdrT ps (8 * ps.length) 257 a0F 0 (2 ^ r) false at':=⟨_,rfl⟩
    rw [<- hHd] at hCl hTi hend
    have HC:=Lib.hid (And.intro hCl (And.intro hTi (And.intro hend hlr)))
    clear hCl hTi hend hlr hS hat hHd hc hm H
    go_wp2_with fail
    refine HC.out.1.mono ?_
    rintro e w2 ⟨hon,t1,t2⟩
    by_cases hz : Hd.1 = 0
    · obtain ⟨rfl,hS2⟩:=t1 hz
      have hT2:=HC.out.2.1
      rw [if_neg (λ h=>h hz)] at hT2
      have HN : Hid (∃ qs' at',S1 rbx mb mc p B r n0 ps qs' at' w0 w2 /\ at' <= 8 * ps.length /\ hdrsT ps r (l.drop (i + 1)) qs' at' = T /\ (Kd.int .i64).R 3 w2 n0 (λ k=>k < mc /\ k < mb) (.slice (some ad) l.length cl) l):=
       Lib.hid ⟨_,_,hS2,HC.out.2.2.1 hz,hT2,Kd.R_step HC.out.2.2.2 (λ k hk hlt=>hon.block k hlt (λ h=>by rcases h with h | h <;> omega))⟩
      clear t1 t2 hS2 hon hT2
      go_wp2_with fail
      go_roundw
      case rel=>exact ⟨i + 1,by omega,by go_num,HN⟩
      case measure=>simp [intOf]; omega
    · obtain ⟨rfl,hb⟩:=t2 hz
      have hT2:=HC.out.2.1
      rw [if_pos hz] at hT2
      have HB:=Lib.hid (And.intro hb hT2)
      have hz2 : (Hd.1 != 0) = true:=by simpa using hz
      clear t1 t2 hon hb hT2
      go_wp2_with fail
      go_ret
      rw [<- HB.out.2]
      exact ⟨λ h=>absurd h hz,λ _=>⟨rfl,HB.out.1⟩⟩
  · obtain rfl : i = l.length:=by omega
    have hT3 : T = (0,qs',at'):=by rw [<- hTi,List.drop_length]; rfl
    clear hlr hTi
    go_wp2_with fail
    go_ret
    rw [hT3]
    exact ⟨λ _=>⟨rfl,hS⟩,λ h=>absurd rfl h⟩
theorem a9y (A : Option Addr) (n c k : Nat) (hk : k <= n) : ∀ W : World,(Instr.slice 22 (.slice A n c) (some (.int .i64 (k : Int))) none none).run Tryz.prog W = .ok (.slice (if c = k then A else A.map (·.add (k * 1))) (n - k) (c - k)) W:=by
 intro W
 obtain ⟨i0,hi0,hz0,hz1,hz2⟩:=info_parts a1p
 have:=b6x (P:=Tryz.prog) 22 5 .i64 Tryz.underlying22 hi0 1 hz1 A n c (k : Int) (by omega) (by omega) W
 simp only [Int.toNat_natCast] at this
 exact this
def a5j (ps : List Int) (w : World) (e : Ending) (w' : World) : Prop:=
 ((a0H ps).1 = 0 -> ∃ vm vp,e = .returned (.tuple #[.agg #[.int .i64 (a0H ps).2.1,.bool false,vm],vp,.int .i64 0]) /\ kq.R 47 w' w.heap.size (λ _=>True) vm (a0H ps).2.2.1 /\ (Kd.int .u8).R 5 w' w.heap.size (λ _=>True) vp (a0H ps).2.2.2) /\
 ((a0H ps).1 ≠ 0 -> e = .returned (.tuple #[.agg #[.int .i64 0,.bool false,.slice none 0 0],.slice none 0 0,.int .i64 (a0H ps).1])) /\ Below w.heap.size w w'
theorem a5k {ps : List Int} {k : Int} {w w' : World} (h : a0H ps = (k,0,[],[])) (hk : k ≠ 0) (hb : Below w.heap.size w w') : a5j ps w (.returned (.tuple #[.agg #[.int .i64 0,.bool false,.slice none 0 0],.slice none 0 0,.int .i64 k])) w':=by
 unfold a5j
 rw [h]
 exact ⟨λ e=>absurd e hk,λ _=>rfl,hb⟩
def SR (w5 : World) (mb rx m0 : Nat) (a b c q : Value) (W : World) : Prop:=Below w5.heap.size w5 W /\ W.cell? ⟨mb,0,none⟩ = some a /\ W.cell? ⟨mb,1,none⟩ = some b /\ W.cell? ⟨mb,2,none⟩ = some c /\ W.cell? ⟨rx,0,none⟩ = some q /\ W.cell? ⟨m0,0,none⟩ = some (.int .i64 0) /\ W.cell? ⟨m0,1,none⟩ = some (.bool false) /\ W.cell? ⟨m0,2,none⟩ = some (.slice none 0 0) /\ W.frozen? ⟨m0,0,none⟩ = false /\ W.frozen? ⟨m0,1,none⟩ = false /\ W.frozen? ⟨m0,2,none⟩ = false
theorem SR.keep {w5 W w' : World} {mb rx m0 : Nat} {a b c q : Value} (h : SR w5 mb rx m0 a b c q W) (hb : Below W.heap.size W w') : SR w5 mb rx m0 a b c q w':=by
 obtain ⟨h0,h1,h2,h3,h4,h5,h6,h7,h8,h9,h10⟩:=h
 exact ⟨a0g h0 hb,a0t hb h1,a0t hb h2,a0t hb h3,a0t hb h4,a0t hb h5,a0t hb h6,a0t hb h7,a4w hb h5 h8,a4w hb h6 h9,a4w hb h7 h10⟩
theorem SR.drew {w5 W : World} {mb rx m0 : Nat} {a b c q : Value} (h : SR w5 mb rx m0 a b c q W) : SR w5 mb rx m0 a b c q W.drew:=by
 obtain ⟨h0,h1,h2,h3,h4,h5,h6,h7,h8,h9,h10⟩:=h
 exact ⟨h0.drew,h1,h2,h3,h4,h5,h6,h7,h8,h9,h10⟩
set_option maxRecDepth 100000 in
set_option maxHeartbeats 4000000 in
theorem b5F (A : Option Addr) (c : Nat) (ps : List Int) (w : World) (hr : (Kd.int .u8).C w A ps.length ps) (hps : Bytes ps) (hl : ps.length <= 1000000) (hc : ps.length <= c) :
    Calls Tryz.prog 19 #[.slice A ps.length c] w (a5j ps w):=by
 obtain ⟨W,hW⟩ : ∃ W,W = w.alloc (.cells #[.int .i64 0,.bool false,.slice none 0 0] 31):=⟨_,rfl⟩
 have hb1 : Below w.heap.size w W:=by rw [hW]; exact (Below.refl _ _).alloc (Nat.le_refl _) _
 have hk1 : W.heap[w.heap.size]? = some (.cells #[.int .i64 0,.bool false,.slice none 0 0] 31 (0,0)):=by rw [hW]; exact a0m _ _
 have HB1:=Lib.hid hb1
 have HK1:=Lib.hid hk1
 have HR:=Lib.hid (And.intro (Kd.C_below hr hb1) (And.intro hps (And.intro hl hc)))
 obtain ⟨⟨ca,cb,cc⟩,fa,fb,fc⟩:=cell3 hk1
 by_cases h0 : ps.length = 0
 · have HE:=Lib.hid (show a0H ps = (3,0,[],[]) from by unfold a0H; rw [if_pos h0])
   rw [h0]
   clear hr hps hl hc hb1 hk1 h0
   go_enter Tryz.func19,Tryz.ntmps19
   go_wp2_with fail
   refine bodyPost_ret (a2t (fn:=Tryz.f19) (p:=2) (u:=3) (v:=4) (ty:=31) rfl _ _ _ _ rfl (a1E (a0m _ _))) rfl ?_
   exact a5k HE.out (by decide) ((Below.refl _ _).alloc (Nat.le_refl _) _)
 have hne : ((ps.length : Int) == 0) = false:=by simp; intro e; subst e; simp at h0
 obtain ⟨ad,hA,hcx⟩:=a0C (Kd.C_below hr hb1) 0 (by omega)
 subst hA
 have e0 : ad.add 0 = ad:=by simp [Addr.add]
 rw [e0] at hcx
 have hx:=hps _ (a1t (by omega : 0 < ps.length))
 obtain ⟨v,hv⟩ : ∃ v : Nat,v = (ps.getD 0 0).toNat:=⟨_,rfl⟩
 have hv2 : ps.getD 0 0 = (v : Int):=by omega
 rw [hv2] at hcx hx
 have hI0 : (0 : Int) < (ps.length : Int):=by omega
 by_cases hlog : 5 <= v /\ v <= 9
 · have d1 : decide ((v : Int) < 5) = false:=decide_eq_false (by omega)
   have d2 : decide ((9 : Int) < (v : Int)) = false:=decide_eq_false (by omega)
   have hcW:=hcx
   rw [hW] at hcx
   have hsl0:=a9y (some ad) ps.length c 1 (by omega)
   obtain ⟨A1,hA1⟩ : ∃ A1,A1 = (if c = 1 then some ad else (some ad).map (·.add (1 * 1))):=⟨_,rfl⟩
   rw [<- hA1] at hsl0
   have hsl : ∀ W : World,(Instr.slice 22 (.slice (some ad) ps.length c) (some (.int .i64 1)) none none).run Tryz.prog W = .ok (.slice A1 (ps.length - 1) (c - 1)) W:=hsl0
   have hC1 : (Kd.int .u8).C W A1 (ps.drop 1).length (ps.drop 1):=by
    have:=Kd.C_drop (c:=c) (m:=1) HR.out.1 (by omega) hc
    rw [hA1]; exact this
   have hl1 : (ps.drop 1).length = ps.length - 1:=List.length_drop
   have hDT:=c6i A1 (c - 1) (ps.drop 1) W hC1 (λ x hx=>hps x (List.mem_of_mem_drop hx)) (by omega) (by omega)
   rw [hl1] at hDT
   unfold a3S at hDT
   obtain ⟨dt,hdt⟩ : ∃ dt,dt = dirT (ps.drop 1):=⟨_,rfl⟩
   rw [<- hdt] at hDT
   have HDT:=Lib.hid hDT
   have HV:=Lib.hid (And.intro hv (And.intro hlog (And.intro hdt (And.intro h0 hcW))))
   clear hr hps hl hc hb1 hk1 h0 hv hv2 e0 hx hlog hA1 hC1 hl1 hDT hdt hcW hsl0
   go_enter Tryz.func19,Tryz.ntmps19
   go_wp2_with fail
   rw [<- hW]
   clear hW hcx
   refine HDT.out.mono ?_
   rintro e w1 ⟨vl,rfl,hvl,hb⟩
   have hk2:=a0l HK1.out hb
   have hcx1 : w1.cell? ad = some (.int .u8 v):=a0t hb HV.out.2.2.2.2
   have HB2:=Lib.hid (a0g HB1.out hb)
   have HWs:=Lib.hid (a0f HK1.out)
   have HK2:=Lib.hid hk2
   obtain ⟨⟨ca,cb,cc⟩,fa,fb,fc⟩:=cell3 hk2
   by_cases hz : dt.1 = 0
   · have hlst : dt.2.length <= 256 /\ (∀ x ∈ dt.2,0 <= x /\ x < 256) /\ 33 <= ps.length:=by
       have e:=HV.out.2.2.1
       unfold dirT at e
       split at e
       · rw [e] at hz; cases hz
       · split at e
         · rw [e] at hz; cases hz
         · rename_i h32 _
           rw [List.length_drop] at h32
           rw [e]
           refine ⟨b3X _ 256,λ x hx=>?_,by omega⟩
           obtain ⟨c,rfl,h1,_⟩:=b3Y hx
           omega
     obtain ⟨Al,cl,rfl⟩:=Kd.R_slice hvl
     have HL:=Lib.hid (And.intro hvl (And.intro hlst hb))
     have hmk : ∀ w : World,(Instr.makeSlice 29 (.int .i64 256) (.int .i64 256)).run Tryz.prog w = .ok (.slice (some ⟨w.heap.size,0,none⟩) 256 256) (w.alloc (.cells (madeCells #[.slice none 0 0] 256) 47)):=λ w=>b3z 256 (by omega) w
     have hwr : IntKind.i64.wrap (v : Int) = (v : Int):=i64_in _ (by have:=HV.out.2.1; omega)
     have hca1 : ∀ o : Obj,(w1.alloc o).cell? ad = some (.int .u8 v):=λ o=>a0t ((Below.refl _ _).alloc (Nat.le_refl _) o) hcx1
     have hca2 : ∀ o o' : Obj,((w1.alloc o).alloc o').cell? ad = some (.int .u8 v):=λ o o'=>a0t (((Below.refl w1.heap.size w1).alloc (Nat.le_refl _) o).alloc (by simp) o') hcx1
     clear hvl hlst hb hk2
     rw [hz]
     go_wp2_with fail
     go_cut [7] (λ s7 wx=>a8B v w1 s7 wx)
     case first=>
      go_region
      all_goals
       go_wp2_with fail
       go_meet
       refine' b3I _ ?_ ?_ ?_ ?_ ?_ ?_
       rotate_left 1
       · repeat' (with_reducible (first | exact a0m _ _ | exact a2D _ _ _ | refine b3C ?_ | refine a0r ?_ _))
       · repeat' (with_reducible (first | refine a6C _ _ _ ?_ ?_ | refine b3B _ _ _ _ ?_ ?_ | refine Kd.R_drew ?_ | refine Kd.R_alloc ?_ _))
         all_goals omega
       · exact (((Below.refl w1.heap.size w1).alloc (Nat.le_refl _) _).alloc (by simp) _).drew
       all_goals omega
     case rest=>
      obtain ⟨mb,g,rfl,hmb,hg,hne7,hblk,hrow,hbl⟩:=hcut
      have h33:=HL.out.2.1.2.2
      have hsl0:=a9y (some ad) ps.length c 33 h33
      obtain ⟨A3,hA3⟩ : ∃ A3,A3 = (if c = 33 then some ad else (some ad).map (·.add (33 * 1))):=⟨_,rfl⟩
      rw [<- hA3] at hsl0
      have hsl3 : ∀ W : World,(Instr.slice 22 (.slice (some ad) ps.length c) (some (.int .i64 33)) none none).run Tryz.prog W = .ok (.slice A3 (ps.length - 33) (c - 33)) W:=hsl0
      have hBc : Below W.heap.size W wc:=a0g HL.out.2.2 hbl
      have hC3 : (Kd.int .u8).C wc A3 (ps.drop 33).length (ps.drop 33):=by
       have:=Kd.C_drop (c:=c) (m:=33) (Kd.C_below HR.out.1 hBc) h33 HR.out.2.2.2
       rw [hA3]; exact this
      obtain ⟨ps3,hps3⟩ : ∃ ps3,ps3 = ps.drop 33:=⟨_,rfl⟩
      have hl3 : ps3.length = ps.length - 33:=by rw [hps3]; exact List.length_drop
      have hb3 : Bytes ps3:=by rw [hps3]; exact λ x hx=>HR.out.2.1 x (List.mem_of_mem_drop hx)
      rw [<- hps3] at hC3
      have hnw:=a8P A3 (c - 33) ps3 wc hC3 (by have:=HR.out.2.2.1; omega) (by have:=HR.out.2.2.2; omega) (λ h=>by
       rw [hA3] at h; split at h <;> cases h)
      rw [hl3] at hnw
      have HNw:=Lib.hid hnw
      have HM:=Lib.hid (And.intro hmb (And.intro hg (And.intro hne7 (And.intro hblk (And.intro hrow hbl)))))
      have HP3:=Lib.hid (And.intro hps3 (And.intro hl3 (And.intro hb3 hBc)))
      clear hmb hg hne7 hblk hrow hbl h33 hsl0 hA3 hBc hC3 hps3 hl3 hb3 hnw
      have hmf : ∀ (fn : Fn) (first cap : Array Value) (w : World),(Instr.makeFunc fn first cap).run Tryz.prog w = .ok (.func fn first cap) w:=λ _ _ _ _=>rfl
      go_wp2_with fail
      refine HNw.out.mono ?_
      rintro e w2 ⟨p,rfl,hp,hrd,hb⟩
      obtain ⟨w3,hw3⟩ : ∃ w3,w3 = w2.alloc (.cells #[.pointer (some ⟨p,0,none⟩)] 48):=⟨_,rfl⟩
      obtain ⟨rx,hrx⟩ : ∃ rx,rx = w2.heap.size:=⟨_,rfl⟩
      have hb23 : Below w2.heap.size w2 w3:=by rw [hw3]; exact (Below.refl _ _).alloc (Nat.le_refl _) _
      have hkx : w3.heap[rx]? = some (.cells #[.pointer (some ⟨p,0,none⟩)] 48 (0,0)):=by rw [hw3,hrx]; exact a0m _ _
      obtain ⟨_,_,hpb,_⟩:=hrd.ex
      have hprx : p < rx:=by rw [hrx]; exact a0f hpb
      have hbc3 : Below wc.heap.size wc w3:=a0g hb hb23
      have hmbl:=a0f HM.out.2.2.2.1
      have hgl:=((Kd.R_bound HM.out.2.2.2.2.1).1 g rfl).2.2.1
      have h1s:=HB2.out.size
      have h2s:=HL.out.2.2.size
      have hS1 : S1 rx mb g p wc.heap.size v W.heap.size ps3 (List.replicate 256 []) 0 W w3:=by
       refine ⟨hrd.below hb23,hkx,a0l HM.out.2.2.2.1 hbc3,?_,a0g (a0g HL.out.2.2 HM.out.2.2.2.2.2) hbc3⟩
       exact Kd.R_below (Kd.R_lower (Kd.R_mono (Kd.R_bound HM.out.2.2.2.2.1) (λ k hk=>⟨by have:=hk.2.2.1; omega,by have:=hk.2.2.1; omega,hk.1⟩)) h2s) hbc3
      have hL1 : (Kd.int .i64).R 3 w3 W.heap.size (λ k=>k < g /\ k < mb) (.slice Al dt.2.length cl) dt.2:=by
       have hx:=HL.out.1
       have h3:=HM.out.1
       have h4:=HM.out.2.1
       exact Kd.R_below (Kd.R_below (Kd.R_mono (Kd.R_bound hx) (λ k hk=>⟨by have:=hk.2.2.1; omega,by have:=hk.2.2.1; omega⟩)) HM.out.2.2.2.2.2) hbc3
      have hEa:=c6l Al cl dt.2 rx mb g p wc.heap.size v W.heap.size ps3 (List.replicate 256 []) 0 W w3 hS1 hL1 HL.out.2.1.2.1 HL.out.2.1.1 HP3.out.2.2.1 (by have:=HP3.out.2.1; have:=HR.out.2.2.1; omega) (Nat.zero_le _) (by have:=HV.out.2.1; omega) (by have:=HV.out.2.1; omega) (by have:=HM.out.2.1; omega) hgl hp hprx hmbl (by have:=HM.out.1; omega) HM.out.2.2.1
      unfold b5E at hEa
      have hHe : (hdrsT ps3 v dt.2 (List.replicate 256 []) 0).1 = 0 -> (hdrsT ps3 v dt.2 (List.replicate 256 []) 0).2.2 <= 8 * ps3.length:=b4T _ _ _ _ _ (Nat.zero_le _)
      obtain ⟨T,hT⟩ : ∃ T,T = hdrsT ps3 v dt.2 (List.replicate 256 []) 0:=⟨_,rfl⟩
      rw [<- hT] at hEa hHe
      have HEa:=Lib.hid (And.intro hEa (And.intro hHe (And.intro hT hbc3)))
      have HPx:=Lib.hid (And.intro hp (And.intro hprx (And.intro hmbl hgl)))
      clear hS1 hL1 hEa hHe hT hrd hb hb23 hkx hpb hbc3 hmbl hgl h1s h2s hp hprx
      go_wp2_with fail
      rw [<- hw3,<- hrx]
      clear hw3 hrx
      have HSM:=Lib.hid (show a0H ps = if T.1 ≠ 0 then (T.1,0,[],[]) else if T.2.2 % 8 ≠ 0 /\ (ps3.getD (T.2.2 / 8) 0).toNat / 2 ^ (T.2.2 % 8) ≠ 0 then (4,0,[],[]) else (0,v,T.2.1,ps3.drop ((T.2.2 + 7) / 8)) from by
       have hlg:=HV.out.2.1
       unfold a0H
       rw [if_neg HV.out.2.2.2.1,<- HV.out.1,if_neg (by omega),<- HV.out.2.2.1,if_neg (λ h=>h hz),<- HP3.out.1]
       have e : a2s = List.replicate 256 []:=rfl
       rw [e,<- HEa.out.2.2.1])
      refine HEa.out.1.mono ?_
      rintro e w4 ⟨t1,t2⟩
      by_cases hT0 : T.1 = 0
      · obtain ⟨rfl,hS4⟩:=t1 hT0
        have HS4:=Lib.hid hS4
        have hkx4:=hS4.kb
        have hcx4 : w4.cell? ⟨rx,0,none⟩ = some (.pointer (some ⟨p,0,none⟩)):=(a0a hkx4 0).trans rfl
        have HPd:=Lib.hid (b4i wc.heap.size p ps3 T.2.2 w4 hS4.rd HP3.out.2.2.1 (by have:=HP3.out.2.1; have:=HR.out.2.2.1; omega) (HEa.out.2.1 hT0))
        clear t1 t2 hS4 hkx4
        go_wp2_with fail
        refine HPd.out.mono ?_
        rintro e w5 ⟨rfl,p2,p3⟩
        have hO5:=Lib.hid p3
        have hk5 : w5.heap[w.heap.size]? = some (.cells #[.int .i64 0,.bool false,.slice none 0 0] 31 (0,0)):=by
         rw [p3.block _ (by have:=HS4.out.on.size; have:=HWs.out; omega) (by have:=HPx.out.1; have:=HP3.out.2.2.2.size; have:=HWs.out; omega)]
         exact (HS4.out.on.block _ HWs.out).trans HK1.out
        have HK5:=Lib.hid hk5
        have HB5 : Hid (Below w.heap.size w w5):=Lib.hid ((HB1.out.trans (HS4.out.on.mono HB1.out.size)).trans (p3.below (by have:=HB1.out.size; have:=HS4.out.on.size; omega) (λ k hk=>by have:=HPx.out.1; have:=HP3.out.2.2.2.size; have:=HB1.out.size; omega)))
        have hcx5 : w5.cell? ⟨rx,0,none⟩ = some (.pointer (some ⟨p,0,none⟩)):=(a0a ((p3.block rx (a0f HS4.out.kb) (by have:=HPx.out.2.1; omega)).trans HS4.out.kb) 0).trans rfl
        obtain ⟨⟨ca,cb,cc⟩,fa,fb,fc⟩:=cell3 hk5
        cases hpd : padOk ps3 T.2.2 with
        | false=>
         have HE : Hid (a0H ps = (4,0,[],[])):=by
          have:=HSM.out
          rw [if_neg (λ h=>h hT0)] at this
          unfold padOk at hpd
          rw [if_pos (by have h:=of_decide_eq_false hpd; exact Classical.not_not.1 h)] at this; exact Lib.hid this
         clear p2 p3 hk5 hpd hT0
         go_wp2_with fail
         refine bodyPost_ret (a2t (fn:=Tryz.f19) (p:=2) (u:=3) (v:=4) (ty:=31) rfl _ _ _ _ rfl (a1E (a1D HK5.out _ _ _))) rfl ?_
         exact a5k HE.out (by decide) (((HB5.out.setCell (Nat.le_refl _) _).setCell (Nat.le_refl _) _).setCell (Nat.le_refl _) _)
        | true=>
         have HE : Hid (a0H ps = (0,v,T.2.1,ps3.drop ((T.2.2 + 7) / 8))):=by
          have:=HSM.out
          rw [if_neg (λ h=>h hT0)] at this
          unfold padOk at hpd
          rw [if_neg (of_decide_eq_true hpd)] at this; exact Lib.hid this
         have km5 : w5.heap[mb]? = some (.cells #[.int .i64 v,.bool false,.slice (some ⟨g,0,none⟩) 256 256] 31 (0,0)):=(p3.block mb (a0f HS4.out.km) (by have:=HPx.out.2.2.1; have:=HPx.out.1; omega)).trans HS4.out.km
         obtain ⟨⟨b0,b1,b2⟩,-⟩:=cell3 km5
         have hle5 : 8 * ((T.2.2 + 7) / 8) <= 8 * ps3.length:=by have:=HEa.out.2.1 hT0; omega
         have hl35 : ps3.length <= 1000000:=by have:=HP3.out.2.1; have:=HR.out.2.2.1; omega
         have HRs : Hid (∀ W' : World,Below w5.heap.size w5 W' -> Calls Tryz.prog 36 #[.pointer (some ⟨p,0,none⟩)] W' (b4j ps3 (8 * ((T.2.2 + 7) / 8)) W')):=Lib.hid λ W' hW'=>b4k wc.heap.size p ps3 _ W' ((p2 hpd).below hW') hl35 hle5
         have s0 : SR w5 mb rx w.heap.size (.int .i64 v) (.bool false) (.slice (some ⟨g,0,none⟩) 256 256) (.pointer (some ⟨p,0,none⟩)) w5:=⟨Below.refl _ _,b0,b1,b2,hcx5,ca,cb,cc,fa,fb,fc⟩
         clear p2 p3 hk5 hpd km5 hle5 hl35
         go_wp2_with fail
         go_region_law (go_simp; go_at_call 36; refine (HRs.out _ (by first | exact And.left ‹SR _ _ _ _ _ _ _ _ _› | exact (SR.drew ‹SR _ _ _ _ _ _ _ _ _›).1)).mono ?_; rintro e w6 ⟨vp,rfl,hvp,hb⟩; have s1:=(by first | exact SR.keep ‹_› hb | exact SR.keep (SR.drew ‹_›) hb : SR w5 mb rx w.heap.size (.int .i64 v) (.bool false) (.slice (some ⟨g,0,none⟩) 256 256) (.pointer (some ⟨p,0,none⟩)) w6); obtain ⟨g0,g1,g2,g3,g4,g5,g6,g7,g8,g9,g10⟩:=id s1)
         all_goals
          have HV6:=Lib.hid (And.intro hvp s1)
          clear hvp hb
          go_wp2_with fail
          refine bodyPost_ret (a2t (fn:=Tryz.f19) (p:=2) (u:=3) (v:=4) (ty:=31) rfl _ _ _ _ rfl (a1E (a1D (a0l HK5.out HV6.out.2.1) _ _ _))) rfl ?_
          have hlt5 : w.heap.size < w5.heap.size:=a0f HK5.out
          have hB6 : Below w.heap.size w w6:=a0g HB5.out HV6.out.2.1
          refine ⟨(λ _=>?_),(λ h=>by rw [HE.out] at h; exact absurd rfl h),((hB6.setCell (Nat.le_refl _) _).setCell (Nat.le_refl _) _).setCell (Nat.le_refl _) _⟩
          rw [HE.out]
          have e8 : (8 * ((T.2.2 + 7) / 8) + 7) / 8 = (T.2.2 + 7) / 8:=by omega
          have hp6:=HV6.out.1
          rw [e8] at hp6
          have hWlt:=HWs.out
          refine ⟨_,_,rfl,?_,?_⟩
          · have h4 : kq.R 47 w5 W.heap.size (λ k=>W.heap.size <= k) (.slice (some ⟨g,0,none⟩) 256 256) T.2.1:=Kd.R_mono (Kd.R_bound (Kd.R_step HS4.out.row (λ k hk hlt=>hO5.out.block k hlt hk.1))) (λ k hk=>hk.2.1)
            have h5 : kq.R 47 w6 w.heap.size (λ k=>k ≠ w.heap.size) (.slice (some ⟨g,0,none⟩) 256 256) T.2.1:=Kd.R_mono (Kd.R_lower (Kd.R_below h4 HV6.out.2.1) (Nat.le_of_lt hWlt)) (λ k hk=>by omega)
            exact Kd.R_mono (a2E h5 _ _ _) (λ _ _=>trivial)
          · have h4 : (Kd.int .u8).R 5 w6 w.heap.size (λ k=>k ≠ w.heap.size) vp (ps3.drop ((T.2.2 + 7) / 8)):=Kd.R_mono (Kd.R_lower (Kd.R_bound hp6) (Nat.le_of_lt hlt5)) (λ k hk=>Nat.ne_of_gt (Nat.lt_of_lt_of_le hlt5 hk.2.1))
            exact Kd.R_mono (a2E h4 _ _ _) (λ _ _=>trivial)
      · obtain ⟨rfl,hb4⟩:=t2 hT0
        have HE : Hid (a0H ps = (T.1,0,[],[])):=by have:=HSM.out; rw [if_pos hT0] at this; exact Lib.hid this
        have HB4:=Lib.hid (HB1.out.trans (hb4.mono HB1.out.size))
        have hk4 : w4.heap[w.heap.size]? = some (.cells #[.int .i64 0,.bool false,.slice none 0 0] 31 (0,0)):=(hb4.block _ HWs.out).trans HK1.out
        have HK4:=Lib.hid hk4
        obtain ⟨⟨ca,cb,cc⟩,fa,fb,fc⟩:=cell3 hk4
        have hT2 : (T.1 != 0) = true:=by simpa using hT0
        clear t1 t2 hb4 hk4
        go_wp2_with fail
        refine bodyPost_ret (a2t (fn:=Tryz.f19) (p:=2) (u:=3) (v:=4) (ty:=31) rfl _ _ _ _ rfl (a1E (a1D HK4.out _ _ _))) rfl ?_
        exact a5k HE.out hT0 (((HB4.out.setCell (Nat.le_refl _) _).setCell (Nat.le_refl _) _).setCell (Nat.le_refl _) _)
   · have HE:=Lib.hid (show a0H ps = (dt.1,0,[],[]) from by
       have hlg:=HV.out.2.1
       unfold a0H
       rw [if_neg HV.out.2.2.2.1,<- HV.out.1,if_neg (by omega),<- HV.out.2.2.1,if_pos hz])
     have hz2 : (dt.1 != 0) = true:=by simpa using hz
     obtain ⟨Al,cl,rfl⟩:=Kd.R_slice hvl
     clear hvl hb hk2
     go_wp2_with fail
     refine bodyPost_ret (a2t (fn:=Tryz.f19) (p:=2) (u:=3) (v:=4) (ty:=31) rfl _ _ _ _ rfl (a1E (a1D HK2.out _ _ _))) rfl ?_
     exact a5k HE.out hz (((HB2.out.setCell (Nat.le_refl _) _).setCell (Nat.le_refl _) _).setCell (Nat.le_refl _) _)
 · have HE:=Lib.hid (show a0H ps = (13,0,[],[]) from by unfold a0H; rw [if_neg h0,<- hv,if_pos (by omega)])
   have hd : (decide ((v : Int) < 5) = true) \/ (decide ((v : Int) < 5) = false /\ decide ((9 : Int) < (v : Int)) = true):=by
    by_cases h5 : v < 5
    · exact .inl (decide_eq_true (by omega))
    · exact .inr ⟨decide_eq_false (by omega),decide_eq_true (by omega)⟩
   rw [hW] at hcx
   clear hr hps hl hc hb1 hk1 h0 hv hv2 e0 hx hlog ca cb cc fa fb fc HB1 HK1 HR hW
   rcases hd with hd | ⟨hd,hd2⟩
   all_goals
    go_enter Tryz.func19,Tryz.ntmps19
    go_wp2_with fail
    refine bodyPost_ret (a2t (fn:=Tryz.f19) (p:=2) (u:=3) (v:=4) (ty:=31) rfl _ _ _ _ rfl (a1E (a0m _ _))) rfl ?_
    exact a5k HE.out (by decide) ((Below.refl _ _).alloc (Nat.le_refl _) _)
theorem Told.nil (k : Int) {w w' : World} (hb : Below w.heap.size w w') : Told k [] w (.returned (.tuple #[.slice none 0 0,.int .i64 k])) w':=⟨none,0,rfl,Kd.R_nil _ _ _ _ _,hb⟩
theorem b4 : Bytes [4]:=by intro x hx; simp at hx; omega
def c6v (r : Nat) (qs : List (List Int)) (p : List Int) (w : World) (e : Ending) (w' : World) : Prop:=
 ∃ Am cm Ap cp,e = .returned (.tuple #[.agg #[.int .i64 r,.bool false,.slice Am qs.length cm],.slice Ap p.length cp,.int .i64 0]) /\ kq.R 47 w' w.heap.size (λ _=>True) (.slice Am qs.length cm) qs /\ (Kd.int .u8).R 5 w' w.heap.size (λ _=>True) (.slice Ap p.length cp) p /\ Below w.heap.size w w'
theorem c6w (A : Option Addr) (c : Nat) (ps : List Int) {r : Nat} {qs : List (List Int)} {p : List Int} (w : World) (hr : (Kd.int .u8).C w A ps.length ps) (hps : Bytes ps) (hl : ps.length <= 1000000) (hc : ps.length <= c) (h : a0H ps = (0,r,qs,p)) :
    Calls Tryz.prog 19 #[.slice A ps.length c] w (c6v r qs p w):=by
 refine (b5F A c ps w hr hps hl hc).mono ?_
 intro e w' hp
 unfold a5j at hp
 rw [h] at hp
 obtain ⟨vm,vp,rfl,hm,hv⟩:=hp.1 rfl
 obtain ⟨Am,cm,rfl⟩:=Kd.R_slice hm
 obtain ⟨Ap,cp,rfl⟩:=Kd.R_slice hv
 exact ⟨Am,cm,Ap,cp,rfl,hm,hv,hp.2.2⟩
theorem c6x (A : Option Addr) (c : Nat) (ps : List Int) {k : Int} (w : World) (hr : (Kd.int .u8).C w A ps.length ps) (hps : Bytes ps) (hl : ps.length <= 1000000) (hc : ps.length <= c) (h : (a0H ps).1 = k) (hk : k ≠ 0) :
    Calls Tryz.prog 19 #[.slice A ps.length c] w (λ e w'=>e = .returned (.tuple #[.agg #[.int .i64 0,.bool false,.slice none 0 0],.slice none 0 0,.int .i64 k]) /\ Below w.heap.size w w'):=by
 refine (b5F A c ps w hr hps hl hc).mono ?_
 intro e w' hp
 unfold a5j at hp
 rw [h] at hp
 exact ⟨hp.2.1 hk,hp.2.2⟩
set_option maxRecDepth 100000 in
set_option maxHeartbeats 1000000 in
theorem b5L (A : Option Addr) (c : Nat) (ps : List Int) (n : Int) (w : World) (hr : (Kd.int .u8).C w A ps.length ps) (hps : Bytes ps) (hl : ps.length <= 1000000) (hc : ps.length <= c) :
    Calls Tryz.prog 21 #[.slice A ps.length c,.int .i64 n] w (ReadPost (dec1M ps n) w):=by
 obtain ⟨k,r,q,p,hS⟩ : ∃ k r q p,a0H ps = (k,r,q,p):=⟨_,_,_,_,rfl⟩
 have hpb:=a9e hps
 have hpl:=(b4V ps).1
 have hql:=(b4V ps).2
 rw [hS] at hpb hpl hql
 by_cases hk : k = 0
 · subst hk
   have HD : Hid (dec1M ps n = decM (r : Nat) false q p n):=by show _ = _; unfold dec1M; rw [hS,if_neg (λ h=>h rfl)]
   have HS:=Lib.hid (c6w A c ps w hr hps hl hc hS)
   have HP:=Lib.hid (And.intro hpb (And.intro (Nat.le_trans hpl hl) (show q.length <= 256 from hql)))
   rw [HD.out]
   clear hr hps hl hc hS hpb hpl hql
   go_enter Tryz.func21,Tryz.ntmps21
   go_wp2_with fail
   refine HS.out.mono ?_
   rintro e w1 ⟨Am,cm,Ap,cp,rfl,hm,hv,hb1⟩
   obtain ⟨w2,hw2⟩ : ∃ w2,w2 = w1.alloc (.cells #[.int .i64 r,.bool false,.slice Am q.length cm] 31):=⟨_,rfl⟩
   have hb2 : Below w1.heap.size w1 w2:=by rw [hw2]; exact (Below.refl _ _).alloc (Nat.le_refl _) _
   have HB2:=Lib.hid (hb1.trans (hb2.mono hb1.size))
   have HM:=Lib.hid (Kd.C_below (Kd.R_reads' hm).2.2 hb2)
   have HV:=Lib.hid (Kd.C_below (Kd.R_reads' hv).2.2 hb2)
   clear hm hv hb1 hb2
   go_wp2_with fail
   rw [<- hw2]
   clear hw2
   refine (b2C r false Am cm q Ap cp p n w2 HM.out (by have:=HP.out.2.2; omega) HV.out HP.out.1 HP.out.2.1).mono ?_
   rintro e w3 ⟨⟨v,rfl,hv⟩,hb3⟩
   have H3:=Lib.hid (And.intro hv hb3)
   clear hv hb3
   go_wp2_with fail
   go_ret2
   exact ⟨⟨v,rfl,Kd.R_lower H3.out.1 HB2.out.size⟩,HB2.out.trans (H3.out.2.mono HB2.out.size)⟩
 · have HD : Hid (dec1M ps n = (k,[])):=by show _ = _; unfold dec1M; rw [hS,if_pos hk]
   have HS:=Lib.hid (c6x A c ps w hr hps hl hc (by rw [hS]) hk)
   have hkb : (k == 0) = false:=beq_eq_false_iff_ne.2 hk
   have hkn : (k != 0) = true:=by simp [hk]
   rw [HD.out]
   clear hr hps hl hc hS hpb hpl hql
   go_enter Tryz.func21,Tryz.ntmps21
   go_wp2_with fail
   refine HS.out.mono ?_
   rintro e w1 ⟨rfl,hb1⟩
   have HB1:=Lib.hid hb1
   clear hb1
   go_wp2_with fail
   go_ret2
   exact ⟨⟨_,rfl,Kd.R_nil _ _ _ _ _⟩,HB1.out.alloc HB1.out.size _⟩
open Go.Proofs.YtipjlneepponpaaGreat.PRef
theorem b5M (A : Option Addr) (cp n : Nat) (l : List Bool) (w : World) (hr : Kd.bool.C w A n l) (hn : l.length = n) (hc : l.length <= cp) (hl : l.length <= 1000000) : Calls Tryz.prog 28 #[.slice A n cp] w (MadeU (packB l) w):=by
 subst hn
 obtain ⟨k,hk⟩:=(b2U l hl).rounds
 exact puncheonref01_Bytes.calls k A cp l _ w hr hc hk
end Go.Proofs.YtipjlneepponpaaGreat
namespace Go.Proofs.YtipjlneepponpaaGreat
open Go.RowKit Go.IntWalk Go.Proofs.YtipjlneepponpaaGreatW.PrintWords
theorem b5N : ∀ (l : List Bool) (k : Nat),k < l.length -> l.getD k false = false -> byteL (l.set k true) = byteL l + 2 ^ k
 | [],k,h,_=>by simp at h
 | b :: l,0,_,h=>by
  have hb : b = false:=h
  subst hb
  show (true.toNat + 2 * byteL l) = (false.toNat + 2 * byteL l) + 1
  simp; omega
 | b :: l,k + 1,h,h2=>by
  have ih:=b5N l k (by simpa using h) h2
  show b.toNat + 2 * byteL (l.set k true) = (b.toNat + 2 * byteL l) + 2 ^ (k + 1)
  rw [ih,Nat.pow_succ]; omega
theorem c6z {l : List Bool} {c : Nat} (hc : c < l.length) (h : l.getD c false = false) : packB (l.set c true) = (packB l).set (c / 8) ((packB l).getD (c / 8) 0 + ((2 ^ (c % 8) : Nat) : Int)):=by
 have hl : (packB (l.set c true)).length = (packB l).length:=by rw [a0x,a0x,List.length_set]
 have hcl : c / 8 < (packB l).length:=by rw [a0x]; omega
 refine List.ext_getElem (by rw [List.length_set]; exact hl) λ j h1 h2=>?_
 rw [a1N,List.getElem_set,List.drop_set]
 by_cases hj : c / 8 = j
 · subst hj
   rw [if_pos rfl,if_neg (by omega),List.take_set]
   have hdl : (l.drop (8 * (c / 8))).length = l.length - 8 * (c / 8):=List.length_drop
   have hk : c - 8 * (c / 8) = c % 8:=by omega
   rw [hk,b5N _ _ (by rw [List.length_take]; omega) (by
    rw [List.getD_eq_getElem?_getD,List.getElem?_take,if_pos (by omega),List.getElem?_drop,show 8 * (c / 8) + c % 8 = c by omega,<- List.getD_eq_getElem?_getD]; exact h)]
   rw [List.getD_eq_getElem?_getD,List.getElem?_eq_getElem hcl,Option.getD_some,a1N]
   simp
 · rw [if_neg hj]
   have hjl : j < (packB l).length:=by rw [<- hl]; exact h1
   rw [a1N]
   by_cases h8 : c < 8 * j
   · rw [if_pos h8]
   · rw [if_neg h8,List.take_set,List.set_eq_of_length_le]
     rw [List.length_take]; omega
theorem c6A {l : List Int} (hA : Asc l) {i c : Nat} (hi : i < l.length) (hc : l.getD i 0 = (c : Int)) (hc256 : c < 256) : dirB (l.take (i + 1)) = (dirB (l.take i)).set c true /\ (dirB (l.take i)).getD c false = false:=by
 have ht : l.take (i + 1) = l.take i ++ [(c : Int)]:=by rw [List.take_succ_eq_append_getElem hi,<- hc,List.getD_eq_getElem?_getD,List.getElem?_eq_getElem hi,Option.getD_some]
 constructor
 · refine List.ext_getElem (by rw [List.length_set,a2r,a2r]) λ j h1 h2=>?_
   rw [List.getElem_set]
   simp only [dirB,List.getElem_map,List.getElem_range,ht]
   by_cases e : c = j
   · subst e; rw [if_pos rfl]; simp
   · rw [if_neg e]
     have : ((j : Int) ∈ l.take i ++ [(c : Int)]) ↔ (j : Int) ∈ l.take i:=by
      rw [List.mem_append,List.mem_singleton]
      constructor
      · rintro (h | h)
        · exact h
        · omega
      · exact Or.inl
     rw [Bool.eq_iff_iff]; simp [this]
 · rw [a6P _ hc256]
   refine decide_eq_false (λ hm=>?_)
   obtain ⟨j,hj,e⟩:=a6O hm
   rw [List.length_take] at hj
   rw [List.getD_eq_getElem?_getD,List.getElem?_take,if_pos (by omega),<- List.getD_eq_getElem?_getD] at e
   have:=hA.lt' (show j < i by omega) hi
   omega
theorem c6B {l : List Int} (hA : Asc l) {i c : Nat} (hi : i < l.length) (hc : l.getD i 0 = (c : Int)) (hc256 : c < 256) : dirL (l.take (i + 1)) = (dirL (l.take i)).set (c / 8) ((dirL (l.take i)).getD (c / 8) 0 + ((2 ^ (c % 8) : Nat) : Int)):=by
 obtain ⟨h1,h2⟩:=c6A hA hi hc hc256
 unfold dirL
 rw [h1,c6z (by rw [a2r]; exact hc256) h2]
theorem c6C (l : List Int) : dirL (l.take 0) = List.replicate 32 0:=by
 rw [List.take_zero]; decide +kernel
theorem b5O (l : List Int) : Bytes (dirL l):=a3L _
def DirAt (w : World) (g : Nat) (L : List Int) (wr : World) : Prop:=(Kd.int .u8).R 5 wr w.heap.size (λ _=>True) (.slice (some ⟨g,0,none⟩) 32 32) L /\ Below w.heap.size w wr
set_option maxRecDepth 100000 in
set_option maxHeartbeats 2000000 in
theorem c6D (A : Option Addr) (cp : Nat) (l : List Int) (w : World) (hr : (Kd.int .i64).C w A l.length l) (hA : Asc l) (hll : l.length <= 256) :
    Calls Tryz.prog 49 #[.slice A l.length cp] w (λ e w'=>∃ c,∃ Ad,e = .returned (.tuple #[.slice Ad 32 c,.bool true]) /\ (Kd.int .u8).C w' Ad 32 (dirL l) /\ 32 <= c /\ Below w.heap.size w w'):=by
 have HR:=Lib.hid hr
 have HA:=Lib.hid hA
 have hpos:=hA.pos
 have hlp : ((l.length : Int) == 0) = false:=by simp; intro e; subst e; simp at hpos
 obtain ⟨ad,hA0,hc0⟩:=a0C hr 0 hpos
 rw [hA.zero] at hc0
 subst hA0
 have e0 : ad.add 0 = ad:=by simp [Addr.add]
 have hc00 : w.cell? ad = some (.int .i64 0):=by rw [e0] at hc0; exact hc0
 have hl0 : (0 : Int) < (l.length : Int):=by omega
 have hmk:=b2l 32 (by decide)
 have hmk2 : ∀ w : World,(Instr.makeSlice 22 (.int .i64 32) (.int .i64 32)).run Tryz.prog w = .ok (.slice (some ⟨w.heap.size,0,none⟩) 32 32) (w.alloc (.cells (madeCells #[.int .u8 0] 32) 5)):=λ w=>hmk w
 obtain ⟨W,hW⟩ : ∃ W,W = w.alloc (.cells (madeCells #[.int .u8 0] 32) 5):=⟨_,rfl⟩
 have H0 : Hid (DirAt w w.heap.size (dirL (l.take 0)) W):=Lib.hid ⟨by rw [c6C,hW]; exact b2m 32 (by decide) w (λ _=>True) trivial w.heap.size (Nat.le_refl _),by rw [hW]; exact (Below.refl _ _).alloc (Nat.le_refl _) _⟩
 obtain ⟨g,hg⟩ : ∃ g,g = w.heap.size:=⟨_,rfl⟩
 rw [<- hg] at H0
 have HG:=Lib.hid hg
 clear hr hA hpos hmk
 go_enter Tryz.func49,Tryz.ntmps49
 go_wp2_with fail
 rw [<- hW,<- hg]
 clear hW hg hc0 hc00 e0
 go_wp2_with fail
 go_loopw [5] (λ iv wr=>∃ i : Nat,i <= l.length /\ iv = .int .i64 i /\ Hid (DirAt w g (dirL (l.take i)) wr)) (λ iv _=>l.length - (intOf iv).toNat)
 case atStart=>exact ⟨0,by omega,rfl,H0⟩
 case round=>
  obtain ⟨i,hi,rfl,H⟩:=hrel
  by_cases hlt : i < l.length
  · obtain ⟨c,hc,hc256⟩:=HA.out.get hlt
    have hrow:=Kd.C_below HR.out H.out.2
    obtain ⟨ad2,hA2,hcell⟩:=a0C hrow i hlt
    injection hA2 with hA2
    subst hA2
    rw [hc] at hcell
    have HStep:=Lib.hid (c6B HA.out hlt hc hc256)
    obtain ⟨q,hq⟩ : ∃ q,q = c / 8:=⟨_,rfl⟩
    obtain ⟨j,hj⟩ : ∃ j,j = c % 8:=⟨_,rfl⟩
    rw [<- hq,<- hj] at HStep
    obtain ⟨cx,fx⟩:=a1w H.out.1 q (by omega)
    have hyb:=(b5O (l.take i)).get q
    obtain ⟨y,hy⟩ : ∃ y : Nat,(dirL (l.take i)).getD q 0 = y:=⟨((dirL (l.take i)).getD q 0).toNat,by omega⟩
    have hnb:=(b5O (l.take (i + 1))).get q
    rw [HStep.out,a4r _ _ _ _ (by rw [a2F]; omega),if_pos rfl] at hnb
    rw [hy] at cx HStep hyb hnb
    have hqI : (c : Int) / 8 = (q : Int):=by omega
    have hqT : (c : Int).tdiv 8 = (q : Int):=by rw [Int.tdiv_eq_ediv_of_nonneg (by omega)]; exact hqI
    have hjI : (c : Int) % 8 = (j : Int):=by omega
    have hjT : (c : Int).tmod 8 = (j : Int):=by rw [Int.tmod_eq_emod_of_nonneg (by omega)]; exact hjI
    have hqw : IntKind.i64.wrap (q : Int) = (q : Int):=i64_in _ (by omega)
    have hjw : IntKind.i64.wrap (j : Int) = (j : Int):=i64_in _ (by omega)
    have hj8 : j < 8:=by omega
    have hj0 : ¬ (j : Int) < 0:=by omega
    have hq32 : (q : Int) < 32:=by omega
    have d1 : decide ((c : Int) < 0) = false:=decide_eq_false (by omega)
    have d2 : decide ((255 : Int) < (c : Int)) = false:=decide_eq_false (by omega)
    have hiI : (i : Int) < (l.length : Int):=by omega
    have HH:=Lib.hid H.out
    have HP : Hid (((y : Int) + 2 ^ j) % 256 = (y : Int) + ((2 ^ j : Nat) : Int)):=Lib.hid (by
     have h8 : 2 ^ j < 2 ^ 8:=Nat.pow_lt_pow_right (by omega) hj8
     rw [show ((2 : Int) ^ j) = ((2 ^ j : Nat) : Int) by simp]
     generalize 2 ^ j = P at h8 hnb ⊢
     omega)
    have HHIi:=Lib.hid hlt
    have HCC:=Lib.hid hc
    have HRW:=Lib.hid hrow
    have hrelN : ∀ w1 : World,Kd.R (.int .u8) 5 w1 w.heap.size (λ _=>True) (.slice (some ⟨g,0,none⟩) 32 32) ((dirL (l.take i)).set q ((y : Int) + ((2 ^ j : Nat) : Int))) -> Below w.heap.size w w1 -> ∃ i' : Nat,i' <= l.length /\ (Value.int .i64 ((i : Int) + 1)) = .int .i64 i' /\ Hid (DirAt w g (dirL (l.take i')) w1):=λ w1 h1 h2=>⟨i + 1,HHIi.out,by simp,Lib.hid ⟨by rw [HStep.out]; exact h1,h2⟩⟩
    have HRN:=Lib.hid hrelN
    clear hrelN hc hq hj hy hyb hnb hrow
    have HST : Hid (∀ n : Nat,Kd.R (.int .u8) 5 ((wr.drewN n).setCell ⟨g,q,none⟩ (.int .u8 (((y : Int) + 2 ^ j) % 256))) w.heap.size (λ _=>True) (.slice (some ⟨g,0,none⟩) 32 32) ((dirL (l.take i)).set q ((y : Int) + ((2 ^ j : Nat) : Int))) /\ Below w.heap.size w ((wr.drewN n).setCell ⟨g,q,none⟩ (.int .u8 (((y : Int) + 2 ^ j) % 256)))):=Lib.hid (by
     intro n
     have h9:=Kd.R_putn (Kd.R_below HH.out.1 (a0b (Below.refl _ _) n)) (q : Int) ((y : Int) + ((2 ^ j : Nat) : Int))
     rw [HP.out]
     simp only [Int.toNat_natCast] at h9
     exact ⟨h9,(a0b HH.out.2 n).setCell (p:=⟨g,q,none⟩) (by rw [HG.out]; exact Nat.le_refl _) _⟩)
    rcases Nat.eq_zero_or_pos i with h0 | h0
    · subst h0
      have e0 : ad.add 0 = ad:=by simp [Addr.add]
      have hcell0 : wr.cell? ad = some (.int .i64 c):=by rw [e0] at hcell; exact hcell
      go_wp2_with fail
      go_quiet (fail)
      go_wp2_with fail
      go_region
      go_wp2_with fail
      go_roundw
      case rel=>
       exact HRN.out _ (HST.out _).1 (HST.out _).2
      case measure=>simp [intOf]; omega
    · obtain ⟨b,hb,hb256⟩ : ∃ b : Nat,l.getD (i - 1) 0 = b /\ b < 256:=HA.out.get (by omega)
      have hlt2 : b < c:=by have:=HA.out.lt' (show i - 1 < i by omega) hlt; rw [HCC.out,hb] at this; omega
      obtain ⟨k,hk⟩ : ∃ k,k = i - 1:=⟨_,rfl⟩
      rw [<- hk] at hb
      obtain ⟨ad3,hA3,hcell3⟩:=a0C HRW.out k (by omega)
      injection hA3 with hA3
      subst hA3
      rw [hb] at hcell3
      have d4 : decide ((0 : Int) < (i : Int)) = true:=decide_eq_true (by omega)
      have d5 : decide (c <= b) = false:=decide_eq_false (by omega)
      have k1 : (i : Int) - 1 = (k : Int):=by omega
      have k2 : IntKind.i64.wrap (k : Int) = (k : Int):=i64_in _ (by omega)
      have k3 : (k : Int) < (l.length : Int):=by omega
      have k4 : ¬ (k : Int) < 0:=by omega
      clear hb hlt2 hk
      go_wp2_with fail
      go_quiet (fail)
      go_wp2_with fail
      go_region
      go_wp2_with fail
      go_roundw
      case rel=>
       exact HRN.out _ (HST.out _).1 (HST.out _).2
      case measure=>simp [intOf]; omega
  · obtain rfl : i = l.length:=by omega
    have hgo : decide ((l.length : Int) < (l.length : Int)) = false:=decide_eq_false (by omega)
    have HF : Hid (DirAt w g (dirL l) wr):=Lib.hid (by have:=H.out; rw [List.take_length] at this; exact this)
    go_wp2_with fail
    refine bodyPost_ret (v:=.tuple #[.slice (some ⟨g,0,none⟩) 32 32,.bool true]) ?_ rfl ⟨32,_,rfl,?_,Nat.le_refl _,HF.out.2⟩
    · simp [results,Tryz.f49,go_sem]
    · have h:=(Kd.R_reads' HF.out.1).2.2
      rw [a2F] at h
      exact h
open Go.Proofs.YtipjlneepponpaaGreat.PRef
set_option maxRecDepth 100000 in
theorem c6E (A : Option Addr) (cp : Nat) (w : World) : Calls Tryz.prog 18 #[.slice A 0 cp] w (Told 1 [] w):=by
 go_enter Tryz.func18,Tryz.ntmps18
 go_wp2_with fail
 go_ret2
 exact Told.nil 1 (Below.refl _ _)
def BoolsAt (w : World) (xs : List Bool) (v : Value) (wr : World) : Prop:=∃ A c,v = .slice A xs.length c /\ Kd.bool.C wr A xs.length xs /\ xs.length <= c /\ Below w.heap.size w wr
theorem BoolsAt.drew {w : World} {xs : List Bool} {v : Value} {wr : World} (h : BoolsAt w xs v wr) : BoolsAt w xs v wr.drew:=by
 obtain ⟨A,c,h1,h2,h3,h4⟩:=h
 exact ⟨A,c,h1,Kd.C_drew h2,h3,a2Y h4⟩
set_option maxRecDepth 100000 in
set_option maxHeartbeats 2000000 in
theorem c6F (A : Option Addr) (cp : Nat) (b : List Int) (w : World) (hr : (Kd.int .u8).C w A b.length b) (hc : b.length <= cp) (hb : Bytes b) (hl : b.length <= 5000) (h0 : 0 < b.length)
    (hF : Calls Tryz.prog 47 #[.slice A b.length cp] w (MadeM (a0o b) false (a0y b) w))
    (hP : ∀ w1,Below w.heap.size w w1 -> Calls Tryz.prog 48 #[.slice A b.length cp] w1 (MadeI (presN b 256) w1)) :
    Calls Tryz.prog 18 #[.slice A b.length cp] w (Told 0 (a1b b) w):=by
 have d1 : ((b.length : Int) == 0) = false:=by simp; intro e; subst e; simp at h0
 have d2 : decide ((131072 : Int) < (b.length : Int)) = false:=decide_eq_false (by omega)
 have HF:=Lib.hid hF
 have HPr:=Lib.hid hP
 have HR:=Lib.hid (And.intro hr (And.intro hc (And.intro hb hl)))
 have HCan : Hid (canM (a0o b : Nat) false (a0y b) b = true):=a3p (one:=false) hb (by omega) h0
 have HNr:=Lib.hid (b5i hb (by omega : b.length <= 1000000))
 have HFit:=Lib.hid (a3n (a3o HCan.out).1 hb)
 have HRok:=Lib.hid (a2q b)
 have HB : Hid (a1b b = [(a0o b : Int)] ++ dirL (presN b 256) ++ packB (hdrsB (a0o b) (a0y b) (presN b 256)) ++ packB (a0M (a0o b : Nat) false (a0y b) b ++ [true])):=Lib.hid rfl
 obtain ⟨Bd,hBd⟩ : ∃ B,B = a1b b:=⟨_,rfl⟩
 rw [<- hBd] at HB ⊢
 have HQl:=Lib.hid (a6x b)
 have HL0 : Hid (Asc (presN b 256) /\ (presN b 256).length <= 256):=Lib.hid ⟨b4a h0,a3Q b 256⟩
 obtain ⟨r,hr'⟩ : ∃ r,r = a0o b:=⟨_,rfl⟩
 obtain ⟨q,hq'⟩ : ∃ q,q = a0y b:=⟨_,rfl⟩
 obtain ⟨L,hL⟩ : ∃ L,L = presN b 256:=⟨_,rfl⟩
 have HLe:=Lib.hid hL
 rw [<- hr',<- hq'] at HF HCan HFit HNr HB
 rw [<- hr'] at HRok
 rw [<- hq'] at HQl
 rw [<- hL] at HNr HB HL0
 obtain ⟨D,hD⟩ : ∃ D,D = dirL L:=⟨_,rfl⟩
 have HD:=Lib.hid (And.intro hD (show D.length = 32 by rw [hD]; exact a2F L))
 rw [<- hD] at HB
 obtain ⟨hd,hhd⟩ : ∃ l,l = hdrsB r q L:=⟨_,rfl⟩
 have hbl:=a4v (r:=r) (qs:=q) (by have:=HRok.out; omega) L HNr.out
 have HHd:=Lib.hid (And.intro hhd (show hd.length <= 800000 by rw [hhd]; have:=HL0.out.2; omega))
 rw [<- hhd] at HB
 obtain ⟨X,hX⟩ : ∃ P,P = packB hd:=⟨_,rfl⟩
 have HX:=Lib.hid (And.intro hX (show X.length <= 200000 by rw [hX,a0x]; have:=HHd.out.2; omega))
 rw [<- hX] at HB
 obtain ⟨Pl,hPl⟩ : ∃ P,P = packB (a0M (r : Nat) false q b ++ [true]):=⟨_,rfl⟩
 have HPl:=Lib.hid (And.intro hPl (show Pl.length <= 700000 by
  rw [hPl,a0x,List.length_append]
  have:=HFit.out; simp only [List.length_singleton]; omega))
 rw [<- hPl] at HB
 have hrw : IntKind.u8.wrap (r : Int) = (r : Int):=by rw [IntKind.wrap_u8]; have:=HRok.out; omega
 clear hF hP hr hc hb hl h0 hBd hr' hq' hL hD hhd hbl hX hPl
 go_enter Tryz.func18,Tryz.ntmps18
 go_wp2_with fail
 refine HF.out.mono ?_
 rintro e w1 ⟨v,rfl,hv,hb1⟩
 obtain ⟨Am,cm,rfl⟩:=Kd.R_slice hv
 obtain ⟨w2,hw2⟩ : ∃ w2,w2 = w1.alloc (.cells #[.int .i64 r,.bool false,.slice Am q.length cm] 31):=⟨_,rfl⟩
 have hM : MAt w1.heap.size r false Am cm q w2:=by rw [hw2]; exact MAt.new (lg:=(r : Int)) (one:=false) (qs:=q) hv
 have HB2:=Lib.hid (show Below w.heap.size w w2 from by rw [hw2]; exact hb1.alloc hb1.size _)
 obtain ⟨mb,hmb⟩ : ∃ m,m = w1.heap.size:=⟨_,rfl⟩
 rw [<- hmb] at hM
 have HM:=Lib.hid hM
 have HCm:=Lib.hid (show q.length <= cm from (Kd.R_reads' hv).2.1)
 clear hv hb1 hM
 have HP1:=Lib.hid (HPr.out w2 HB2.out)
 rw [<- HLe.out] at HP1
 go_wp2_with fail
 rw [<- hw2,<- hmb]
 clear hw2 hmb
 refine HP1.out.mono ?_
 rintro e w3 ⟨v3,rfl,hv3,hb3⟩
 obtain ⟨Al,cl,rfl⟩:=Kd.R_slice hv3
 have HV3:=Lib.hid (Kd.R_reads' hv3).2.2
 have HB3:=Lib.hid (a0g HB2.out hb3)
 have HM3:=Lib.hid (HM.out.later hb3)
 have HP19:=Lib.hid (c6D Al cl L w3 HV3.out HL0.out.1 HL0.out.2)
 rw [<- HD.out.1] at HP19
 clear hv3 hb3
 go_wp2_with fail
 refine HP19.out.mono ?_
 rintro e w4 ⟨c4,A4,rfl,hC4,hc4,hb4⟩
 have HB4:=Lib.hid (a0g HB3.out hb4)
 have HM4:=Lib.hid (HM3.out.later hb4)
 have HV4:=Lib.hid (Kd.C_below HV3.out hb4)
 have HD4:=Lib.hid (And.intro hC4 hc4)
 clear hC4 hc4 hb4
 go_wp2_with fail
 go_loopw [8,9] (λ bv iv wr=>∃ i : Nat,i <= L.length /\ iv = .int .i64 i /\ Hid (BoolsAt w4 (hdrsB r q (L.take i)) bv wr)) (λ _ iv _=>L.length - (intOf iv).toNat)
 case atStart=>exact ⟨0,by omega,rfl,Lib.hid ⟨none,0,rfl,(Kd.R_reads' (Kd.R_nil Kd.bool 4 w4 w4.heap.size (λ _=>True))).2.2,by simp [hdrsB],Below.refl _ _⟩⟩
 case round=>
  obtain ⟨i,hiL,rfl,HW⟩:=hrel
  obtain ⟨A5,c5,rfl,hC5,hc5,hbw⟩:=HW.out
  have HMr:=HM4.out.later hbw
  obtain ⟨⟨m0,m1,m2⟩,-⟩:=cell3 HMr.blk
  by_cases hlt : i < L.length
  · obtain ⟨cx,hc,hc256⟩:=HL0.out.1.get hlt
    obtain ⟨adl,hA2,hcx⟩:=a0C (Kd.C_below HV4.out hbw) i hlt
    subst hA2
    rw [hc] at hcx
    have hm:=a1t hlt
    rw [hc] at hm
    have hn:=HNr.out _ hm
    rw [Int.toNat_natCast] at hn
    obtain ⟨aq,B,cq,hA3,hcq,hcql,hCq⟩:=kq_at HMr.row cx (by rw [HQl.out]; exact hc256)
    subst hA3
    rw [hn.len] at hcq
    have ht : L.take (i + 1) = L.take i ++ [(cx : Int)]:=by rw [List.take_succ_eq_append_getElem hlt,<- hc,List.getD_eq_getElem?_getD,List.getElem?_eq_getElem hlt,Option.getD_some]
    have HS:=Lib.hid (show hdrsB r q (L.take (i + 1)) = hdrsB r q (L.take i) ++ hdrB (q.getD cx []) 257 0 (2 ^ r) by rw [ht,a9h,Int.toNat_natCast])
    have hlb:=a4v (r:=r) (qs:=q) (by have:=HRok.out; omega) (L.take i) (λ x hx=>HNr.out x (List.mem_of_mem_take hx))
    have hlb2 : (hdrsB r q (L.take i)).length <= 800000:=by rw [List.length_take] at hlb; have:=HL0.out.2; omega
    obtain ⟨pb,hpb⟩ : ∃ l,l = hdrsB r q (L.take i):=⟨_,rfl⟩
    rw [<- hpb] at hC5 hc5 hlb2 HS ⊢
    have HPut : Hid (∀ W : World,SLater wr W -> Calls Tryz.prog 29 #[.slice A5 pb.length c5,.slice B 256 cq] W λ e w'=>∃ Ax cx',e = .returned (.slice Ax (hdrsB r q (L.take (i + 1))).length cx') /\ BoolsAt w4 (hdrsB r q (L.take (i + 1))) (.slice Ax (hdrsB r q (L.take (i + 1))).length cx') w' /\ Below W.heap.size W w'):=Lib.hid λ W hW=>by
     rw [HS.out]
     refine (b3W A5 B c5 cq r pb (q.getD cx []) W (Kd.C_below hC5 hW) hc5 (Kd.C_below hCq hW) hcql hn hlb2).mono ?_
     rintro e w' ⟨Ax,cx',rfl,h1,h2,h3⟩
     exact ⟨Ax,cx',rfl,⟨Ax,cx',rfl,h1,h2,a0g (a0g hbw hW) h3⟩,h3⟩
    have hI : (i : Int) < (L.length : Int):=by omega
    have hqI : (cx : Int) < (q.length : Int):=by rw [HQl.out]; omega
    have s0 : SLater wr wr:=Below.refl _ _
    have hi256 : i <= 256:=by have:=HL0.out.2; omega
    clear hc hm hn hcql hCq ht hlb hlb2 hpb HS HMr HW hC5 hc5
    go_wp2_with fail
    go_region_law (go_simp; go_at_call 29; refine (HPut.out _ (by first | assumption | exact SLater.drew ‹_›)).mono ?_; rintro e w' ⟨Ax,cx',rfl,hbits,hb⟩; have HBits:=Lib.hid hbits; have s1:=(by first | exact SLater.keep ‹_› hb | exact SLater.keep (SLater.drew ‹_›) hb : SLater wr w'); clear hb hbits)
    all_goals
     go_wp2_with fail
     go_roundw
     case rel=>exact ⟨i + 1,by omega,by go_num,Lib.hid (by first | exact HBits.out | exact HBits.out.drew)⟩
     case measure=>simp [intOf]; omega
  · obtain rfl : i = L.length:=by omega
    have hgo : decide ((L.length : Int) < (L.length : Int)) = false:=decide_eq_false (by omega)
    rw [List.take_length,<- HHd.out.1] at hC5 hc5 ⊢
    clear m0 m1 m2
    obtain ⟨⟨m0,m1,m2⟩,-⟩:=cell3 HMr.blk
    have HB5:=Lib.hid (a0g HB4.out hbw)
    have HM5:=Lib.hid HMr
    have HD5:=Lib.hid (Kd.C_below HD4.out.1 hbw)
    have HC5:=Lib.hid (And.intro hC5 hc5)
    have HEn:=Lib.hid (b3O r false Am cm q A cp b wr HMr.row HCm.out (by have:=HQl.out; omega) (Kd.C_below HR.out.1 HB5.out) HR.out.2.1 HR.out.2.2.1 HR.out.2.2.2)
    clear hC5 hc5 hbw HMr HW
    go_wp2_with fail
    refine HEn.out.mono ?_
    rintro e w6 ⟨_,h2,hb6⟩
    obtain ⟨v6,rfl,hv6⟩:=h2 HCan.out
    rw [<- HPl.out.1] at hv6
    obtain ⟨A6,c6,rfl⟩:=Kd.R_slice hv6
    have HB6:=Lib.hid (a0g HB5.out hb6)
    have HM6:=Lib.hid (HM5.out.later hb6)
    have HD6:=Lib.hid (Kd.C_below HD5.out hb6)
    have HC6:=Lib.hid (Kd.C_below HC5.out.1 hb6)
    have HP6:=Lib.hid (Kd.R_reads' hv6).2.2
    obtain ⟨⟨m0,m1,m2⟩,-⟩:=cell3 HM6.out.blk
    have hWl : Below w6.heap.size w6 (w6.alloc (.cells #[.int .u8 (r : Int)] 5)):=(Below.refl _ _).alloc (Nat.le_refl _) _
    have HWl:=Lib.hid (And.intro hWl hWl.size)
    have HO1 : Hid ((Kd.int .u8).R 5 (w6.alloc (.cells #[.int .u8 (r : Int)] 5)) w6.heap.size (λ _=>True) (.slice (some ⟨w6.heap.size,0,none⟩) 1 1) [(r : Int)]):=Lib.hid (a4Z .u8 5 w6 w6.heap.size (λ _=>True) trivial (Nat.le_refl _) [(r : Int)] (by simp))
    have HDl : Hid ((Kd.int .u8).C (w6.alloc (.cells #[.int .u8 (r : Int)] 5)) A4 32 D):=Lib.hid (Kd.C_alloc HD6.out (.cells #[.int .u8 (r : Int)] 5))
    have HL1 : Hid ((([(r : Int)] : List Int).length + 32) * 1 <= 140737488355328):=Lib.hid (by simp)
    have HZ33 : Hid (([(r : Int)] ++ D).length = 33):=Lib.hid (by rw [List.length_append,HD.out.2]; rfl)
    clear h2 hb6 hv6 hWl
    go_wp2_with (at_builtin; refine Kd.R_append_rows (Kd.int .u8) (Rr:=(Kd.int .u8).K (w6.alloc (.cells #[.int .u8 (r : Int)] 5))) (w0:=w6) (W:=w6.alloc (.cells #[.int .u8 (r : Int)] 5)) w6.heap.size rfl (.tmp 55) (.tmp 56) 22 5 (.int .u8 0) 1 rfl Tryz.underlying22 a1p rfl (by decide) (by decide) (.slice (some ⟨w6.heap.size,0,none⟩) 1 1) [(r : Int)] D A4 32 c4 (λ _=>True) (λ _=>False) rfl rfl HO1.out HDl.out (λ _ _ h=>h) (λ _ h=>h.elim) (λ _ _=>trivial) HWl.out.1 HWl.out.2 HL1.out ?_; intro v7 w7 hr7 hb7 hg7 hat7; obtain ⟨A7,c7,rfl⟩:=Kd.R_slice hr7; rw [HZ33.out] at hr7 ⊢; have HR7:=Lib.hid (And.intro hr7 hb7); clear hr7 hb7 hg7 hat7)
    obtain ⟨Z,hZ⟩ : ∃ Z,Z = [(r : Int)] ++ D:=⟨_,rfl⟩
    rw [<- hZ] at HR7 HB
    have HZ:=Lib.hid (show Z.length = 33 by rw [hZ]; exact HZ33.out)
    have HBy:=Lib.hid (b5M A5 c5 hd.length hd w7 (Kd.C_below HC6.out HR7.out.2) rfl HC5.out.2 (by have:=HHd.out.2; omega))
    rw [<- HX.out.1] at HBy
    clear hZ HZ33
    refine HBy.out.mono ?_
    rintro e w8 ⟨v8,rfl,hv8,hb8⟩
    obtain ⟨A8,c8,rfl⟩:=Kd.R_slice hv8
    have HO8:=Lib.hid (Kd.R_below HR7.out.1 hb8)
    have HX8:=Lib.hid (Kd.R_reads' hv8).2.2
    have hb78:=a0g HR7.out.2 hb8
    have HB8:=Lib.hid hb78
    have HS8:=Lib.hid hb78.size
    have HL8 : Hid ((Z.length + X.length) * 1 <= 140737488355328):=Lib.hid (by have:=HZ.out; have:=HX.out.2; omega)
    obtain ⟨ZX,hZX⟩ : ∃ l,l = Z ++ X:=⟨_,rfl⟩
    rw [<- hZX] at HB
    have HZX:=Lib.hid hZX
    have HL9 : Hid ((ZX.length + Pl.length) * 1 <= 140737488355328):=Lib.hid (by have:=HZ.out; have:=HX.out.2; have:=HPl.out.2; rw [hZX,List.length_append]; omega)
    clear hv8 hb8 hb78 hZX
    go_wp2_with (at_builtin; first
     | (refine Kd.R_append_rows (Kd.int .u8) (Rr:=(Kd.int .u8).K w8) (w0:=w6) (W:=w8) w6.heap.size rfl (.tmp 58) (.tmp 60) 22 5 (.int .u8 0) 1 rfl Tryz.underlying22 a1p rfl (by decide) (by decide) (.slice A7 33 c7) Z X A8 X.length c8 (λ _=>True) (λ _=>False) rfl rfl HO8.out HX8.out (λ _ _ h=>h) (λ _ h=>h.elim) (λ _ _=>trivial) HB8.out HS8.out HL8.out ?_
        intro v9 w9 hr9 hb9 hg9 hat9
        rw [<- HZX.out] at hr9
        obtain ⟨A9,c9,rfl⟩:=Kd.R_slice hr9
        have HR9:=Lib.hid hr9
        have HB9:=Lib.hid hb9
        have HP9:=Lib.hid (Kd.C_below HP6.out hb9)
        have HS9:=Lib.hid hb9.size
        clear hr9 hb9 hg9 hat9)
     | (refine Kd.R_append_rows (Kd.int .u8) (Rr:=(Kd.int .u8).K w9) (w0:=w6) (W:=w9) w6.heap.size rfl (.tmp 61) (.tmp 62) 22 5 (.int .u8 0) 1 rfl Tryz.underlying22 a1p rfl (by decide) (by decide) (.slice A9 ZX.length c9) ZX Pl A6 Pl.length c6 (λ _=>True) (λ _=>False) rfl rfl HR9.out HP9.out (λ _ _ h=>h) (λ _ h=>h.elim) (λ _ _=>trivial) HB9.out HS9.out HL9.out ?_
        intro v10 w10 hr10 hb10 hg10 hat10
        rw [<- HB.out] at hr10
        obtain ⟨A10,c10,rfl⟩:=Kd.R_slice hr10
        have HA10:=Lib.hid (And.intro (Kd.R_lower hr10 HB6.out.size) (a0g HB6.out hb10))
        clear hr10 hb10 hg10 hat10))
    go_ret2
    exact ⟨A10,c10,rfl,HA10.out.1,HA10.out.2⟩
theorem c6G (A : Option Addr) (cp : Nat) (b : List Int) (w : World) (hr : (Kd.int .u8).C w A b.length b) (hc : b.length <= cp) (hb : Bytes b) (hl : b.length <= 5000) (h0 : 0 < b.length) :
    Calls Tryz.prog 18 #[.slice A b.length cp] w (Told 0 (a1b b) w):=
 c6F A cp b w hr hc hb hl h0 (c2O A cp b w hr hc hb (by omega)) (λ w1 h=>b3n A cp b w1 (Kd.C_below hr h) hc hb (by omega))
end Go.Proofs.YtipjlneepponpaaGreat
namespace Go.Proofs.YtipjlneepponpaaGreat
open Go.RowKit
def aw1X : List Int:=[5,1] ++ List.replicate 31 0 ++ [192,3,2,0,4]
set_option maxRecDepth 100000 in
theorem a9A : a1b [7] = aw1X:=by decide +kernel
theorem c6H : dec1M aw1X 1 = (0,[7]):=by
 rw [<- a9A]
 exact b4W (b:=[7]) (by intro x hx; simp at hx; omega) (by decide) (by decide)
open Go.IntWalk Go.Proofs.YtipjlneepponpaaGreatW.PrintWords
theorem b7one : Bytes [7]:=by intro x hx; simp at hx; omega
theorem baw1X : Bytes aw1X:=by rw [<- a9A]; exact a9g _
set_option maxRecDepth 100000 in
set_option maxHeartbeats 2000000 in
theorem b5P (w : World) : Calls Tryz.prog 16 #[] w (Ret (.bool true) w):=by
 obtain ⟨w1,hw1⟩ : ∃ w1,w1 = w.alloc (.cells #[.int .u8 7] 5):=⟨_,rfl⟩
 have HB1 : Hid (Below w.heap.size w w1):=by show Below _ _ _; rw [hw1]; exact (Below.refl _ _).alloc (Nat.le_refl _) _
 have HS1 : Hid (BSl w1 (some ⟨w.heap.size,0,none⟩) 1 [7]):=by show BSl _ _ _ _; rw [hw1]; exact a9d [7] b7one (by decide)
 go_enter Tryz.func16,Tryz.ntmps16
 go_wp2_with fail
 rw [<- hw1]
 clear hw1
 have h2:=b5j (some ⟨w.heap.size,0,none⟩) 1 [7] w1 HS1.out.row b7one (by decide) (by decide)
 rw [a9A] at h2
 refine h2.mono ?_
 clear h2
 intro e w2 h2
 obtain ⟨A2,c2,rfl,hs2,hb2⟩:=h2.out baw1X
 obtain ⟨X,hX⟩ : ∃ X,X = aw1X:=⟨_,rfl⟩
 have HXl : Hid (X.length = 38):=by show _ = _; rw [hX]; rfl
 have HDc : Hid (dec1M X 1 = (0,[7])):=by show _ = _; rw [hX]; exact c6H
 have HXX:=Lib.hid hX
 rw [<- hX] at hs2 ⊢
 have HB2:=Lib.hid (a0g HB1.out hb2)
 have HS2:=Lib.hid hs2
 clear h2 hs2 hb2 hX
 go_wp2_with fail
 have h3:=b5L A2 c2 X 1 w2 HS2.out.row HS2.out.by' (by have:=HXl.out; omega) HS2.out.cap
 rw [HDc.out] at h3
 refine h3.mono ?_
 intro e w3 h3
 obtain ⟨A3,c3,rfl,hs3,hb3⟩:=h3.told.out b7one
 have HB3:=Lib.hid (a0g HB2.out hb3)
 have HS3:=Lib.hid hs3
 have HS23:=Lib.hid (HS2.out.below hb3)
 clear h3 hs3 hb3
 have hb34 : Below w3.heap.size w3 (w3.alloc (.cells #[.int .u8 5,.int .u8 1] 5)):=(Below.refl _ _).alloc (Nat.le_refl _) _
 have HO4 : Hid ((Kd.int .u8).R 5 (w3.alloc (.cells #[.int .u8 5,.int .u8 1] 5)) w3.heap.size (λ _=>True) (.slice (some ⟨w3.heap.size,0,none⟩) 2 2) [5,1]):=Lib.hid (a4Z .u8 5 w3 w3.heap.size (λ _=>True) trivial (Nat.le_refl _) [5,1] (by simp))
 have HB34:=Lib.hid hb34
 have HS34:=Lib.hid hb34.size
 clear hb34
 have HZ : Hid ((([5,1] : List Int) ++ List.replicate (31 : Int).toNat (0 : Int)).length = 33):=Lib.hid rfl
 have HX38 : Hid ((([5,1] : List Int) ++ List.replicate (31 : Int).toNat (0 : Int)) ++ [192,3,2,0,4] = X):=Lib.hid (by rw [HXX.out]; rfl)
 go_wp2_with (at_builtin; first
  | (refine Kd.R_append_zeros (Kd.int .u8) (w0:=w3) (W:=w3.alloc (.cells #[.int .u8 5,.int .u8 1] 5)) w3.heap.size rfl (.tmp 16) (.const (.int .i64 31)) 22 3 5 (.int .u8 0) 1 rfl Tryz.underlying22 (k:=.i64) Tryz.underlying3 a1p rfl (by decide) (by decide) (.slice (some ⟨w3.heap.size,0,none⟩) 2 2) [5,1] (0 : Int) (kx:=.i64) 31 (λ _=>True) rfl rfl rfl (λ _ _=>trivial) HO4.out (by decide) HB34.out HS34.out (by decide) ?_
     intro v5 w5 hr5 hb5 hg5 hat5
     obtain ⟨A5,c5,rfl⟩:=Kd.R_slice hr5
     obtain ⟨z33,hz33⟩ : ∃ z,z = ([5,1] : List Int) ++ List.replicate (31 : Int).toNat (0 : Int):=⟨_,rfl⟩
     rw [<- hz33] at hr5 HZ HX38 ⊢
     rw [HZ.out] at hr5 ⊢
     have hb6 : Below w3.heap.size w3 (w5.alloc (.cells #[.int .u8 192,.int .u8 3,.int .u8 2,.int .u8 0,.int .u8 4] 5)):=hb5.alloc hb5.size _
     have HB6:=Lib.hid hb6
     have HS6:=Lib.hid hb6.size
     have HO6 : Hid ((Kd.int .u8).R 5 (w5.alloc (.cells #[.int .u8 192,.int .u8 3,.int .u8 2,.int .u8 0,.int .u8 4] 5)) w3.heap.size (λ _=>True) (.slice A5 33 c5) z33):=Lib.hid (Kd.R_alloc hr5 _)
     have HD6 : Hid ((Kd.int .u8).C (w5.alloc (.cells #[.int .u8 192,.int .u8 3,.int .u8 2,.int .u8 0,.int .u8 4] 5)) (some ⟨w5.heap.size,0,none⟩) 5 [192,3,2,0,4]):=Lib.hid (a9d (w:=w5) [192,3,2,0,4] (by intro x hx; simp at hx; omega) (by decide)).row
     have HL6 : Hid ((z33.length + 5) * 1 <= 140737488355328):=Lib.hid (by rw [HZ.out]; decide)
     clear hb5 hg5 hat5 hz33 hb6 hr5)
  | (refine Kd.R_append_rows (Kd.int .u8) (Rr:=(Kd.int .u8).K (w5.alloc (.cells #[.int .u8 192,.int .u8 3,.int .u8 2,.int .u8 0,.int .u8 4] 5))) (w0:=w3) (W:=w5.alloc (.cells #[.int .u8 192,.int .u8 3,.int .u8 2,.int .u8 0,.int .u8 4] 5)) w3.heap.size rfl (.tmp 18) (.tmp 19) 22 5 (.int .u8 0) 1 rfl Tryz.underlying22 a1p rfl (by decide) (by decide) (.slice A5 33 c5) z33 [192,3,2,0,4] (some ⟨w5.heap.size,0,none⟩) 5 5 (λ _=>True) (λ _=>False) rfl rfl HO6.out HD6.out (λ _ _ h=>h) (λ _ h=>h.elim) (λ _ _=>trivial) HB6.out HS6.out HL6.out ?_
     intro v7 w7 hr7 hb7 hg7 hat7
     rw [HX38.out] at hr7
     obtain ⟨A7,c7,rfl⟩:=Kd.R_slice hr7
     have HA7:=Lib.hid (And.intro hr7 hb7)
     clear hr7 hb7 hg7 hat7))
 have HS7:=Lib.hid (BSl.of HA7.out.1 HS2.out.by')
 have HS27:=Lib.hid (HS23.out.below HA7.out.2)
 have HB7:=Lib.hid (a0g HB3.out HA7.out.2)
 have HSm:=b3K A2 A7 c2 c7 X w7 HS27.out.row HS7.out.row HS2.out.by'
 refine HSm.mono ?_
 rintro e w8 ⟨rfl,rfl⟩
 have v3 : (convert 22 9 (.slice A3 1 c3)).run Tryz.prog w7 = .ok (.string ⟨#[7]⟩) w7:=(HS3.out.below HA7.out.2).str
 clear HSm
 go_wp2_with fail
 go_ret
 exact ⟨rfl,HB7.out⟩
def Enc20 (A : Option Addr) (ca : Nat) (b : List Int) (w : World) : Prop:=
 ∃ (k : Int) (y : List Int),Bytes y /\ (∀ w1,Below w.heap.size w w1 -> Calls Tryz.prog 17 #[.slice A b.length ca] w1 (Told k y w1)) /\ (∀ w1,Below w.heap.size w w1 -> Calls Tryz.prog 18 #[.slice A b.length ca] w1 (Told k y w1))
set_option maxRecDepth 100000 in
theorem c6I (A : Option Addr) (ca : Nat) (b : List Int) (w : World) (hE : b.length <= 60 -> Enc20 A ca b w) :
    Calls Tryz.prog 5 #[.slice A b.length ca] w (Ret (.bool true) w):=by
 by_cases h1 : b.length <= 60
 · obtain ⟨k,y,hy,g1,g2⟩:=hE h1
   have HG:=Lib.hid (And.intro hy (And.intro g1 g2))
   have d1 : decide (60 < (b.length : Int)) = false:=decide_eq_false (by omega)
   clear hy g1 g2 hE h1
   go_enter Tryz.func5,Tryz.ntmps5
   go_wp2_with fail
   refine (b5P w).mono ?_
   rintro e w1 ⟨rfl,hb1⟩
   have HB1:=Lib.hid hb1
   clear hb1
   go_wp2_with fail
   refine (HG.out.2.1 w1 HB1.out).mono ?_
   intro e w2 h2
   obtain ⟨A2,c2,rfl,hs2,hb2⟩:=h2.out HG.out.1
   have HB2:=Lib.hid (a0g HB1.out hb2)
   have HS2:=Lib.hid hs2
   clear h2 hs2 hb2
   go_wp2_with fail
   refine (HG.out.2.2 w2 HB2.out).mono ?_
   intro e w3 h3
   obtain ⟨A3,c3,rfl,hs3,hb3⟩:=h3.out HG.out.1
   have HB3:=Lib.hid (a0g HB2.out hb3)
   have HS3:=Lib.hid (And.intro (HS2.out.below hb3) hs3)
   clear h3 hs3 hb3
   go_wp2_with fail
   refine (b3K A2 A3 c2 c3 y w3 HS3.out.1.row HS3.out.2.row HG.out.1).mono ?_
   rintro e w4 ⟨rfl,rfl⟩
   go_wp2_with fail
   go_ret
   exact ⟨rfl,HB3.out⟩
 · have d1 : decide (60 < (b.length : Int)) = true:=decide_eq_true (by omega)
   clear hE h1
   go_enter Tryz.func5,Tryz.ntmps5
   go_wp2_with fail
   refine (b5P w).mono ?_
   rintro e w1 ⟨rfl,hb1⟩
   have HB1:=Lib.hid hb1
   clear hb1
   go_wp2_with fail
   go_ret
   exact ⟨rfl,HB1.out⟩
theorem c6J (A : Option Addr) (ca : Nat) (b : List Int) (w : World) (hr : (Kd.int .u8).C w A b.length b) (hc : b.length <= ca) (hby : Bytes b) (hl : b.length <= 60) : Enc20 A ca b w:=by
 rcases Nat.eq_zero_or_pos b.length with h0 | h0
 · refine ⟨1,[],(by intro z hz; cases hz),λ w1 _=>?_,λ w1 _=>?_⟩
   · rw [h0]
     refine (c5C A ca w1).mono ?_
     rintro e w2 ⟨rfl,hb⟩
     exact Told.nil 1 hb
   · rw [h0]; exact c6E A ca w1
 · exact ⟨0,a1b b,a9g b,λ w1 h=>b5j A ca b w1 (Kd.C_below hr h) hby (by omega) h0,λ w1 h=>c6G A ca b w1 (Kd.C_below hr h) hc hby (by omega) h0⟩
theorem c6K (A : Option Addr) (ca : Nat) (b : List Int) (w : World) (hr : (Kd.int .u8).C w A b.length b) (hc : b.length <= ca) (hby : Bytes b) :
    Calls Tryz.prog 5 #[.slice A b.length ca] w (Ret (.bool true) w):=c6I A ca b w (λ hl=>c6J A ca b w hr hc hby hl)
theorem c6L (A : Option Addr) (ca : Nat) (b : List Int) (w : World) (hr : (Kd.int .u8).C w A b.length b) (hc : b.length <= ca) (hby : Bytes b) (_ : b.length * 1 <= 140737488351232) :
    Calls Tryz.prog 5 #[.slice A b.length ca] w (Ret (.bool true) w):=c6K A ca b w hr hc hby
end Go.Proofs.YtipjlneepponpaaGreat
