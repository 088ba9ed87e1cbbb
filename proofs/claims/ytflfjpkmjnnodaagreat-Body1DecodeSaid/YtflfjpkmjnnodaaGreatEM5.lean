/- The walks of ctx.Present, ctx.Widest. -/
import Derived.Deep.MidRow
import Derived.Test.YtflfjpkmjnnodaaGreatER1
import Derived.Test.YtflfjpkmjnnodaaGreatEM4
import Derived.Test.YtflfjpkmjnnodaaGreatEM2
import Derived.Test.YtflfjpkmjnnodaaGreatEM1
import Derived.Test.YtflfjpkmjnnodaaGreatES1
import Derived.Test.YtflfjpkmjnnodaaGreatEM0
import Derived.Deep.RegionHeld3
import Derived.Deep.RegionLaw
import Derived.RangeFuncRecord
import Derived.RangeFuncSeq
import Derived.WalkKit
import Derived.OwnWalkIn
import Derived.TacticsInMore
import Derived.BigFrameIn
import Derived.LoopNIn
import Derived.LoopIn
import Derived.Maps.OwnIn
import Derived.Maps.AppendAt
import Derived.RangeFuncBox
import Derived.OwnWalk
import Derived.RangeFuncLeaves
import Derived.Laws.EntriesVeiled
namespace Go.Proofs.YtflfjpkmjnnodaaGreat
open Go.RowKit Go.IntWalk Go.Proofs.YtflfjpkmjnnodaaGreatW.PrintWords Go.Proofs.YtflfjpkmjnnodaaGreatW.PrintMore
attribute [local go_sem] a2g a1W a2h a1X
def metL (b : List Int) : Nat -> List Bool
 | 0=>List.replicate 256 false
 | i + 1=>(metL b i).set (ctxI b (i : Nat)).toNat true
theorem a7S (b : List Int) : ∀ i,(metL b i).length = 256
 | 0=>List.length_replicate
 | i + 1=>by unfold metL; rw [List.length_set]; exact a7S b i
theorem b6s {b : List Int} (hb : Bytes b) {i : Nat} (hi : i < b.length) : 0 <= ctxI b (i : Nat) /\ ctxI b (i : Nat) < 256:=by
 unfold ctxI
 rw [if_neg (by omega)]
 split
 · omega
 · exact hb.get _
theorem b6t {b : List Int} (hb : Bytes b) {c : Nat} (hc : c < 256) : ∀ i,i <= b.length -> (metL b i).getD c false = decide (0 < (pkL b (c : Int) i).length)
 | 0,_=>by
  have : pkL b (c : Int) 0 = []:=rfl
  rw [this]
  unfold metL
  rw [List.getD_eq_getElem?_getD,List.getElem?_replicate,if_pos hc]; rfl
 | i + 1,h=>by
  have ih:=b6t hb hc i (by omega)
  have hr:=b6s hb (show i < b.length by omega)
  unfold metL
  rw [List.getD_eq_getElem?_getD,List.getElem?_set]
  by_cases e : ctxI b (i : Nat) = (c : Int)
  · rw [if_pos (by omega),if_pos (by rw [a7S]; omega),a7l e]
    simp
  · rw [if_neg (by omega),<- List.getD_eq_getElem?_getD,ih,a7m e]
theorem c7a : (Tryz.prog.info? 196).map (·.size) = some 256:=by kernel_rfl
theorem c7b : (Tryz.prog.info? 4).map (·.size) = some 1:=by kernel_rfl
theorem c7c : Tryz.zeroCells196 = ((List.replicate 256 false).map Value.bool).toArray:=by kernel_rfl
theorem c7d (ms : List Bool) (hm : ms.length = 256) (i : Nat) (hi : i < 256) (w : World) : (Instr.index 196 (.agg (ms.map Value.bool).toArray) (.int .i64 i)).run Tryz.prog w = .ok (.bool (ms.getD i false)) w:=by
 obtain ⟨i0,hi0,hsz⟩:=Option.map_eq_some_iff.1 c7b
 have h1 : (0 : Int) <= i /\ (i : Int) < ((256 : Nat) : Int):=by omega
 have hag : (isAgg 4).run Tryz.prog w = .ok false w:=by simp [isAgg,Tryz.underlying4,go_sem,run_underlying]
 have he : ms[i]? = some ms[i]:=List.getElem?_eq_getElem (by omega)
 unfold Instr.index
 simp [run_underlying (P:=Tryz.prog) Tryz.underlying196,asIntOf,sizeOf,typeInfo,hi0,hsz,part,hag,h1,Result.andThen,he,hi]
def MetAt (p : Nat) (ms : List Bool) (w : World) : Prop:=w.heap[p]? = some (.cells (ms.map Value.bool).toArray 196 (0,0))
theorem MetAt.cell {p : Nat} {ms : List Bool} {w : World} (h : MetAt p ms w) {c : Nat} (hc : c < ms.length) : w.cell? ⟨p,c,none⟩ = some (.bool (ms.getD c false)) /\ w.frozen? ⟨p,c,none⟩ = false:=by
 refine ⟨(a0a h c).trans ?_,a0e h c⟩
 rw [List.getElem?_toArray,List.getElem?_map,List.getElem?_eq_getElem hc,List.getD_eq_getElem?_getD,List.getElem?_eq_getElem hc]; rfl
theorem MetAt.set {p : Nat} {ms : List Bool} {w : World} (h : MetAt p ms w) (c : Nat) : MetAt p (ms.set c true) (w.setCell ⟨p,c,none⟩ (.bool true)):=by
 unfold MetAt at h ⊢
 rw [a0x h c]
 congr 2
 rw [List.map_set]; simp
theorem MetAt.range {p : Nat} {ms : List Bool} {w : World} (h : MetAt p ms w) : w.rangeAt p 0 (ms.map Value.bool):=λ j v hv=>by
 rw [Nat.zero_add,a0a h j]
 simpa using hv
def c7e (b : List Int) (w : World) (e : Ending) (w' : World) : Prop:=∃ v,e = .returned v /\ (Kd.int .i64).R 3 w' w.heap.size (λ _=>True) v (presN b 256) /\ Below w.heap.size w w'
theorem c7f {b : List Int} (hb : Bytes b) {c : Nat} (hc : c < 256) : (metL b b.length).getD c false = decide (0 < (a0r b (c : Int)).length):=b6t hb hc b.length (Nat.le_refl _)
set_option maxRecDepth 100000 in
set_option maxHeartbeats 1000000 in
theorem b6u (A : Option Addr) (cp : Nat) (b : List Int) (w : World) (hr : (Kd.int .u8).C w A b.length b) (hl : b.length <= 1000000) (hb : Bytes b) :
    Calls Tryz.prog 104 #[.slice A b.length cp] w (c7e b w):=by
 obtain ⟨W,hW⟩ : ∃ W,W = w.alloc (.cells Tryz.zeroCells196 196):=⟨_,rfl⟩
 have hb1 : Below w.heap.size w W:=by rw [hW]; exact (Below.refl _ _).alloc (Nat.le_refl _) _
 have hm1 : MetAt w.heap.size (metL b 0) W:=by rw [hW,c7c]; exact a0i _ _
 have H1:=Lib.hid (And.intro hb1 hm1)
 have HR:=Lib.hid (And.intro hr (And.intro hl hb))
 obtain ⟨p,hp⟩ : ∃ p,p = w.heap.size:=⟨_,rfl⟩
 rw [<- hp] at H1
 have HP:=Lib.hid hp
 clear hr hl hb hb1 hm1
 go_enter Tryz.func104,Tryz.ntmps104
 go_wp2_with fail
 rw [<- hW,<- hp]
 clear hW hp
 go_loopw [10] (λ kv wr=>∃ i : Nat,i <= b.length /\ kv = .int .i64 i /\ Hid (MetAt p (metL b i) wr /\ Below p w wr /\ Only (λ k=>k = p) W wr)) (λ kv _=>b.length - (intOf kv).toNat)
 case atStart=>exact ⟨0,by omega,rfl,Lib.hid ⟨H1.out.2,by rw [HP.out]; have:=H1.out.1; rw [HP.out] at this; exact this,Only.refl _ _⟩⟩
 case round=>
  obtain ⟨i,hi,rfl,H⟩:=hrel
  by_cases hlt : i < b.length
  · have hB : Below w.heap.size w wr:=by have:=H.out.2.1; rw [HP.out] at this; exact this
    have hRr : (Kd.int .u8).C wr A b.length b:=Kd.C_below HR.out.1 hB
    have HAt:=Lib.hid (a6O A cp b i wr hRr hlt HR.out.2.1 HR.out.2.2)
    obtain ⟨c,hc,hc2⟩ : ∃ c : Nat,ctxI b (i : Nat) = c /\ c < 256:=by
     have:=b6s HR.out.2.2 hlt
     exact ⟨(ctxI b (i : Nat)).toNat,by omega,by omega⟩
    rw [hc] at HAt
    obtain ⟨mc,mf⟩:=H.out.1.cell (c:=c) (by rw [a7S]; omega)
    have HN : Hid (metL b (i + 1) = (metL b i).set c true):=by show _ = _; rw [metL,hc,Int.toNat_natCast]
    have hl6 : b.length <= 1000000:=HR.out.2.1
    clear hc hRr hB
    go_wp2_with fail
    refine HAt.out.mono ?_
    rintro e w1 ⟨rfl,rfl⟩
    go_wp2_with fail
    go_roundw
    case rel=>exact ⟨i + 1,by omega,by go_num,Lib.hid ⟨by rw [HN.out]; exact H.out.1.set c,H.out.2.1.setCell (Nat.le_refl _) _,H.out.2.2.set1 _ _⟩⟩
    case measure=>simp [intOf]; omega
  · obtain rfl : i = b.length:=by omega
    have hld:=H.out.1.range
    obtain ⟨ms,hms⟩ : ∃ ms,ms = metL b b.length:=⟨_,rfl⟩
    have HMs : Hid (ms.length = 256 /\ ∀ c,c < 256 -> ms.getD c false = decide (0 < (a0r b (c : Int)).length)):=Lib.hid ⟨by rw [hms]; exact a7S b _,λ c hc=>by rw [hms]; exact c7f HR.out.2.2 hc⟩
    rw [<- hms] at hld
    have HLd:=Lib.hid hld
    clear hms hld
    go_wp2_with fail
    refine wp_load_mid 196 (.tmp 3) rfl p 0 rfl (ms.map Value.bool) _ HLd.out Tryz.underlying196 rfl (by rw [c7a]; simp [HMs.out.1]) ?_
    go_wp2_with fail
    go_loopw [5,19] (λ v kv wr=>∃ c : Nat,c <= 256 /\ kv = .int .i64 c /\ Hid ((Kd.int .i64).R 3 wr w.heap.size (λ _=>True) v (presN b c) /\ Below w.heap.size w wr)) (λ _ kv _=>256 - (intOf kv).toNat)
    case atStart=>exact ⟨0,by omega,rfl,Lib.hid ⟨by have : presN b 0 = []:=rfl; rw [this]; exact Kd.R_nil _ _ _ _ _,by have:=H.out.2.1; rw [HP.out] at this; exact this⟩⟩
    case round=>
     obtain ⟨c,hc,rfl,G⟩:=hrel
     by_cases hlt : c < 256
     · have hix:=c7d ms HMs.out.1 c hlt
       have hmc:=HMs.out.2 c hlt
       obtain ⟨Av,cv,rfl⟩:=Kd.R_slice G.out.1
       have hpl:=a4M b c
       have HLn : Hid (((presN b c).length + 1) * 8 <= 140737488355328):=by show _ <= _; omega
       obtain ⟨L,hL⟩ : ∃ L,L = presN b c:=⟨_,rfl⟩
       have hsucc:=a9q b c
       rw [<- hL] at G hpl HLn hsucc ⊢
       have HGB : Hid (Below w.heap.size w wr /\ w.heap.size <= wr.heap.size):=Lib.hid ⟨G.out.2,G.out.2.size⟩
       by_cases hp0 : 0 < (a0r b (c : Int)).length
       · rw [decide_eq_true hp0] at hmc
         rw [if_pos hp0] at hsucc
         rw [hmc] at hix
         have HS:=Lib.hid hsucc
         clear hmc hsucc hL hp0
         go_wp2_with (at_builtin; refine Kd.R_append (Kd.int .i64) (w0:=w) (W:=wr) w.heap.size rfl (.tmp 24) (.tmp 26) 84 3 (.int .i64 0) 8 rfl Tryz.underlying84 a4c rfl (by decide) (by decide) _ _ (c : Int) [.int .i64 c] (λ _=>True) (λ _=>False) rfl rfl rfl (λ _ h=>h.elim) (λ _ _=>trivial) G.out.1 HGB.out.1 HGB.out.2 HLn.out ?_; intro v1 w3 hr3 hb3 hg3 hat3; have HA:=Lib.hid (And.intro hr3 hb3); clear hr3 hb3 hg3 hat3)
         go_roundw
         case rel=>exact ⟨c + 1,by omega,by go_num,Lib.hid ⟨by rw [HS.out]; exact HA.out.1,HA.out.2⟩⟩
         case measure=>simp [intOf]; omega
       · rw [decide_eq_false hp0] at hmc
         rw [if_neg hp0] at hsucc
         rw [hmc] at hix
         have HS:=Lib.hid hsucc
         clear hmc hsucc hL hp0
         go_wp2_with fail
         go_roundw
         case rel=>exact ⟨c + 1,by omega,by go_num,Lib.hid ⟨by rw [HS.out]; exact G.out.1,G.out.2⟩⟩
         case measure=>simp [intOf]; omega
     · obtain rfl : c = 256:=by omega
       go_wp2_with fail
       go_ret
       exact ⟨_,rfl,G.out.1,G.out.2⟩
def widL (b : List Int) : List Int -> Nat
 | []=>0
 | c :: l=>max (manyC (histL (a0r b c))) (widL b l)
theorem b0p (b : List Int) (c : Int) : ∀ l : List Int,widL b (l ++ [c]) = max (widL b l) (manyC (histL (a0r b c)))
 | []=>by simp [widL]
 | x :: l=>by
  show max (manyC (histL (a0r b x))) (widL b (l ++ [c])) = max (max (manyC (histL (a0r b x))) (widL b l)) _
  rw [b0p b c l,Nat.max_assoc]
theorem b6v : manyC (histL []) = 0:=by decide +kernel
theorem b0q (b : List Int) : ∀ k,widL b (presN b k) = widN b k
 | 0=>rfl
 | k + 1=>by
  rw [a9q]
  show _ = max (widN b k) (manyC (histL (a0r b (k : Nat))))
  by_cases h : 0 < (a0r b (k : Int)).length
  · rw [if_pos h,b0p,b0q b k]
  · rw [if_neg h,b0q b k]
    have e : a0r b ((k : Nat) : Int) = []:=List.eq_nil_of_length_eq_zero (by omega)
    rw [e,b6v]; simp
theorem b6w (b : List Int) : ∀ l,widL b l <= 256
 | []=>by simp [widL]
 | c :: l=>by
  have:=b6w b l; have:=a4L (histL (a0r b c))
  simp only [widL]; omega
set_option maxRecDepth 100000 in
set_option maxHeartbeats 1000000 in
theorem c7g (A : Option Addr) (cp : Nat) (b : List Int) (w : World) (hr : (Kd.int .u8).C w A b.length b) (hl : b.length <= 1000000) (hb : Bytes b) :
    Calls Tryz.prog 144 #[.slice A b.length cp] w (Ret (.int .i64 (widN b 256 : Nat)) w):=by
 have HR:=Lib.hid (And.intro hr (And.intro hl hb))
 clear hr hl hb
 go_enter Tryz.func144,Tryz.ntmps144
 go_wp2_with fail
 refine (b6u A cp b w HR.out.1 HR.out.2.1 HR.out.2.2).mono ?_
 rintro e w1 ⟨v,rfl,hv,hb1⟩
 obtain ⟨A1,c1,rfl⟩:=Kd.R_slice hv
 have H1:=Lib.hid (And.intro (Kd.R_reads' hv).2.2 hb1)
 have hpl:=a4M b 256
 obtain ⟨L,hL⟩ : ∃ L,L = presN b 256:=⟨_,rfl⟩
 have HL:=Lib.hid hL
 rw [<- hL] at H1 hpl ⊢
 clear hv hb1 hL
 go_wp2_with fail
 go_loopw [3,9] (λ mv kv wr=>∃ i : Nat,i <= L.length /\ kv = .int .i64 i /\ mv = .int .i64 (widL b (L.take i) : Nat) /\ Hid (Below w1.heap.size w1 wr)) (λ _ kv _=>L.length - (intOf kv).toNat)
 case atStart=>exact ⟨0,by omega,rfl,rfl,Lib.hid (Below.refl _ _)⟩
 case round=>
  obtain ⟨i,hi,rfl,rfl,H⟩:=hrel
  by_cases hlt : i < L.length
  · obtain ⟨ad,hA,hcx⟩:=a0y (Kd.C_below H1.out.1 H.out) i hlt
    subst hA
    have ht : L.take (i + 1) = L.take i ++ [L.getD i 0]:=by rw [List.take_succ_eq_append_getElem hlt,List.getD_eq_getElem?_getD,List.getElem?_eq_getElem hlt,Option.getD_some]
    obtain ⟨c,hc⟩ : ∃ c,c = L.getD i 0:=⟨_,rfl⟩
    rw [<- hc] at ht hcx
    obtain ⟨m,hm⟩ : ∃ m,m = widL b (L.take i):=⟨_,rfl⟩
    obtain ⟨k,hk⟩ : ∃ k,k = manyC (histL (a0r b c)):=⟨_,rfl⟩
    have hN : widL b (L.take (i + 1)) = max m k:=by rw [ht,b0p,<- hm,<- hk]
    have hm256 : m <= 256:=by rw [hm]; exact b6w _ _
    have hk256 : k <= 256:=by rw [hk]; exact a4L _
    have HN:=Lib.hid (And.intro hN hk)
    rw [<- hm]
    have hBw:=a0g H1.out.2 H.out
    have HFor:=Lib.hid (b6r A cp b c wr (Kd.C_below HR.out.1 hBw) HR.out.2.1 HR.out.2.2)
    have HB:=Lib.hid H.out
    clear ht hc hm hN hk hBw
    go_wp2_with fail
    refine HFor.out.mono ?_
    rintro e w2 ⟨v2,rfl,hv2,hb2⟩
    obtain ⟨A2,c2,rfl⟩:=Kd.R_slice hv2
    have HV2:=Lib.hid (Kd.R_reads' hv2).2.2
    have HB2 : Hid (Below w1.heap.size w1 w2):=Lib.hid (a0g HB.out hb2)
    have HRi : Hid (a0P (histL (a0r b c)) = true):=Lib.hid (a5C _ (a7R HR.out.2.2 c) (by have:=a4k b c b.length; have:=HR.out.2.1; unfold a0r; omega))
    clear hv2 hb2
    go_wp2_with fail
    refine (a5M A2 c2 _ w2 HV2.out HRi.out).mono ?_
    rw [<- HN.out.2]
    rintro e w3 ⟨rfl,rfl⟩
    by_cases hmk : (m : Int) < (k : Int)
    · have HM : Hid (max m k = k):=by show _ = _; omega
      go_wp2_with fail
      go_roundw
      case rel=>exact ⟨i + 1,by omega,by go_num,by rw [HN.out.1,HM.out],HB2.out⟩
      case measure=>simp [intOf]; omega
    · have HM : Hid (max m k = m):=by show _ = _; omega
      go_wp2_with fail
      go_roundw
      case rel=>exact ⟨i + 1,by omega,by go_num,by rw [HN.out.1,HM.out],HB2.out⟩
      case measure=>simp [intOf]; omega
  · obtain rfl : i = L.length:=by omega
    have HE : Hid (widL b (L.take L.length) = widN b 256):=by show _ = _; rw [List.take_length,HL.out,b0q]
    rw [HE.out]
    go_wp2_with fail
    go_ret
    exact ⟨rfl,a0g H1.out.2 H.out⟩
end Go.Proofs.YtflfjpkmjnnodaaGreat
namespace Go.Proofs.YtflfjpkmjnnodaaGreat
open Go.RowKit Go.IntWalk Go.Proofs.YtflfjpkmjnnodaaGreatW.PrintWords
set_option maxRecDepth 100000 in
theorem c7h (A : Option Addr) (cp p : Nat) (b : List Int) (k : Int) (w : World) (h : w.cell? ⟨p,0,none⟩ = some (.slice A b.length cp)) (hr : (Kd.int .u8).C w A b.length b) (hl : b.length <= 1000000) (hb : Bytes b) :
    Calls Tryz.prog 145 #[.int .i64 k,.pointer (some ⟨p,0,none⟩)] w (b6q b k w):=by
 have HF:=Lib.hid (b6r A cp b k w hr hl hb)
 clear hr hl hb
 go_enter Tryz.func145,Tryz.ntmps145
 go_wp2_with fail
 refine HF.out.mono ?_
 rintro e w1 ⟨v,rfl,hv,hb⟩
 have H1:=Lib.hid (And.intro hv hb)
 clear hv hb
 go_wp2_with fail
 go_ret
 exact ⟨v,rfl,H1.out.1,H1.out.2⟩
def a2e (b : List Int) (c : Nat) : List (List Int):=(List.range c).map (a1p b)
theorem b6x (b : List Int) (c : Nat) : a2e b (c + 1) = a2e b c ++ [a1p b c]:=by simp [a2e,List.range_succ]
theorem a7T (b : List Int) (c : Nat) : (a2e b c).length = c:=by simp [a2e]
def FMade (b : List Int) (r : Nat) (m0 m1 base c : Nat) (w wr : World) : Prop:=∃ A1 c1,wr.heap[m1]? = some (.cells #[.int .i64 r,.bool false,.slice A1 c c1] 26 (0,0)) /\ wr.heap[m0]? = some (.cells #[.int .i64 0,.bool false,.slice none 0 0] 26 (0,0)) /\ kq.R 84 wr base (λ _=>True) (.slice A1 c c1) (a2e b c) /\ Below m0 w wr /\ base <= wr.heap.size
theorem FMade.next {b : List Int} {r m0 m1 base c : Nat} {w w6 : World} {A1 : Option Addr} {c1 : Nat} (hm : m0 < base /\ m1 < base /\ m0 ≠ m1 /\ m0 <= m1) (h0 : w6.heap[m0]? = some (.cells #[.int .i64 0,.bool false,.slice none 0 0] 26 (0,0)))
    (h1 : w6.heap[m1]? = some (.cells #[.int .i64 r,.bool false,.slice A1 c c1] 26 (0,0))) {A2 : Option Addr} {c2 : Nat} (hq : kq.R 84 w6 base (λ _=>True) (.slice A2 (c + 1) c2) (a2e b (c + 1))) (hb : Below m0 w w6) (hsz : base <= w6.heap.size) :
    FMade b r m0 m1 base (c + 1) w (w6.setCell ⟨m1,2,none⟩ (.slice A2 (c + 1) c2)):=by
 refine ⟨A2,c2,a0x h1 2 _,a1r h0 (p:=⟨m1,2,none⟩) hm.2.2.1 _,?_,hb.setCell hm.2.2.2 _,by simpa using hsz⟩
 refine Kd.R_mono (Kd.R_far (p:=⟨m1,2,none⟩) (Kd.R_bound hq) (λ k hk=>?_) _) (λ _ _=>trivial)
 show k ≠ m1
 have:=hk.2.1
 omega
set_option maxRecDepth 100000 in
set_option maxHeartbeats 4000000 in
theorem c7i (p cp : Nat) (A : Option Addr) (b : List Int) (w : World) (hp : w.heap[p]? = some (.cells #[.slice A b.length cp] 22 (0,0))) (hr : (Kd.int .u8).C w A b.length b) (hl : b.length <= 1000000) (hb : Bytes b) :
    Calls Tryz.prog 142 #[.int .i64 (a0v b : Nat),.int .i64 256,.func (Fn.func 145) #[] #[.pointer (some ⟨p,0,none⟩)]] w (MadeM (a0v b : Nat) false (a0G b) w):=by
 obtain ⟨r,hrr⟩ : ∃ r,r = a0v b:=⟨_,rfl⟩
 have HRR:=Lib.hid hrr
 rw [<- hrr]
 clear hrr
 obtain ⟨W2,hW2⟩ : ∃ W2,W2 = (w.alloc (.cells #[.int .i64 0,.bool false,.slice none 0 0] 26)).alloc (.cells #[.int .i64 r,.bool false,.slice none 0 0] 26):=⟨_,rfl⟩
 have hb2 : Below w.heap.size w W2:=by rw [hW2]; exact ((Below.refl w.heap.size w).alloc (Nat.le_refl _) _).alloc (by simp) _
 have hs2 : W2.heap.size = w.heap.size + 2:=by rw [hW2]; simp
 have hm1 : W2.heap[w.heap.size + 1]? = some (.cells #[.int .i64 r,.bool false,.slice none 0 0] 26 (0,0)):=by rw [hW2]; exact a2i _ _ _
 have hm0 : W2.heap[w.heap.size]? = some (.cells #[.int .i64 0,.bool false,.slice none 0 0] 26 (0,0)):=by rw [hW2]; exact a0o (a0i _ _) _
 have HPl : Hid (w.heap.size <= w.heap.size + 1):=Nat.le_succ _
 have H2:=Lib.hid (And.intro hb2 (And.intro hs2 (And.intro hm1 hm0)))
 have HP:=Lib.hid hp
 have HR:=Lib.hid (And.intro hr (And.intro hl hb))
 clear hp hr hl hb hb2 hs2 hm1 hm0
 go_enter Tryz.func142,Tryz.ntmps142
 go_wp2_with fail
 rw [<- hW2]
 clear hW2
 obtain ⟨m0,hm0⟩ : ∃ m0,m0 = w.heap.size:=⟨_,rfl⟩
 have HM0:=Lib.hid hm0
 rw [<- hm0] at H2 ⊢
 clear hm0
 obtain ⟨m1,hm1⟩ : ∃ m1,m1 = m0 + 1:=⟨_,rfl⟩
 have HM1:=Lib.hid hm1
 rw [<- hm1] at H2 ⊢
 clear hm1
 go_loopw [16] (λ kv wr=>∃ c : Nat,c <= 256 /\ kv = .int .i64 c /\ Hid (FMade b r m0 m1 W2.heap.size c w wr)) (λ kv _=>256 - (intOf kv).toNat)
 case atStart=>exact ⟨0,by omega,rfl,Lib.hid ⟨none,0,H2.out.2.2.1,H2.out.2.2.2,Kd.R_nil _ _ _ _ _,H2.out.1,Nat.le_refl _⟩⟩
 case round=>
  obtain ⟨c,hc,rfl,H⟩:=hrel
  by_cases hlt : c < 256
  · obtain ⟨A1,c1,h1,h2,h3,h4,h5⟩:=H.out
    have hbw : Below w.heap.size w wr:=by have:=h4; rw [HM0.out] at this; exact this
    have hpc : wr.cell? ⟨p,0,none⟩ = some (.slice A b.length cp):=(a0a (a0h HP.out hbw) 0).trans rfl
    have HF:=Lib.hid (c7h A cp p b c wr hpc (Kd.C_below HR.out.1 hbw) HR.out.2.1 HR.out.2.2)
    have HH:=Lib.hid (And.intro h1 (And.intro h2 (And.intro h3 (And.intro h4 h5))))
    have hmm : Hid (m0 < W2.heap.size /\ m1 < W2.heap.size /\ m0 ≠ m1 /\ m0 <= m1):=by
     have:=a0f H2.out.2.2.1; have:=a0f H2.out.2.2.2; have:=HM1.out
     exact Lib.hid (by omega)
    have HPk:=Lib.hid (a4k b (c : Int) b.length)
    have HOwn : Hid (∀ k,(Value.slice A1 c c1).ownBlock = some k -> W2.heap.size <= k /\ k < wr.heap.size):=Lib.hid λ k hk=>⟨Kd.R_base h3 k hk,Kd.R_lt h3 k hk⟩
    clear h1 h2 h3 h4 h5 hbw hpc H
    go_wp2_with fail
    refine HF.out.mono ?_
    rintro e w3 ⟨vl,rfl,hvl,hb3⟩
    obtain ⟨Al,cl,rfl⟩:=Kd.R_slice hvl
    have hhl : (histL (a0r b (c : Int))).length = 256:=a1E _
    have hrd:=(Kd.R_reads' hvl).2.2
    have hmany:=a5M Al cl (histL (a0r b (c : Int))) w3 hrd (a5C _ (a7R HR.out.2.2 c) (by have:=HPk.out; have:=HR.out.2.1; unfold a0r; omega))
    rw [hhl] at hrd hmany ⊢
    have HV:=Lib.hid hrd
    have HMa:=Lib.hid hmany
    have HB3:=Lib.hid hb3
    clear hvl hb3 hrd hmany hhl
    go_wp2_with fail
    refine HMa.out.mono ?_
    by_cases hp0 : 0 < (a0r b (c : Int)).length
    · have hmp : 0 < manyC (histL (a0r b (c : Int))):=b5X (a7R HR.out.2.2 c) (by have:=HPk.out; have:=HR.out.2.1; unfold a0r; omega) hp0
      have HCan:=Lib.hid (a5E HR.out.2.2 HR.out.2.1 hlt hp0)
      have HQ : Hid (a1p b c = normL (histL (a0r b (c : Int))) r):=by show _ = _; unfold a1p; rw [if_pos hp0,<- HRR.out]
      rw [<- HRR.out] at HCan
      obtain ⟨mn,hmn⟩ : ∃ mn,mn = manyC (histL (a0r b (c : Int))):=⟨_,rfl⟩
      rw [<- hmn] at hmp ⊢
      clear hmn hp0
      rintro e w' ⟨rfl,rfl⟩
      go_wp2_with fail
      refine (b5W Al cl _ r w3 HV.out HCan.out).mono ?_
      rintro e w5 ⟨vq,rfl,hq,hb5⟩
      rw [<- HQ.out] at hq
      obtain ⟨Aq,cq,rfl⟩:=Kd.R_slice hq
      obtain ⟨Q,hQ⟩ : ∃ Q,Q = a1p b c:=⟨_,rfl⟩
      rw [<- hQ] at hq ⊢
      have HQQ:=Lib.hid hQ
      obtain ⟨ql,hql⟩ : ∃ ql,ql = Q.length:=⟨_,rfl⟩
      rw [<- hql] at hq ⊢
      have HQr : Hid ((Kd.int .i64).R 3 w5 W2.heap.size (λ k=>wr.heap.size <= k) (.slice Aq ql cq) Q):=Lib.hid (Kd.R_mono (Kd.R_lower (Kd.R_bound hq) (Nat.le_trans HH.out.2.2.2.2 HB3.out.size)) (λ k hk=>by have:=hk.2.1; have:=HB3.out.size; omega))
      have hb35:=a0g HB3.out hb5
      have h15:=a0h HH.out.1 hb35
      have H05:=Lib.hid (a0h HH.out.2.1 hb35)
      obtain ⟨⟨ca,cb,cc⟩,fa,fb,fc⟩:=cell3 h15
      have H15:=Lib.hid h15
      have HB5:=Lib.hid hb35
      have hm1l:=a0f h15
      have hm1n : ¬ m1 = w5.heap.size:=by omega
      have hm1n' : ¬ w5.heap.size = m1:=by omega
      have HS5 : Hid (W2.heap.size <= w5.heap.size):=Lib.hid (Nat.le_trans HH.out.2.2.2.2 hb35.size)
      have HB5' : Hid (Below W2.heap.size w5 w5):=Below.refl _ _
      have HL : Hid (((a2e b c).length + 1) * 24 <= 140737488355328):=by show _ <= _; rw [a7T]; omega
      have HO5:=Lib.hid (Kd.R_below HH.out.2.2.1 hb35)
      clear hq hb5 h15 hql hQ hb35
      go_wp2_with (at_builtin; refine Kd.R_append kq (w0:=w5) (W:=w5) W2.heap.size rfl (.tmp 32) (.tmp 34) 24 84 (.slice none 0 0) 24 rfl Tryz.underlying24 a7w rfl (by decide) (by decide) (.slice A1 c c1) (a2e b c) Q [.slice Aq ql cq] (λ _=>True) (λ k=>wr.heap.size <= k) rfl (by simp [go_sem]) ⟨_,rfl,HQr.out⟩ (λ k hk=>⟨trivial,λ e=>by have:=(HOwn.out k e.symm).2; omega⟩) (λ _ _=>trivial) HO5.out HB5'.out HS5.out HL.out ?_; intro v1 w6 hr6 hb6 hg6 hat6; have h16:=a1e H15.out hg6 (λ e=>by have:=(HOwn.out _ e.symm).1; have:=hmm.out; omega); have H16:=Lib.hid h16; have H06:=Lib.hid (a1e H05.out hg6 (λ e=>by have:=(HOwn.out _ e.symm).1; have:=hmm.out; omega)); obtain ⟨⟨da,db,dc⟩,ga,gb,gc⟩:=cell3 h16; obtain ⟨A2,c2,rfl⟩:=Kd.R_slice hr6; have hlen : (a2e b c ++ [Q]).length = c + 1:=(by rw [List.length_append,a7T]; rfl); rw [hlen] at hr6; have HR6:=Lib.hid hr6; have HB6:=Lib.hid hb6; rw [hlen]; clear hr6 hb6 hg6 hat6 h16 hlen)
      go_roundw
      case rel=>
       refine ⟨c + 1,by omega,by go_num,Lib.hid (FMade.next hmm.out H06.out H16.out ?_ ?_ (Nat.le_trans HS5.out HB6.out.size))⟩
       · rw [b6x,<- HQQ.out]; exact HR6.out
       · have hm:=hmm.out
         have hs:=HH.out.2.2.2.2
         exact (HH.out.2.2.2.1.trans (HB5.out.mono (by omega))).trans (HB6.out.mono (by omega))
      case measure=>simp [intOf]; omega
    · have hpe : a0r b (c : Int) = []:=List.eq_nil_of_length_eq_zero (by omega)
      rw [hpe,b6v]
      have HQ : Hid (a1p b c = []):=by show _ = _; unfold a1p; rw [if_neg hp0]
      clear hp0 hpe
      rintro e w' ⟨rfl,rfl⟩
      have h15:=a0h HH.out.1 HB3.out
      have H05:=Lib.hid (a0h HH.out.2.1 HB3.out)
      obtain ⟨⟨ca,cb,cc⟩,fa,fb,fc⟩:=cell3 h15
      have H15:=Lib.hid h15
      have hm1l:=a0f h15
      have hm1n : ¬ m1 = w3.heap.size:=by omega
      have hm1n' : ¬ w3.heap.size = m1:=by omega
      have HS5 : Hid (W2.heap.size <= w3.heap.size):=Lib.hid (Nat.le_trans HH.out.2.2.2.2 HB3.out.size)
      have HB5' : Hid (Below W2.heap.size w3 w3):=Below.refl _ _
      have HL : Hid (((a2e b c).length + 1) * 24 <= 140737488355328):=by show _ <= _; rw [a7T]; omega
      have HO5:=Lib.hid (Kd.R_below HH.out.2.2.1 HB3.out)
      clear h15
      go_wp2_with (at_builtin; refine Kd.R_append kq (w0:=w3) (W:=w3) W2.heap.size rfl (.tmp 32) (.tmp 34) 24 84 (.slice none 0 0) 24 rfl Tryz.underlying24 a7w rfl (by decide) (by decide) (.slice A1 c c1) (a2e b c) [] [.slice none 0 0] (λ _=>True) (λ _=>False) rfl (by simp [go_sem]) ⟨_,rfl,Kd.R_nil _ _ _ _ _⟩ (λ _ h=>h.elim) (λ _ _=>trivial) HO5.out HB5'.out HS5.out HL.out ?_; intro v1 w6 hr6 hb6 hg6 hat6; have h16:=a1e H15.out hg6 (λ e=>by have:=(HOwn.out _ e.symm).1; have:=hmm.out; omega); have H16:=Lib.hid h16; have H06:=Lib.hid (a1e H05.out hg6 (λ e=>by have:=(HOwn.out _ e.symm).1; have:=hmm.out; omega)); obtain ⟨⟨da,db,dc⟩,ga,gb,gc⟩:=cell3 h16; obtain ⟨A2,c2,rfl⟩:=Kd.R_slice hr6; have hlen : (a2e b c ++ [([] : List Int)]).length = c + 1:=(by rw [List.length_append,a7T]; rfl); rw [hlen] at hr6; have HR6:=Lib.hid hr6; have HB6:=Lib.hid hb6; rw [hlen]; clear hr6 hb6 hg6 hat6 h16 hlen)
      go_roundw
      case rel=>
       refine ⟨c + 1,by omega,by go_num,Lib.hid (FMade.next hmm.out H06.out H16.out ?_ ?_ (Nat.le_trans HS5.out HB6.out.size))⟩
       · rw [b6x,HQ.out]; exact HR6.out
       · have hm:=hmm.out
         have hs:=HH.out.2.2.2.2
         exact (HH.out.2.2.2.1.trans (HB3.out.mono (by omega))).trans (HB6.out.mono (by omega))
      case measure=>simp [intOf]; omega
  · obtain rfl : c = 256:=by omega
    obtain ⟨A1,c1,h1,h2,h3,h4,h5⟩:=H.out
    obtain ⟨⟨ca,cb,cc⟩,fa,fb,fc⟩:=cell3 h1
    obtain ⟨⟨da,db,dc⟩,ga,gb,gc⟩:=cell3 h2
    have HH:=Lib.hid (And.intro h2 (And.intro h3 (And.intro h4 h5)))
    clear h1 h2 h3 h4 h5 H
    go_wp2_with fail
    have hmm : m0 < W2.heap.size:=a0f H2.out.2.2.2
    refine bodyPost_ret (results_cell_row (fn:=Tryz.f142) (p:=6) (ty:=26) rfl _ _ _ _ _ _ _ rfl (a1t HH.out.1 _ _ _) Tryz.underlying26 rfl a5F) rfl ?_
    have hw0:=HM0.out
    subst hw0
    refine ⟨_,rfl,?_,((HH.out.2.2.1.setCell (Nat.le_refl _) _).setCell (Nat.le_refl _) _).setCell (Nat.le_refl _) _⟩
    have e : a2e b 256 = a0G b:=rfl
    have h4 : kq.R 84 wr w.heap.size (λ k=>k ≠ w.heap.size) (.slice A1 256 c1) (a0G b):=Kd.R_mono (Kd.R_lower (Kd.R_bound HH.out.2.1) (by omega)) (λ k hk=>by have:=hk.2.1; omega)
    exact Kd.R_mono (a2c h4 _ _ _) (λ _ _=>trivial)
def b6y (b : List Int) (w : World) (e : Ending) (w' : World) : Prop:=
 (b.length = 0 /\ e = .returned (.tuple #[.agg #[.int .i64 0,.bool false,.slice none 0 0],.int .i64 1]) /\ Below w.heap.size w w') \/
 (0 < b.length /\ ∃ Av cv,e = .returned (.tuple #[.agg #[.int .i64 (a0v b : Nat),.bool false,.slice Av 256 cv],.int .i64 0]) /\ kq.R 84 w' w.heap.size (λ _=>True) (.slice Av 256 cv) (a0G b) /\ Below w.heap.size w w')
theorem a4Y {w w' : World} {m j : Nat} {c : Value} (hb : Below w.heap.size w w') (hc : w.cell? ⟨m,j,none⟩ = some c) (hf : w.frozen? ⟨m,j,none⟩ = false) : w'.frozen? ⟨m,j,none⟩ = false:=by
 rw [hb.frozen (p:=⟨m,j,none⟩) (World.block_lt_of_cell? w _ hc)]; exact hf
def SF (W1 : World) (p m n cp : Nat) (A : Option Addr) (W : World) : Prop:=Below W1.heap.size W1 W /\ W.cell? ⟨p,0,none⟩ = some (.slice A n cp) /\ W.cell? ⟨m,0,none⟩ = some (.int .i64 0) /\ W.cell? ⟨m,1,none⟩ = some (.bool false) /\ W.cell? ⟨m,2,none⟩ = some (.slice none 0 0) /\ W.frozen? ⟨m,0,none⟩ = false /\ W.frozen? ⟨m,1,none⟩ = false /\ W.frozen? ⟨m,2,none⟩ = false
theorem SF.keep {W1 W w' : World} {p m n cp : Nat} {A : Option Addr} (h : SF W1 p m n cp A W) (hb : Below W.heap.size W w') : SF W1 p m n cp A w':=
 ⟨a0g h.1 hb,a0s hb h.2.1,a0s hb h.2.2.1,a0s hb h.2.2.2.1,a0s hb h.2.2.2.2.1,a4Y hb h.2.2.1 h.2.2.2.2.2.1,a4Y hb h.2.2.2.1 h.2.2.2.2.2.2.1,a4Y hb h.2.2.2.2.1 h.2.2.2.2.2.2.2⟩
theorem SF.drew {W1 W : World} {p m n cp : Nat} {A : Option Addr} (h : SF W1 p m n cp A W) : SF W1 p m n cp A W.drew:=
 ⟨h.1.drew,h.2.1,h.2.2.1,h.2.2.2.1,h.2.2.2.2.1,h.2.2.2.2.2.1,h.2.2.2.2.2.2.1,h.2.2.2.2.2.2.2⟩
set_option maxRecDepth 100000 in
set_option maxHeartbeats 4000000 in
theorem c7k (A : Option Addr) (cp : Nat) (b : List Int) (w : World) (hr : (Kd.int .u8).C w A b.length b) (hb : Bytes b) (hl : b.length <= 1000000) (h0 : 0 < b.length) :
    Calls Tryz.prog 101 #[.slice A b.length cp] w (b6y b w):=by
 have hne : ((b.length : Int) == 0) = false:=by simp; intro e; subst e; simp at h0
 have hne2 : ¬ b = []:=by intro e; subst e; simp at h0
 obtain ⟨n,hn⟩ : ∃ n,n = b.length:=⟨_,rfl⟩
 rw [<- hn] at hne
 obtain ⟨W1,hW1⟩ : ∃ W1,W1 = (w.alloc (.cells #[.slice A n cp] 22)).alloc (.cells #[.int .i64 0,.bool false,.slice none 0 0] 26):=⟨_,rfl⟩
 have hb1 : Below w.heap.size w W1:=by rw [hW1]; exact ((Below.refl w.heap.size w).alloc (Nat.le_refl _) _).alloc (by simp) _
 have hk1 : W1.heap[w.heap.size + 1]? = some (.cells #[.int .i64 0,.bool false,.slice none 0 0] 26 (0,0)):=by rw [hW1]; exact a2i _ _ _
 have hk0 : W1.heap[w.heap.size]? = some (.cells #[.slice A n cp] 22 (0,0)):=by rw [hW1]; exact a0o (a0i _ _) _
 have hc0 : W1.cell? ⟨w.heap.size,0,none⟩ = some (.slice A n cp):=(a0a hk0 0).trans rfl
 obtain ⟨m,hm⟩ : ∃ m,m = w.heap.size + 1:=⟨_,rfl⟩
 have HM:=Lib.hid hm
 rw [<- hm] at hk1
 obtain ⟨p,hp⟩ : ∃ p,p = w.heap.size:=⟨_,rfl⟩
 have HPp:=Lib.hid hp
 rw [<- hp] at hk0 hc0
 obtain ⟨⟨ca,cb,cc⟩,fa,fb,fc⟩:=cell3 hk1
 have s0 : SF W1 p m n cp A W1:=⟨Below.refl _ _,hc0,ca,cb,cc,fa,fb,fc⟩
 have HK:=Lib.hid (And.intro hk1 hk0)
 have hrz:=a2Q b
 have HX:=Lib.hid (And.intro hb (And.intro hl (And.intro h0 (And.intro hb1 hn))))
 have HR1:=Lib.hid (Kd.C_below hr hb1)
 have hW256:=a7n b 256
 obtain ⟨wd,hwd⟩ : ∃ wd,wd = widN b 256:=⟨_,rfl⟩
 have hw256 : wd <= 256:=by omega
 have HWd:=Lib.hid hwd
 have hn6 : n <= 1000000:=by omega
 have HCW : Hid (∀ W : World,Below W1.heap.size W1 W -> Calls Tryz.prog 144 #[.slice A n cp] W λ e w'=>e = .returned (.int .i64 wd) /\ Below W.heap.size W w'):=Lib.hid λ W hW=>by
  have:=c7g A cp b W (Kd.C_below HR1.out hW) hl hb
  rw [<- hn,<- hwd] at this; exact this
 obtain ⟨rz,hrz1⟩ : ∃ rz,rz = a0v b:=⟨_,rfl⟩
 have HRZ:=Lib.hid hrz1
 have hpk : pickI n wd 9 = (rz : Int):=by rw [hn,hwd,hrz1]; exact hrz.1
 have HPk : Hid (∀ W : World,Calls Tryz.prog 143 #[.int .i64 n,.int .i64 wd,.int .i64 9] W λ e w'=>e = .returned (.int .i64 rz) /\ Below W.heap.size W w'):=Lib.hid λ W=>by
  have:=b5T n wd 9 W hn6 (by omega)
  rw [hpk] at this; exact this
 have HMd : Hid (∀ W : World,Below W1.heap.size W1 W -> Calls Tryz.prog 142 #[.int .i64 rz,.int .i64 256,.func (Fn.func 145) #[] #[.pointer (some ⟨p,0,none⟩)]] W λ e w'=>∃ Av cv,e = .returned (.agg #[.int .i64 rz,.bool false,.slice Av 256 cv]) /\ kq.R 84 w' W1.heap.size (λ _=>True) (.slice Av 256 cv) (a0G b) /\ Below W.heap.size W w'):=Lib.hid λ W hW=>by
  have h7:=a0h hk0 hW
  rw [hn] at h7
  have:=c7i p cp A b W h7 (Kd.C_below HR1.out hW) hl hb
  rw [<- hrz1] at this
  refine this.mono ?_
  rintro e w' ⟨v,rfl,hv,hb⟩
  obtain ⟨Av,cv,rfl⟩:=Kd.R_slice hv
  rw [a9A] at hv ⊢
  exact ⟨Av,cv,rfl,Kd.R_lower hv hW.size,hb⟩
 have hmf : ∀ (fn : Fn) (first cap : Array Value) (w : World),(Instr.makeFunc fn first cap).run Tryz.prog w = .ok (.func fn first cap) w:=λ _ _ _ _=>rfl
 rw [<- hn]
 clear hr hb hl h0 hb1 hk1 hk0 hn hrz hwd hrz1 hpk hW256
 go_enter Tryz.func101,Tryz.ntmps101
 go_wp2_with fail
 rw [<- hW1,<- hm,<- hp]
 clear hW1 hm hp
 go_wp2_with fail
 go_region_law (first
  | (go_simp; go_at_call 144; refine (HCW.out _ (by first | exact And.left ‹SF _ _ _ _ _ _ _› | exact (SF.drew ‹SF _ _ _ _ _ _ _›).1)).mono ?_; rintro e w' ⟨rfl,hb⟩; have s1:=(by first | exact SF.keep ‹_› hb | exact SF.keep (SF.drew ‹_›) hb : SF W1 p m n cp A w'); obtain ⟨g0,g1,g2,g3,g4,g5,g6,g7⟩:=id s1)
  | (go_simp; go_at_call 143; refine (HPk.out _).mono ?_; rintro e w' ⟨rfl,hb⟩; have s1:=(by first | exact SF.keep ‹_› hb | exact SF.keep (SF.drew ‹_›) hb : SF W1 p m n cp A w'); obtain ⟨g0,g1,g2,g3,g4,g5,g6,g7⟩:=id s1)
  | (go_simp; go_at_call 142; refine (HMd.out _ (by first | exact And.left ‹SF _ _ _ _ _ _ _› | exact (SF.drew ‹SF _ _ _ _ _ _ _›).1)).mono ?_; rintro e w' ⟨Av,cv,rfl,hv,hb⟩; have s1:=(by first | exact SF.keep ‹_› hb | exact SF.keep (SF.drew ‹_›) hb : SF W1 p m n cp A w'); obtain ⟨g0,g1,g2,g3,g4,g5,g6,g7⟩:=id s1))
 all_goals
  have HV:=Lib.hid hv
  have HS:=Lib.hid s1
  go_wp2_with fail
  refine bodyPost_ret (a2d (fn:=Tryz.f101) (p:=2) (u:=3) (ty:=26) rfl _ _ _ _ rfl (a1f (a1t (a0h HK.out.1 HS.out.1) _ _ _))) rfl ?_
  have hle : w.heap.size <= m:=by have:=HM.out; omega
  have hlt : m < W1.heap.size:=a0f HK.out.1
  have hB : Below w.heap.size w w':=a0g HX.out.2.2.2.1 HS.out.1
  have h4 : kq.R 84 w' w.heap.size (λ k=>k ≠ m) (.slice Av 256 cv) (a0G b):=Kd.R_mono (Kd.R_lower (Kd.R_bound HV.out) (by omega)) (λ k hk=>by have:=hk.2.1; omega)
  exact .inr ⟨HX.out.2.2.1,Av,cv,(by rw [<- HRZ.out]; rfl),Kd.R_mono (a2c h4 _ _ _) (λ _ _=>trivial),((hB.setCell hle _).setCell hle _).setCell hle _⟩
theorem c7l {b : List Int} (hb : Bytes b) (hl : b.length <= 1000000) : ∀ c ∈ presN b 256,Nrm ((a0G b).getD c.toNat []) (a0v b):=by
 intro c hc
 have hr:=a2Q b
 obtain ⟨i,hi,e⟩:=a9R hc
 obtain ⟨c',h1,h2,h3⟩:=a7x b hi
 have : c = (c' : Int):=by rw [<- e,h1]
 subst this
 rw [Int.toNat_natCast,a7u b h2]
 obtain ⟨n1,n2,n3⟩:=a9Q hb hl h2 h3
 exact ⟨n1,n2,n3,by omega,by omega⟩
def SLater (W1 W : World) : Prop:=Below W1.heap.size W1 W
theorem SLater.keep {W1 W w' : World} (h : SLater W1 W) (hb : Below W.heap.size W w') : SLater W1 w':=a0g h hb
theorem SLater.drew {W1 W : World} (h : SLater W1 W) : SLater W1 W.drew:=Below.drew h
def c7m (b : List Int) (w : World) (e : Ending) (w' : World) : Prop:=∃ v,e = .returned (.tuple #[v,.int .i64 0]) /\ (Kd.int .u8).R 5 w' w.heap.size (λ _=>True) v (a1w b) /\ Below w.heap.size w w'
set_option maxRecDepth 100000 in
set_option maxHeartbeats 4000000 in
theorem c7o (A : Option Addr) (cp : Nat) (b : List Int) (w : World) (hr : (Kd.int .u8).C w A b.length b) (hb : Bytes b) (hl : b.length <= 40000) (h0 : 0 < b.length) :
    Calls Tryz.prog 63 #[.slice A b.length cp] w (c7m b w):=by
 have HR:=Lib.hid (And.intro hr (And.intro hb (And.intro hl h0)))
 have HCan : Hid (canM (a0v b : Nat) false (a0G b) b = true):=a4m (one:=false) hb (by omega) h0
 have HZ:=Lib.hid (c7k A cp b w hr hb (by omega) h0)
 have HRok:=Lib.hid (a2Q b)
 have HFit:=Lib.hid (a4f (a4g HCan.out).1 hb)
 have HNr:=Lib.hid (c7l hb (by omega : b.length <= 1000000))
 obtain ⟨r,hr'⟩ : ∃ r,r = a0v b:=⟨_,rfl⟩
 obtain ⟨q,hq'⟩ : ∃ q,q = a0G b:=⟨_,rfl⟩
 have HQl : Hid (q.length = 256):=Lib.hid (by rw [hq']; exact a9A b)
 have HRQ:=Lib.hid (And.intro hr' hq')
 rw [<- hr',<- hq'] at HCan HFit HNr
 rw [<- hr'] at HRok
 obtain ⟨L,hL⟩ : ∃ L,L = presN b 256:=⟨_,rfl⟩
 have HL : Hid (L = presN b 256 /\ Asc L /\ L.length <= 256):=Lib.hid ⟨hL,by rw [hL]; exact c5A h0,by rw [hL]; exact a4M b 256⟩
 rw [<- hL] at HNr
 clear hr hb hl h0 hL
 go_enter Tryz.func63,Tryz.ntmps63
 go_wp2_with fail
 refine HZ.out.mono ?_
 rintro e w1 (⟨h,_⟩ | ⟨_,Av,cv,rfl,hv,hb1⟩)
 · have:=HR.out.2.2.2; omega
 rw [<- hr']
 rw [<- hq'] at hv
 have HV:=Lib.hid (Kd.R_reads' hv).2.2
 have HB1:=Lib.hid hb1
 clear hv hb1 hr' hq'
 obtain ⟨w2,hw2⟩ : ∃ w2,w2 = w1.alloc (.cells #[.int .i64 r,.bool false,.slice Av 256 cv] 26):=⟨_,rfl⟩
 have HB2 : Hid (Below w.heap.size w w2):=Lib.hid (by rw [hw2]; exact HB1.out.alloc HB1.out.size _)
 have HV2 : Hid (kq.C w2 Av q.length q):=Lib.hid (by rw [hw2]; exact Kd.C_alloc HV.out _)
 have hk2 : w2.heap[w1.heap.size]? = some (.cells #[.int .i64 r,.bool false,.slice Av 256 cv] 26 (0,0)):=by rw [hw2]; exact a0i _ _
 obtain ⟨mb,hmb⟩ : ∃ mb,mb = w1.heap.size:=⟨_,rfl⟩
 rw [<- hmb] at hk2
 have HK2:=Lib.hid hk2
 clear hk2
 have HEnc:=b4a (r : Nat) false Av cv q A cp b w2 HV2.out (by have:=HQl.out; omega) (Kd.C_below HR.out.1 HB2.out) HR.out.2.1 (by have:=HR.out.2.2.1; omega)
 rw [HQl.out] at HEnc
 have HE:=Lib.hid HEnc
 clear HEnc
 go_wp2_with fail
 rw [<- hw2,<- hmb]
 clear hw2 hmb
 refine HE.out.mono ?_
 rintro e w3 ⟨_,h2,hb3⟩
 obtain ⟨vp,rfl,hvp⟩:=h2 HCan.out
 obtain ⟨Ap,cpp,rfl⟩:=Kd.R_slice hvp
 have HB3 : Hid (Below w.heap.size w w3):=Lib.hid (HB2.out.trans (hb3.mono HB2.out.size))
 have hk3:=a0h HK2.out hb3
 have HV3 : Hid (kq.C w3 Av q.length q):=Lib.hid (Kd.C_below HV2.out hb3)
 have HP3:=Lib.hid (Kd.R_reads' hvp).2.2
 obtain ⟨Pl,hPl⟩ : ∃ Pl,Pl = packB (a0T (r : Nat) false q b ++ [true]):=⟨_,rfl⟩
 have HPl:=Lib.hid hPl
 rw [<- hPl] at HP3 ⊢
 have HPlen : Hid (Pl.length <= 700000):=Lib.hid (by
  rw [hPl,a0D,List.length_append]
  have:=HFit.out; have:=HR.out.2.2.1; simp only [List.length_singleton]; omega)
 have HK3:=Lib.hid hk3
 obtain ⟨⟨ka,kb,kc⟩,-⟩:=cell3 hk3
 have s0 : SLater w3 w3:=Below.refl _ _
 have HPres : Hid (∀ W : World,SLater w3 W -> Calls Tryz.prog 104 #[.slice A b.length cp] W λ e w'=>∃ Al cl,e = .returned (.slice Al L.length cl) /\ (Kd.int .i64).C w' Al L.length L /\ Below W.heap.size W w'):=Lib.hid λ W hW=>by
  refine (b6u A cp b W (Kd.C_below HR.out.1 (HB3.out.trans (Below.mono hW HB3.out.size))) (by have:=HR.out.2.2.1; omega) HR.out.2.1).mono ?_
  rintro e w' ⟨v,rfl,hv,hb⟩
  obtain ⟨Al,cl,rfl⟩:=Kd.R_slice hv
  rw [<- HL.out.1] at hv ⊢
  exact ⟨Al,cl,rfl,(Kd.R_reads' hv).2.2,hb⟩
 have HHead : Hid (∀ (W : World) (Al : Option Addr) (cl : Nat),SLater w3 W -> (Kd.int .i64).C W Al L.length L -> Calls Tryz.prog 103 #[.agg #[.int .i64 r,.bool false,.slice Av 256 cv],.slice Al L.length cl] W λ e w'=>∃ Ah ch,e = .returned (.slice Ah (a3K r q L).length ch) /\ (Kd.int .u8).R 5 w' w3.heap.size (λ _=>True) (.slice Ah (a3K r q L).length ch) (a3K r q L) /\ Below W.heap.size W w'):=Lib.hid λ W Al cl hW hC=>by
  refine (c6W r cv cl Av Al q L W (Kd.C_below HV3.out hW) HQl.out hC HL.out.2.1 HL.out.2.2 (by have:=HRok.out; omega) HNr.out).mono ?_
  rintro e w' ⟨v,rfl,hv,hb⟩
  obtain ⟨Ah,ch,rfl⟩:=Kd.R_slice hv
  exact ⟨Ah,ch,rfl,Kd.R_lower hv (Below.size hW),hb⟩
 have HHl : Hid ((a3K r q L).length <= 200000):=Lib.hid (by
  have h1:=a7Q (r:=r) (qs:=q) (by have:=HRok.out; omega) L HNr.out
  have h2:=HL.out.2.2
  unfold a3K
  rw [List.length_append,List.length_append,a4n,a0D,List.length_singleton]; omega)
 obtain ⟨Hd,hHd⟩ : ∃ Hd,Hd = a3K r q L:=⟨_,rfl⟩
 rw [<- hHd] at HHead HHl
 have HHd:=Lib.hid hHd
 have HLn : Hid ((Hd.length + Pl.length) * 1 <= 140737488355328):=Lib.hid (by have:=HHl.out; have:=HPlen.out; omega)
 clear h2 hb3 hvp hk3 hPl hHd
 go_wp2_with fail
 go_region_law (first
  | (go_simp; go_at_call 104; refine (HPres.out _ (by first | assumption | exact SLater.drew ‹_›)).mono ?_; rintro e w' ⟨Al,cl,rfl,hcl,hb⟩; have s1:=(by first | exact SLater.keep ‹_› hb | exact SLater.keep (SLater.drew ‹_›) hb : SLater w3 w'); obtain ⟨⟨ka,kb,kc⟩,-⟩:=cell3 (a0h HK3.out s1))
  | (go_simp; go_at_call 103; refine (HHead.out _ _ _ (by first | assumption | exact SLater.drew ‹_›) (by first | assumption | exact Kd.C_drew ‹_›)).mono ?_; rintro e w' ⟨Ah,ch,rfl,hvh,hb⟩; have s1:=(by first | exact SLater.keep ‹_› hb | exact SLater.keep (SLater.drew ‹_›) hb : SLater w3 w'); have HVH:=Lib.hid (And.intro hvh s1); clear hvh hb)
  | (refine Kd.R_append_rows_step (Kd.int .u8) (Rr:=(Kd.int .u8).K w') (w0:=w) (W:=w') w.heap.size rfl (.tmp 27) (.tmp 28) 22 5 (.int .u8 0) 1 rfl Tryz.underlying22 a0H rfl (by decide) (by decide) _ Hd Pl Ap Pl.length cpp (λ _=>True) (λ _=>False) rfl rfl (Kd.R_lower HVH.out.1 HB3.out.size) (Kd.C_below HP3.out HVH.out.2) (λ _ _ h=>h) (λ _ h=>h.elim) (λ _ _=>trivial) (HB3.out.trans (Below.mono HVH.out.2 HB3.out.size)) (Nat.le_trans HB3.out.size (Below.size HVH.out.2)) HLn.out ?_; intro v9 w9 hr9 hb9 hg9 hat9; have HA:=Lib.hid (And.intro hr9 hb9); clear hr9 hb9 hg9 hat9))
 all_goals
  go_wp2_with fail
  go_ret2
  refine ⟨v9,rfl,?_,HA.out.2⟩
  have h9:=HA.out.1
  have e : a1w b = Hd ++ Pl:=by unfold a1w; rw [HHd.out,HPl.out,HRQ.out.1,HRQ.out.2,HL.out.1]; rfl
  rw [e]; exact h9
theorem b6z (A : Option Addr) (cp : Nat) (b : List Int) (w : World) (hr : (Kd.int .u8).C w A b.length b) (hb : Bytes b) (hl : b.length <= 40000) (h0 : 0 < b.length) :
    Calls Tryz.prog 63 #[.slice A b.length cp] w (Told 0 (a1w b) w):=by
 refine (c7o A cp b w hr hb hl h0).mono ?_
 rintro e w' ⟨v,rfl,hv,hbl⟩
 obtain ⟨A1,c1,rfl⟩:=Kd.R_slice hv
 exact ⟨A1,c1,rfl,hv,hbl⟩
end Go.Proofs.YtflfjpkmjnnodaaGreat
namespace Go.Proofs.YtflfjpkmjnnodaaGreat
open Go.RowKit Go.IntWalk Go.Proofs.YtflfjpkmjnnodaaGreatW.PrintWords
attribute [local go_sem] Oper.semAt_some
def a5b : Code := (Code.region 5 #[{ dst := some 5, op := Op.assign (Operand.tmp 12), type := 3, pos := "dir.go:52", after := #[], guard := none }] false)
def a5c : Code := (Code.block 1 (((Code.region 6 #[{ dst := some 13, op := Op.load 84 (Operand.tmp 4), type := 84, pos := "dir.go:53", after := #[], guard := none }, { dst := some 14, op := Op.call { callee := Callee.builtin Builtin.len, args := #[Operand.tmp 13], argTypes := #[84] }, type := 3, pos := "dir.go:53", after := #[{ on := 0, ground := Ground.data }], guard := none }, { dst := some 15, op := Op.binOp BinOp.eql 3 (Operand.tmp 14) (Operand.const (Value.int IntKind.i64 0)) 3, type := 4, pos := "dir.go:53", after := #[{ on := 1, ground := Ground.data }], guard := none }, { dst := some 16, op := Op.move (Operand.tmp 15), type := 4, pos := "dir.go:53", after := #[{ on := 2, ground := Ground.data }], guard := none }, { dst := some 17, op := Op.move (Operand.tmp 5), type := 3, pos := "dir.go:53", after := #[{ on := 3, ground := Ground.guard }], guard := some (3, true) }, { dst := some 18, op := Op.binOp BinOp.neq 3 (Operand.tmp 17) (Operand.const (Value.int IntKind.i64 0)) 3, type := 4, pos := "dir.go:53", after := #[{ on := 4, ground := Ground.data }, { on := 3, ground := Ground.guard }], guard := some (3, true) }, { dst := some 19, op := Op.pick (Operand.tmp 16) (Operand.tmp 18) (Operand.const (Value.bool false)), type := 4, pos := "dir.go:53", after := #[{ on := 3, ground := Ground.data }, { on := 5, ground := Ground.data }], guard := none }] false).seq (Code.cond (Operand.tmp 19) ((Code.region 7 #[{ dst := none, op := Op.store 84 (Operand.tmp 2) (Operand.const (Value.slice none 0 0)), type := 0, pos := "dir.go:54", after := #[], guard := none }, { dst := none, op := Op.store 27 (Operand.tmp 3) (Operand.const (Value.int IntKind.i64 13)), type := 0, pos := "dir.go:54", after := #[{ on := 0, ground := Ground.chain }, { on := 0, ground := Ground.phase }], guard := none }] false).seq Code.ret) Code.skip)).seq (Code.region 8 #[{ dst := some 20, op := Op.load 84 (Operand.tmp 4), type := 84, pos := "dir.go:56", after := #[], guard := none }, { dst := some 21, op := Op.move (Operand.tmp 5), type := 3, pos := "dir.go:56", after := #[], guard := none }, { dst := some 22, op := Op.buildSlice 84 1 #[(0, Operand.tmp 21)], type := 84, pos := "dir.go:56", after := #[{ on := 1, ground := Ground.data }], guard := none }, { dst := some 23, op := Op.call { callee := Callee.builtin Builtin.append, args := #[Operand.tmp 20, Operand.tmp 22], argTypes := #[84, 84] }, type := 84, pos := "dir.go:56", after := #[{ on := 0, ground := Ground.data }, { on := 2, ground := Ground.data }], guard := none }, { dst := none, op := Op.store 84 (Operand.tmp 4) (Operand.tmp 23), type := 0, pos := "dir.go:56", after := #[{ on := 3, ground := Ground.data }, { on := 3, ground := Ground.chain }, { on := 0, ground := Ground.phase }, { on := 1, ground := Ground.phase }, { on := 2, ground := Ground.phase }, { on := 3, ground := Ground.phase }], guard := none }] false)))
def tkRec (fn : FuncId) (tm : Array Value) (D : Nat) (st : LoopState) (pend : Option Code) : Loop:={ state:=st,pending:=pend,fn,tmps:=tm,params:=#[12],assign:=a5b,body:=a5c,defers:=D }
structure Tk (fn : FuncId) (tm : Array Value) (ob D l B0 p : Nat) (W1 : World) (ps out : List Int) (at_ : Nat) (W : World) : Prop where
 rd : RfAt W B0 p ps at_
 v : ∃ v,W.heap[ob]? = some (.cells #[v] 84 (0,0)) /\ W.ownsRow B0 3 1 v out.length (out.map (Value.int .i64)) /\ (∀ k,v.ownBlock = some k -> p < k)
 lp : W.heap[l]? = some (.loop (tkRec fn tm D .ready none))
 on : Only (λ k=>k = ob \/ k = l \/ B0 <= k) W1 W
theorem a3O {W : World} {B : Nat} {e : TypeId} {v : Value} {n : Nat} {xs : List Value} (h : W.ownsRow B e 1 v n xs) : ∃ A c,v = .slice A n c:=by
 rcases h.2 with ⟨rfl,rfl⟩ | ⟨g,cap,cur,rfl,_⟩
 · exact ⟨_,_,rfl⟩
 · exact ⟨_,_,rfl⟩
theorem a5d {W W' : World} {B : Nat} {e : TypeId} {v : Value} {n : Nat} {xs : List Value} (h : W.ownsRow B e 1 v n xs) (hs : ∀ k,v.ownBlock = some k -> W'.heap[k]? = W.heap[k]?) : W'.ownsRow B e 1 v n xs:=by
 refine ⟨h.1,?_⟩
 rcases h.2 with h | ⟨g,cap,cur,rfl,hb,hg,rest⟩
 · exact .inl h
 · exact .inr ⟨g,cap,cur,rfl,hb,(hs g rfl).trans hg,rest⟩
theorem RfAt.only {w w' : World} {base p : Nat} {ps : List Int} {at_ : Nat} {S : Nat -> Prop} (h : RfAt w base p ps at_) (ho : Only S w w') (hp : ¬ S p) (hs : ∀ k,base <= k -> k < p -> ¬ S k) : RfAt w' base p ps at_:=by
 obtain ⟨A,c,h1,h2⟩:=h.ex
 have hb:=λ k hk=>(Kd.R_bound h2).1 k hk
 refine ⟨A,c,(ho.block p (a0f h1) hp).trans h1,Kd.R_mono (Kd.R_step (Kd.R_tight (d:=Kd.int .u8) rfl h2) (λ k hk hlt=>ho.block k hlt ?_)) (λ k hk=>(hb k hk.symm).1)⟩
 have:=hb k hk.symm
 exact hs k this.2.1 this.1
def tkTm (A : Option Addr) (n c rb eb ob : Nat) (f v6 v7 v8 v9 v10 : Value) : Array Value:=#[.slice A n c,undef,.pointer (some ⟨rb,0,none⟩),.pointer (some ⟨eb,0,none⟩),.pointer (some ⟨ob,0,none⟩),undef,v6,v7,v8,v9,v10,f,undef,undef,undef,undef,undef,undef,undef,undef,undef,undef,undef,undef,undef,undef,undef,undef]
theorem Only.putObj {S : Nat -> Prop} {a b : World} {l : Nat} (h : Only S a b) (hl : S l) (o : Obj) : Only S a (b.putObj l o):=
 h.trans ⟨rfl,rfl,rfl,by simp,λ k _ hn=>World.putObj_heap_other (λ e=>hn (e ▸ hl))⟩
theorem Only.grown {S : Nat -> Prop} {a b c : World} {row : Option Nat} (h : Only S a b) (hg : b.grownBy c row) (hs : ∀ k,row = some k -> S k) : Only S a c:=h.trans (Only.of_grown hg hs)
theorem tkEnd {fn : FuncId} {A : Option Addr} {n c rb eb ob D l B0 p : Nat} {f v6 v7 v8 v9 v10 : Value} {W1 W W2 w1 : World} {ps out : List Int} {at_ k : Nat} {lit : Obj} {Av : Option Addr} {cv g' cap' : Nat}
    (hp : B0 <= p) (hob : (Value.slice Av out.length cv).ownBlock = some ob -> False) (ho : ob < l) (hl : l < B0) (hs2 : p < W2.heap.size) (h : Tk fn (tkTm A n c rb eb ob f v6 v7 v8 v9 v10) ob D l B0 p W1 ps out at_ W)
    (hlp2 : W2.heap[l]? = some (.loop { tkRec fn (tkTm A n c rb eb ob f v6 v7 v8 v9 v10) D .ready none with state:=.busy })) (hon2 : Only (λ k=>k = ob \/ k = l \/ p < k) W W2)
    (hok : ∀ k,(Value.slice Av out.length cv).ownBlock = some k -> p < k) (hv2 : W2.heap[ob]? = some (.cells #[.slice Av out.length cv] 84 (0,0)))
    (hown' : w1.ownsRow B0 3 1 (.slice (some ⟨g',0,none⟩) (out.length + 1) cap') (out.length + 1) (out.map (Value.int .i64) ++ [.int .i64 k])) (hgrow : (W2.alloc lit).grownBy w1 (Value.slice Av out.length cv).ownBlock)
    (hat : (Value.slice (some ⟨g',0,none⟩) (out.length + 1) cap').ownBlock = (Value.slice Av out.length cv).ownBlock \/ (Value.slice (some ⟨g',0,none⟩) (out.length + 1) cap').ownBlock = some (W2.alloc lit).heap.size) :
    ∃ v w',(Instr.endRound l none).run Tryz.prog (w1.setCell ⟨ob,0,none⟩ (.slice (some ⟨g',0,none⟩) (out.length + 1) cap')) = .ok v w' /\ (Ending.returned v = .returned (.bool true) /\ Tk fn (tkTm A n c rb eb ob f v6 v7 v8 v9 v10) ob D l B0 p W1 ps (out ++ [(k : Int)]) at_ w' /\ p < w'.heap.size):=by
 have hg : p < g':=by
  rcases hat with e | e
  · exact hok g' (by rw [<- e]; rfl)
  · have : g' = (W2.alloc lit).heap.size:=by injection e
    rw [this]; simp; omega
 obtain ⟨W3,hW3⟩ : ∃ W3,W3 = w1.setCell ⟨ob,0,none⟩ (.slice (some ⟨g',0,none⟩) (out.length + 1) cap'):=⟨_,rfl⟩
 have hon1 : Only (λ k=>k = ob \/ k = l \/ p < k) W w1:=(hon2.alloc lit).grown hgrow (λ k hk=>.inr (.inr (hok k hk)))
 have hon3 : Only (λ k=>k = ob \/ k = l \/ p < k) W W3:=by rw [hW3]; exact hon1.setCell (p:=⟨ob,0,none⟩) (.inl rfl) _
 have hv1 : w1.heap[ob]? = some (.cells #[.slice Av out.length cv] 84 (0,0)):=a1e (a0o hv2 _) hgrow (λ e=>hob e.symm)
 have hv3 : W3.heap[ob]? = some (.cells #[.slice (some ⟨g',0,none⟩) (out.length + 1) cap'] 84 (0,0)):=by rw [hW3]; exact (a0x hv1 0 _).trans rfl
 have hl1 : w1.heap[l]? = some (.loop { tkRec fn (tkTm A n c rb eb ob f v6 v7 v8 v9 v10) D .ready none with state:=.busy }):=a1e (a0o hlp2 _) hgrow (λ e=>by have:=hok l e.symm; omega)
 have hl3 : W3.heap[l]? = some (.loop { tkRec fn (tkTm A n c rb eb ob f v6 v7 v8 v9 v10) D .ready none with state:=.busy }):=by rw [hW3]; exact (Below.heap_setCell _ ⟨ob,0,none⟩ _ l (by show l ≠ ob; omega)).trans hl1
 have hown3 : W3.ownsRow B0 3 1 (.slice (some ⟨g',0,none⟩) (out.length + 1) cap') (out.length + 1) (out.map (Value.int .i64) ++ [.int .i64 k]):=a5d hown' (λ j hj=>by
  have : j = g':=by injection hj with e; exact e.symm
  rw [hW3]; exact Below.heap_setCell _ ⟨ob,0,none⟩ _ j (by show j ≠ ob; omega))
 have hs3 : p < W3.heap.size:=by
  have h1:=hgrow.size
  have h2 : W3.heap.size = w1.heap.size:=by rw [hW3]; simp [World.setCell]
  simp at h1; omega
 have hsl:=a0f hl3
 rw [<- hW3]
 clear hW3
 refine ⟨_,_,run_endRound none hl3,rfl,?_,by simpa using hs3⟩
 have hon4 : Only (λ k=>k = ob \/ k = l \/ p < k) W (W3.putObj l (.loop { tkRec fn (tkTm A n c rb eb ob f v6 v7 v8 v9 v10) D .ready none with state:=if (none : Option Code).isNone then .ready else .done,pending:=none })):=hon3.putObj (.inr (.inl rfl)) _
 refine ⟨h.rd.only hon4 (λ h=>by omega) (λ k hB hk h=>by omega),⟨_,(World.putObj_heap_other (by omega)).trans hv3,?_,λ j hj=>?_⟩,World.putObj_heap_same hsl,h.on.trans2 hon4 (λ k _ h=>by omega)⟩
 · rw [List.length_append,List.map_append]
   exact a5d hown3 (λ j hj=>by
    have : j = g':=by injection hj with e; exact e.symm
    exact World.putObj_heap_other (by omega))
 · have : j = g':=by injection hj with e; exact e.symm
   omega
set_option maxRecDepth 100000 in
set_option maxHeartbeats 2000000 in
theorem c7N (m : Nat) (fn : FuncId) (A : Option Addr) (n c rb eb ob D l B0 p : Nat) (f v6 v7 v8 v9 v10 : Value) (W1 : World) (ps out : List Int) (at_ : Nat) (W : World) (h : Tk fn (tkTm A n c rb eb ob f v6 v7 v8 v9 v10) ob D l B0 p W1 ps out at_ W) (k : Nat) (hol : out.length <= 256) (hgo : ((out.length : Int) == 0) = false \/ (k = 0 /\ out = []))
    (ho : ob < l) (hl : l < B0) (hp : B0 <= p) (hW : p < W.heap.size) :
    RoundIn Fence.wide m Tryz.prog l fn #[.slice A n c,undef,.pointer (some ⟨rb,0,none⟩),.pointer (some ⟨eb,0,none⟩),.pointer (some ⟨ob,0,none⟩),undef,v6,v7,v8,v9,v10,f,.int .i64 k,undef,undef,undef,undef,undef,undef,undef,undef,undef,undef,undef,undef,undef,undef,undef] a5b a5c W
     λ e W'=>e = .returned (.bool true) /\ Tk fn (tkTm A n c rb eb ob f v6 v7 v8 v9 v10) ob D l B0 p W1 ps (out ++ [(k : Int)]) at_ W' /\ p < W'.heap.size:=by
 refine roundIn_of_wpIn trivial ?_
 have hll : l < W.heap.size:=a0f h.lp
 have hbr:=run_beginRound (P:=Tryz.prog) h.lp rfl
 have hlp2 : (W.putObj l (.loop { tkRec fn (tkTm A n c rb eb ob f v6 v7 v8 v9 v10) D .ready none with state:=.busy })).heap[l]? = some (.loop { tkRec fn (tkTm A n c rb eb ob f v6 v7 v8 v9 v10) D .ready none with state:=.busy }):=World.putObj_heap_same hll
 have hon2 : Only (λ k=>k = ob \/ k = l \/ p < k) W (W.putObj l (.loop { tkRec fn (tkTm A n c rb eb ob f v6 v7 v8 v9 v10) D .ready none with state:=.busy })):=(Only.refl _ W).putObj (.inr (.inl rfl)) _
 obtain ⟨W2,hW2⟩ : ∃ W2,W.putObj l (.loop { tkRec fn (tkTm A n c rb eb ob f v6 v7 v8 v9 v10) D .ready none with state:=.busy }) = W2:=⟨_,rfl⟩
 rw [hW2] at hbr hlp2 hon2
 obtain ⟨v,hv,hown,hok⟩:=h.v
 obtain ⟨Av,cv,rfl⟩:=a3O hown
 have hv2 : W2.heap[ob]? = some (.cells #[.slice Av out.length cv] 84 (0,0)):=by rw [<- hW2]; exact (World.putObj_heap_other (by omega)).trans hv
 have hown2 : W2.ownsRow B0 3 1 (.slice Av out.length cv) out.length (out.map (Value.int .i64)):=a5d hown (λ k hk=>by rw [<- hW2]; exact World.putObj_heap_other (by have:=hok k hk; omega))
 have hs2 : p < W2.heap.size:=by rw [<- hW2]; simpa using hW
 have hc2 : W2.cell? ⟨ob,0,none⟩ = some (.slice Av out.length cv):=(a0a hv2 0).trans rfl
 have hf2 : W2.frozen? ⟨ob,0,none⟩ = false:=a0e hv2 0
 have HT:=Lib.hid h
 have HF:=Lib.hid (And.intro hv2 (And.intro hok (And.intro hlp2 hon2)))
 obtain ⟨i0,hi,hz0,hz1,hz2⟩:=info_parts a4c
 clear hW2 h hv hown hlp2 hon2 hv2 hok
 unfold a5b
 gi_wp2
 clear hbr
 unfold a5c
 rcases hgo with hgo | ⟨hgo,hgo2⟩
 · gi_wp2_with (gi_at_builtin; refine wpListIn_append_own_at _ rfl (.tmp 20) (.tmp 22) 84 rfl B0 3 i0 (.int .i64 0) 1 8 Tryz.underlying84 hi hz0 hz1 hz2 rfl (by decide) (.slice Av out.length cv) out.length (out.map (Value.int .i64)) rfl (hown2.alloc _) ⟨W2.heap.size,0,none⟩ 1 1 [.int .i64 k] rfl rfl (cell_one_new _ _ _) (by simp [Value.oneCell']) (by unfold maxLen; omega) (by omega) (by simp; omega) ?_; intro v' w1 hown' hgrow _ hat; obtain ⟨g',cap',rfl⟩:=ownsRow_succ hown'; have HA:=Lib.hid (And.intro hown' (And.intro hgrow hat)); have hv3:=a1e (a0o HF.out.1 _) hgrow (λ e=>by have:=HF.out.2.1 _ e.symm; omega); have hc3:=(a0a hv3 0).trans rfl; have hf3:=a0e hv3 0; clear hown' hgrow hat hv3)
   exact tkEnd hp (λ e=>by have:=HF.out.2.1 _ e; omega) ho hl hs2 HT.out HF.out.2.2.1 HF.out.2.2.2 (λ k hk=>HF.out.2.1 k hk) HF.out.1 HA.out.1 HA.out.2.1 HA.out.2.2
 · subst hgo hgo2
   have hown2 : W2.ownsRow B0 3 1 (.slice Av 0 cv) 0 []:=hown2
   gi_wp2_with (gi_at_builtin; refine wpListIn_append_own_at _ rfl (.tmp 20) (.tmp 22) 84 rfl B0 3 i0 (.int .i64 0) 1 8 Tryz.underlying84 hi hz0 hz1 hz2 rfl (by decide) (.slice Av 0 cv) 0 [] rfl (hown2.alloc _) ⟨W2.heap.size,0,none⟩ 1 1 [.int .i64 0] rfl rfl (cell_one_new _ _ _) (by simp [Value.oneCell']) (by unfold maxLen; omega) (by omega) (by simp; omega) ?_; intro v' w1 hown' hgrow _ hat; obtain ⟨g',cap',rfl⟩:=ownsRow_succ hown'; have HA:=Lib.hid (And.intro hown' (And.intro hgrow hat)); have hv3:=a1e (a0o HF.out.1 _) hgrow (λ e=>by have:=HF.out.2.1 _ e.symm; omega); have hc3:=(a0a hv3 0).trans rfl; have hf3:=a0e hv3 0; clear hown' hgrow hat hv3)
   exact tkEnd hp (λ e=>by have:=HF.out.2.1 _ e; omega) ho hl hs2 HT.out HF.out.2.2.1 HF.out.2.2.2 (λ k hk=>HF.out.2.1 k hk) HF.out.1 HA.out.1 HA.out.2.1 HA.out.2.2
structure TkX (fn : FuncId) (tm : Array Value) (rb eb ob D l B0 : Nat) (W1 : World) (W : World) : Prop where
 lp : W.heap[l]? = some (.loop (tkRec fn tm D .done (some .ret)))
 r0 : W.heap[rb]? = some (.cells #[.slice none 0 0] 84 (0,0))
 r1 : W.heap[eb]? = some (.cells #[.int .i64 13] 27 (0,0))
 on : Only (λ k=>k = ob \/ k = l \/ k = rb \/ k = eb \/ B0 <= k) W1 W
set_option maxRecDepth 100000 in
set_option maxHeartbeats 2000000 in
theorem c7O (m : Nat) (fn : FuncId) (A : Option Addr) (n c rb eb ob D l B0 p : Nat) (f v6 v7 v8 v9 v10 : Value) (W1 : World) (ps : List Int) (at_ : Nat) (W : World) (h : Tk fn (tkTm A n c rb eb ob f v6 v7 v8 v9 v10) ob D l B0 p W1 ps [] at_ W) (k : Nat) (hk : k ≠ 0)
    (hr : W1.heap[rb]? = some (.cells #[.slice none 0 0] 84 (0,0))) (he : W1.heap[eb]? = some (.cells #[.int .i64 0] 27 (0,0)))
    (h1 : rb < eb) (h2 : eb < ob) (ho : ob < l) (hl : l < B0) :
    RoundIn Fence.wide m Tryz.prog l fn #[.slice A n c,undef,.pointer (some ⟨rb,0,none⟩),.pointer (some ⟨eb,0,none⟩),.pointer (some ⟨ob,0,none⟩),undef,v6,v7,v8,v9,v10,f,.int .i64 k,undef,undef,undef,undef,undef,undef,undef,undef,undef,undef,undef,undef,undef,undef,undef] a5b a5c W
     λ e W'=>e = .returned (.bool false) /\ TkX fn (tkTm A n c rb eb ob f v6 v7 v8 v9 v10) rb eb ob D l B0 W1 W':=by
 refine roundIn_of_wpIn trivial ?_
 have hll : l < W.heap.size:=a0f h.lp
 have hbr:=run_beginRound (P:=Tryz.prog) h.lp rfl
 have hlp2 : (W.putObj l (.loop { tkRec fn (tkTm A n c rb eb ob f v6 v7 v8 v9 v10) D .ready none with state:=.busy })).heap[l]? = some (.loop { tkRec fn (tkTm A n c rb eb ob f v6 v7 v8 v9 v10) D .ready none with state:=.busy }):=World.putObj_heap_same hll
 have hon2 : Only (λ k=>k = ob \/ k = l \/ k = rb \/ k = eb \/ B0 <= k) W1 (W.putObj l (.loop { tkRec fn (tkTm A n c rb eb ob f v6 v7 v8 v9 v10) D .ready none with state:=.busy })):=(h.on.mono (λ k _ hk=>by omega)).putObj (.inr (.inl rfl)) _
 have hr0 : W.heap[rb]? = some (.cells #[.slice none 0 0] 84 (0,0)):=(h.on.block rb (a0f hr) (by omega)).trans hr
 have he0 : W.heap[eb]? = some (.cells #[.int .i64 0] 27 (0,0)):=(h.on.block eb (a0f he) (by omega)).trans he
 obtain ⟨W2,hW2⟩ : ∃ W2,W.putObj l (.loop { tkRec fn (tkTm A n c rb eb ob f v6 v7 v8 v9 v10) D .ready none with state:=.busy }) = W2:=⟨_,rfl⟩
 rw [hW2] at hbr hlp2 hon2
 obtain ⟨v,hv,hown,hok⟩:=h.v
 obtain ⟨Av,cv,rfl⟩:=a3O hown
 have hv2 : W2.heap[ob]? = some (.cells #[.slice Av 0 cv] 84 (0,0)):=by rw [<- hW2]; exact (World.putObj_heap_other (by omega)).trans hv
 have hr2 : W2.heap[rb]? = some (.cells #[.slice none 0 0] 84 (0,0)):=by rw [<- hW2]; exact (World.putObj_heap_other (by omega)).trans hr0
 have he2 : W2.heap[eb]? = some (.cells #[.int .i64 0] 27 (0,0)):=by rw [<- hW2]; exact (World.putObj_heap_other (by omega)).trans he0
 have hc2 : W2.cell? ⟨ob,0,none⟩ = some (.slice Av 0 cv):=(a0a hv2 0).trans rfl
 have hcr : W2.cell? ⟨rb,0,none⟩ = some (.slice none 0 0):=(a0a hr2 0).trans rfl
 have hce : W2.cell? ⟨eb,0,none⟩ = some (.int .i64 0):=(a0a he2 0).trans rfl
 have hfr : W2.frozen? ⟨rb,0,none⟩ = false:=a0e hr2 0
 have hfe : W2.frozen? ⟨eb,0,none⟩ = false:=a0e he2 0
 have HF:=Lib.hid (And.intro hr2 (And.intro he2 (And.intro hlp2 hon2)))
 have hkz : ((k : Int) != 0) = true:=by simpa using hk
 have hre : rb ≠ eb:=by omega
 clear hW2 h hv hown hlp2 hon2 hv2 hok hr2 he2 hr0 he0 hr he
 unfold a5b
 gi_wp2
 clear hbr
 unfold a5c
 gi_wp2
 have H3 : ((W2.setCell ⟨rb,0,none⟩ (.slice none 0 0)).setCell ⟨eb,0,none⟩ (.int .i64 13)).heap[l]? = some (.loop { tkRec fn (tkTm A n c rb eb ob f v6 v7 v8 v9 v10) D .ready none with state:=.busy }):=
  (Below.heap_setCell _ ⟨eb,0,none⟩ _ l (by show l ≠ eb; omega)).trans ((Below.heap_setCell _ ⟨rb,0,none⟩ _ l (by show l ≠ rb; omega)).trans HF.out.2.2.1)
 have H4 : ((W2.setCell ⟨rb,0,none⟩ (.slice none 0 0)).setCell ⟨eb,0,none⟩ (.int .i64 13)).heap[rb]? = some (.cells #[.slice none 0 0] 84 (0,0)):=
  (Below.heap_setCell _ ⟨eb,0,none⟩ _ rb (by show rb ≠ eb; omega)).trans ((a0x HF.out.1 0 _).trans rfl)
 have H5 : ((W2.setCell ⟨rb,0,none⟩ (.slice none 0 0)).setCell ⟨eb,0,none⟩ (.int .i64 13)).heap[eb]? = some (.cells #[.int .i64 13] 27 (0,0)):=
  (a0x ((Below.heap_setCell _ ⟨rb,0,none⟩ _ eb (by show eb ≠ rb; omega)).trans HF.out.2.1) 0 _).trans rfl
 exact ⟨_,_,run_endRound (some .ret) H3,rfl,World.putObj_heap_same (a0f H3),(World.putObj_heap_other (by omega)).trans H4,(World.putObj_heap_other (by omega)).trans H5,
  ((HF.out.2.2.2.setCell (p:=⟨rb,0,none⟩) (.inr (.inr (.inl rfl))) _).setCell (p:=⟨eb,0,none⟩) (.inr (.inr (.inr (.inl rfl)))) _).putObj (.inr (.inl rfl)) _⟩
end Go.Proofs.YtflfjpkmjnnodaaGreat
namespace Go.Proofs.YtflfjpkmjnnodaaGreat
open Go.RowKit Go.IntWalk Go.Proofs.YtflfjpkmjnnodaaGreatW.PrintWords
attribute [local go_sem] Oper.semAt_some
theorem c7P (ps : List Int) (c : Nat) : takeF ps c 1 = bitI ps c:=by
 rw [a2R]
 have : takeF ps c 0 = 0:=rfl
 rw [this]; simp
theorem c7Q (ps : List Int) (c : Nat) : bitI ps c < 2:=by unfold bitI; omega
theorem b0E (ps : List Int) (k : Nat) : ∀ m,k <= m -> onesN ps k ≠ [] -> (onesN ps m).getD 0 1 = (onesN ps k).getD 0 1
 | 0,h,_=>by have : k = 0:=by omega
             rw [this]
 | m + 1,h,hne=>by
  by_cases e : k = m + 1
  · rw [e]
  · have ih:=b0E ps k m (by omega) hne
    rw [a4o]
    split
    · rw [<- ih]
      cases hm : onesN ps m with
      | nil=>
       rw [hm] at ih
       cases hk : onesN ps k with
       | nil=>exact absurd hk hne
       | cons x l=>
        exfalso
        have hx : x ∈ onesN ps k:=by rw [hk]; exact List.mem_cons_self
        obtain ⟨c,rfl,h1,h2⟩:=a7H hx
        have : (c : Int) ∈ onesN ps m:=by
         unfold onesN
         exact List.mem_map.2 ⟨c,List.mem_filter.2 ⟨List.mem_range.2 (by omega),decide_eq_true h2⟩,rfl⟩
        rw [hm] at this; cases this
      | cons x l=>rfl
    · exact ih
theorem Tk.taken {fn : FuncId} {tm : Array Value} {ob D l B0 p : Nat} {W1 W W' : World} {ps out : List Int} {at_ at' : Nat} (h : Tk fn tm ob D l B0 p W1 ps out at_ W) (hr : RfAt W' B0 p ps at') (ho : Only (λ k=>k = p) W W') (h1 : ob < B0) (h2 : l < B0) (hp : B0 <= p) : Tk fn tm ob D l B0 p W1 ps out at' W':=by
 obtain ⟨v,hv,hown,hok⟩:=h.v
 refine ⟨hr,⟨v,(ho.block ob (a0f hv) (by omega)).trans hv,a5d hown (λ k hk=>?_),hok⟩,(ho.block l (a0f h.lp) (by omega)).trans h.lp,h.on.trans2 ho (λ k _ hk=>by omega)⟩
 have:=hok k hk
 by_cases hlt : k < W.heap.size
 · exact ho.block k hlt (by omega)
 · rcases hown.2 with ⟨rfl,_⟩ | ⟨g,cap,cur,rfl,_,hg,_⟩
   · cases hk
   · have : g = k:=by injection hk
     subst this
     exact absurd (a0f hg) hlt
def b6L (fn : FuncId) (tm : Array Value) (rb eb ob D l B0 : Nat) (W1 : World) (ps : List Int) (e : Ending) (W' : World) : Prop:=
 (∃ v,e = .returned v) /\ ((∃ p at_,B0 <= p /\ Tk fn tm ob D l B0 p W1 ps (onesN ps 256) at_ W' /\ (onesN ps 256 = [] \/ (onesN ps 256).getD 0 1 = 0)) \/ (TkX fn tm rb eb ob D l B0 W1 W' /\ onesN ps 256 ≠ [] /\ (onesN ps 256).getD 0 1 ≠ 0))
set_option maxRecDepth 100000 in
set_option maxHeartbeats 2000000 in
theorem c7R (m : Nat) (fn : FuncId) (A : Option Addr) (n c rb eb ob D l pb : Nat) (f v6 v7 v8 v9 v10 : Value) (W1 : World) (ad : Addr) (cs : Nat) (ps : List Int) (hlen : ps.length = 32) (hps : Bytes ps) (hcs : 32 <= cs)
    (hpb : W1.heap[pb]? = some (.cells #[.slice (some ad) 32 cs] 22 (0,0))) (hC : (Kd.int .u8).C W1 (some ad) ps.length ps)
    (hlp : W1.heap[l]? = some (.loop (tkRec fn (tkTm A n c rb eb ob f v6 v7 v8 v9 v10) D .ready none))) (hv : W1.heap[ob]? = some (.cells #[.slice none 0 0] 84 (0,0)))
    (hr : W1.heap[rb]? = some (.cells #[.slice none 0 0] 84 (0,0))) (he : W1.heap[eb]? = some (.cells #[.int .i64 0] 27 (0,0)))
    (h1 : rb < eb) (h2 : eb < ob) (ho : ob < l) :
    CallsIn Fence.wide m Tryz.prog 156 #[.func (.yield l) #[] #[],.pointer (some ⟨pb,0,none⟩)] W1 (b6L fn (tkTm A n c rb eb ob f v6 v7 v8 v9 v10) rb eb ob D l W1.heap.size W1 ps):=by
 have hl:=a0f hlp
 have hcell : W1.cell? ⟨pb,0,none⟩ = some (.slice (some ad) 32 cs):=(a0a hpb 0).trans rfl
 have HNew:=Lib.hid (a9Y (some ad) cs ps W1 hC (by omega) (by omega) (λ h=>by cases h))
 rw [hlen] at HNew
 have H0:=Lib.hid (And.intro hlp (And.intro hv (And.intro hr (And.intro he (And.intro hlen hps)))))
 clear hC hlp hv hr he hpb hlen hps
 refine callsIn_of_wp Tryz.func156 rfl trivial ?_ rfl
 simp only [Tryz.ntmps156,List.size_toArray,List.length_cons,List.length_nil,Nat.reduceAdd,Nat.reduceSub,Array.replicate_succ,Array.replicate_zero,List.push_toArray,List.append_toArray,List.nil_append,List.cons_append]
 gi_wp2
 refine ⟨trivial,λ h=>(by cases h),(callsIn_wide.2 HNew.out).mono ?_⟩
 rintro e w2 ⟨p,rfl,hp,hrd,hb⟩
 have HT : Hid (Tk fn (tkTm A n c rb eb ob f v6 v7 v8 v9 v10) ob D l W1.heap.size p W1 ps (onesN ps 0) 0 w2):=Lib.hid
  ⟨hrd,⟨_,a0h H0.out.2.1 hb,⟨rfl,.inl ⟨rfl,rfl⟩⟩,λ k hk=>by cases hk⟩,a0h H0.out.1 hb,Only.of_below hb⟩
 have HP : Hid (W1.heap.size <= p /\ p < w2.heap.size):=by
  obtain ⟨_,_,hx,_⟩:=hrd.ex
  exact Lib.hid ⟨hp,a0f hx⟩
 clear hb hrd hp hcell
 gi_wp2
 gi_loopw [4,5,6,9] (λ _ _ _ kv wr=>∃ k : Nat,k <= 256 /\ kv = .int .i64 k /\ Hid (Tk fn (tkTm A n c rb eb ob f v6 v7 v8 v9 v10) ob D l W1.heap.size p W1 ps (onesN ps k) k wr /\ p < wr.heap.size /\ (onesN ps k = [] \/ (onesN ps k).getD 0 1 = 0))) (λ _ _ _ kv _=>256 - (intOf kv).toNat)
 case atStart=>exact ⟨0,by omega,rfl,Lib.hid ⟨HT.out,HP.out.2,.inl rfl⟩⟩
 case round=>
  obtain ⟨k,hk,rfl,H⟩:=hrel
  by_cases hlt : k < 256
  · have hI : (k : Int) < 256:=by omega
    have HTk:=a7J W1.heap.size p ps k 1 wr H.out.1.rd H0.out.2.2.2.2.2 (by have:=H0.out.2.2.2.2.1; omega) (by have:=H0.out.2.2.2.2.1; omega) (by decide)
    rw [show ((1 : Nat) : Int) = 1 from rfl] at HTk
    have HTk:=Lib.hid HTk
    gi_wp2
    refine ⟨trivial,λ h=>(by cases h),(callsIn_wide.2 HTk.out).mono ?_⟩
    rintro e w3 ⟨ht,_,hon⟩
    obtain ⟨rfl,hrd⟩:=ht (by have:=H0.out.2.2.2.2.1; omega)
    have HT3:=Lib.hid (H.out.1.taken hrd hon (by have:=a0f H0.out.2.1; omega) hl HP.out.1)
    have HS3:=Lib.hid (Nat.lt_of_lt_of_le H.out.2.1 hon.size)
    rw [c7P]
    clear hon hrd ht HTk
    have hb2:=c7Q ps k
    by_cases hbit : bitI ps k = 1
    · rw [hbit]
      have hy : (Instr.yield l #[.int .i64 k]).run Tryz.prog w3 = .ok (.round l fn #[.slice A n c,undef,.pointer (some ⟨rb,0,none⟩),.pointer (some ⟨eb,0,none⟩),.pointer (some ⟨ob,0,none⟩),undef,v6,v7,v8,v9,v10,f,.int .i64 k,undef,undef,undef,undef,undef,undef,undef,undef,undef,undef,undef,undef,undef,undef,undef] a5b a5c) w3:=by
       simpa [tkRec,tkTm] using run_yield (P:=Tryz.prog) (args:=#[.int .i64 k]) HT3.out.lp rfl
      gi_wp2
      have hol:=a7G ps k
      have hob:=a0f H0.out.2.1
      by_cases hst : onesN ps k = [] /\ k ≠ 0
      · have hT3:=HT3.out
        rw [hst.1] at hT3
        refine ⟨λ h=>(by cases h),(c7O (m - 1) fn A n c rb eb ob D l W1.heap.size p f v6 v7 v8 v9 v10 W1 ps (k + 1) w3 hT3 k hst.2 H0.out.2.2.1 H0.out.2.2.2.1 h1 h2 ho hl).mono ?_⟩
        rintro e w4 ⟨rfl,hx⟩
        have HX:=Lib.hid hx
        have HE : Hid (onesN ps 256 ≠ [] /\ (onesN ps 256).getD 0 1 ≠ 0):=by
         have e1 : onesN ps (k + 1) = [(k : Int)]:=by rw [a4o,if_pos hbit,hst.1]; rfl
         have e2:=b0E ps (k + 1) 256 (by omega) (by rw [e1]; simp)
         rw [e1] at e2
         refine Lib.hid ⟨λ e=>?_,?_⟩
         · rw [e] at e2
           have e3 : (1 : Int) = (k : Int):=e2
           have : (k : Int) ∈ onesN ps 256:=by
            unfold onesN
            exact List.mem_map.2 ⟨k,List.mem_filter.2 ⟨List.mem_range.2 hlt,decide_eq_true hbit⟩,rfl⟩
           rw [e] at this; cases this
         · rw [e2]; show ((k : Int)) ≠ 0; have:=hst.2; omega
        clear hx hst hy hT3
        gi_wp2
        go_end0
        exact ⟨⟨_,rfl⟩,.inr ⟨HX.out,HE.out⟩⟩
      · have hgo : (((onesN ps k).length : Int) == 0) = false \/ (k = 0 /\ onesN ps k = []):=by
          by_cases e : onesN ps k = []
          · exact .inr ⟨by
              by_cases e0 : k = 0
              · exact e0
              · exact absurd ⟨e,e0⟩ hst,e⟩
          · refine .inl ?_
            simp; exact e
        have HE : Hid ((onesN ps (k + 1)).getD 0 1 = 0):=by
         rcases H.out.2.2 with e | e
         · have k0 : k = 0:=by
             by_cases e0 : k = 0
             · exact e0
             · exact absurd ⟨e,e0⟩ hst
           rw [a4o,if_pos hbit,e,k0]; exact Lib.hid rfl
         · have hne : onesN ps k ≠ []:=λ h=>by rw [h] at e; exact absurd e (by decide)
           rw [b0E ps k (k + 1) (by omega) hne]; exact Lib.hid e
        refine ⟨λ h=>(by cases h),(c7N (m - 1) fn A n c rb eb ob D l W1.heap.size p f v6 v7 v8 v9 v10 W1 ps (onesN ps k) (k + 1) w3 HT3.out k (by omega) hgo ho hl HP.out.1 HS3.out).mono ?_⟩
        rintro e w4 ⟨rfl,hx,hs4⟩
        have HX : Hid (Tk fn (tkTm A n c rb eb ob f v6 v7 v8 v9 v10) ob D l W1.heap.size p W1 ps (onesN ps (k + 1)) (k + 1) w4 /\ p < w4.heap.size):=by
         rw [a4o,if_pos hbit]; exact Lib.hid ⟨hx,hs4⟩
        clear hx hs4 hst hgo hy
        gi_wp2
        go_roundw
        case rel=>exact ⟨k + 1,by omega,by go_num,Lib.hid ⟨HX.out.1,HX.out.2,.inr HE.out⟩⟩
        case measure=>simp [intOf]; omega
    · have h0 : bitI ps k = 0:=by omega
      rw [h0]
      have HN:=Lib.hid (show onesN ps (k + 1) = onesN ps k from by rw [a4o,if_neg hbit])
      clear hbit h0 hb2
      gi_wp2
      refine ⟨λ _ h=>(by cases h),?_⟩
      gi_wp2
      go_roundw
      case rel=>exact ⟨k + 1,by omega,by go_num,Lib.hid (by rw [HN.out]; exact ⟨by have:=HT3.out; exact this,HS3.out,H.out.2.2⟩)⟩
      case measure=>simp [intOf]; omega
  · obtain rfl : k = 256:=by omega
    gi_wp2
    go_end0
    exact ⟨⟨_,rfl⟩,.inl ⟨p,256,HP.out.1,H.out.1,H.out.2.2⟩⟩
end Go.Proofs.YtflfjpkmjnnodaaGreat
namespace Go.Proofs.YtflfjpkmjnnodaaGreat
open Go.RowKit Go.IntWalk Go.Proofs.YtflfjpkmjnnodaaGreatW.PrintWords
attribute [local go_sem] Oper.semAt_some
theorem b6M {fn : Func} {p q : Tmp} {t u : TypeId} (h : fn.results = #[.cell p t,.cell q u]) (tmps : Array Value) (w : World) (g k : Nat) (v x : Value)
    (hp : tmps.getD p undef = .pointer (some ⟨g,0,none⟩)) (hq : tmps.getD q undef = .pointer (some ⟨k,0,none⟩)) (hl : (loadVar t ⟨g,0,none⟩).run Tryz.prog w = .ok v w) (hm : (loadVar u ⟨k,0,none⟩).run Tryz.prog w = .ok x w) :
    (results fn tmps).run Tryz.prog w = .ok (.tuple #[v,x]) w:=by
 have hp' : tmps[p]?.getD undef = .pointer (some ⟨g,0,none⟩):=by simpa using hp
 have hq' : tmps[q]?.getD undef = .pointer (some ⟨k,0,none⟩):=by simpa using hq
 simp [results,h,hp',hq',asAddr,hl,hm]
theorem b6N {w : World} {g : Nat} {v : Value} (h : w.heap[g]? = some (.cells #[v] 84 (0,0))) : (loadVar 84 ⟨g,0,none⟩).run Tryz.prog w = .ok v w:=by
 have hc : w.cell? ⟨g,0,none⟩ = some v:=(a0a h 0).trans rfl
 simp [go_sem,hc]
theorem b6O {w : World} {g : Nat} {v : Value} (h : w.heap[g]? = some (.cells #[v] 27 (0,0))) : (loadVar 27 ⟨g,0,none⟩).run Tryz.prog w = .ok v w:=by
 have hc : w.cell? ⟨g,0,none⟩ = some v:=(a0a h 0).trans rfl
 simp [go_sem,hc]
def a2r (b : List Int) (w : World) (e : Ending) (w' : World) : Prop:=
 ∃ v,e = .returned (.tuple #[v,.int .i64 (dirT b).1]) /\ (Kd.int .i64).R 3 w' w.heap.size (λ _=>True) v (dirT b).2 /\ Below w.heap.size w w'
set_option maxRecDepth 100000 in
theorem c7S (A : Option Addr) (c : Nat) (b : List Int) (w : World) (hl : b.length < 32) :
    Calls Tryz.prog 64 #[.slice A b.length c] w (a2r b w):=by
 have hI : (b.length : Int) < 32:=by omega
 have HL:=Lib.hid hl
 clear hl
 go_enter Tryz.func64,Tryz.ntmps64
 go_wp2_with fail
 refine bodyPost_ret (b6M (fn:=Tryz.f64) (p:=2) (q:=3) (t:=84) (u:=27) rfl _ _ _ _ _ _ rfl rfl (b6N (a0o (a0i _ _) _)) (b6O (a2i _ _ _))) rfl ?_
 have e : dirT b = (3,[]):=by unfold dirT; rw [if_pos HL.out]
 unfold a2r
 rw [e]
 exact ⟨_,rfl,Kd.R_nil _ _ _ _ _,((Below.refl w.heap.size w).alloc (Nat.le_refl _) _).alloc (by simp) _⟩
set_option maxRecDepth 100000 in
theorem c7T (A : Option Addr) (n c : Nat) (w : World) :
    Calls Tryz.prog 105 #[.slice A n c] w λ e w'=>e = .returned (.func (.func 156) #[] #[.pointer (some ⟨w.heap.size,0,none⟩)]) /\ w' = w.alloc (.cells #[.slice A n c] 22):=by
 have hmf : ∀ (fn : Fn) (first cap : Array Value) (w : World),(Instr.makeFunc fn first cap).run Tryz.prog w = .ok (.func fn first cap) w:=λ _ _ _ _=>rfl
 go_enter Tryz.func105,Tryz.ntmps105
 go_wp2_with fail
 go_ret
 exact ⟨rfl,rfl⟩
theorem c7U {b : List Int} {i : Nat} (hi : i < 256) : bitI (b.take 32) i = bitI b i:=by
 have h : (b.take 32).getD (i / 8) 0 = b.getD (i / 8) 0:=by
  rw [List.getD_eq_getElem?_getD,List.getElem?_take,if_pos (by omega),List.getD_eq_getElem?_getD]
 unfold bitI
 rw [h]
theorem c7V (b : List Int) : onesN (b.take 32) 256 = onesN b 256:=by
 unfold onesN
 congr 1
 refine List.filter_congr (λ c hc=>?_)
 rw [c7U (List.mem_range.1 hc)]
theorem b6P {b : List Int} (h : 32 <= b.length) (h0 : (onesN b 256).getD 0 1 = 0) : dirT b = (0,onesN b 256):=by
 unfold dirT; rw [if_neg (by omega),if_neg (λ e=>e h0)]
theorem b0F {b : List Int} (h : 32 <= b.length) (h0 : (onesN b 256).getD 0 1 ≠ 0) : dirT b = (13,[]):=by
 unfold dirT; rw [if_neg (by omega),if_pos h0]
theorem c7W {W : World} {B B' : Nat} {e : TypeId} {v : Value} {n : Nat} {xs : List Value} (h : W.ownsRow B e 1 v n xs) (hB : B' <= B) : W.ownsRow B' e 1 v n xs:=by
 refine ⟨h.1,?_⟩
 rcases h.2 with h | ⟨g,cap,cur,rfl,hb,rest⟩
 · exact .inl h
 · exact .inr ⟨g,cap,cur,rfl,by omega,rest⟩
theorem dtEnd {w W : World} {b L : List Int} {v : Value} {x : Int} {D : Nat} {tmps : Array Value} (hD : w.heap.size + 1 < D) (hO : Only (λ k=>w.heap.size <= k) w W) (kr : W.heap[w.heap.size]? = some (.cells #[v] 84 (0,0))) (ke : W.heap[w.heap.size + 1]? = some (.cells #[.int .i64 x] 27 (0,0)))
    (kd : W.heap[D]? = some (.deferred (some []))) (hR : ∀ W' : World,(∀ k,k ≠ D -> W'.heap[k]? = W.heap[k]?) -> (Kd.int .i64).R 3 W' w.heap.size (λ _=>True) v L) (hd : dirT b = (x,L))
    (h2 : tmps.getD 2 undef = .pointer (some ⟨w.heap.size,0,none⟩)) (h3 : tmps.getD 3 undef = .pointer (some ⟨w.heap.size + 1,0,none⟩)) :
    LeavesInM Fence.wide 3 Tryz.prog Tryz.f64 tmps (a2r b w) [{ target:=.collected D,args:=#[] }] .returning W:=by
 refine ⟨by simp,.inl ⟨_,_,rfl,run_takeDeferred kd,?_⟩⟩
 refine ⟨_,b6M (fn:=Tryz.f64) (p:=2) (q:=3) (t:=84) (u:=27) rfl _ _ _ _ _ _ h2 h3 (b6N ((World.putObj_heap_other (by omega)).trans kr)) (b6O ((World.putObj_heap_other (by omega)).trans ke)),?_⟩
 unfold a2r
 rw [hd]
 exact ⟨v,rfl,hR _ (λ k hk=>World.putObj_heap_other hk),(hO.putObj (by show w.heap.size <= D; omega) _).below (Nat.le_refl _) (λ _ h=>h)⟩
theorem c7X {W W' : World} {B B' : Nat} {v : Value} {L : List Int} (h : W.ownsRow B 3 1 v L.length (L.map (Value.int .i64))) (hB : B' <= B) (hs : ∀ k,B <= k -> W'.heap[k]? = W.heap[k]?) : (Kd.int .i64).R 3 W' B' (λ _=>True) v L:=by
 refine Kd.R_of_own (h1:=λ _=>rfl) (a5d (c7W h hB) (λ k hk=>hs k ?_)) (λ _ _=>trivial)
 rcases h.2 with ⟨rfl,_⟩ | ⟨g,cap,cur,rfl,hb,_⟩
 · cases hk
 · have : g = k:=by injection hk
   omega
set_option maxRecDepth 100000 in
set_option maxHeartbeats 2000000 in
theorem c7Y (A : Option Addr) (c : Nat) (b : List Int) (w : World) (hr : (Kd.int .u8).C w A b.length b) (hb : Bytes b) (hl : b.length <= 1000000) (hc : b.length <= c) (h32 : 32 <= b.length) :
    Calls Tryz.prog 64 #[.slice A b.length c] w (a2r b w):=by
 obtain ⟨ad,hA,-⟩:=a0y hr 0 (by omega)
 subst hA
 refine (callsIn_wide (n:=3)).1 ?_
 refine callsIn_of_wp_marks Tryz.func64 rfl trivial ?_ rfl
 simp only [Tryz.ntmps64,List.size_toArray,List.length_cons,List.length_nil,Nat.reduceAdd,Nat.reduceSub,Array.replicate_succ,Array.replicate_zero,List.push_toArray,List.append_toArray,List.nil_append,List.cons_append]
 have hI : decide ((b.length : Int) < 32) = false:=decide_eq_false (by omega)
 have hI2 : (32 : Int) <= (c : Int):=by omega
 obtain ⟨W0,hW0⟩ : ∃ W0,W0 = ((w.alloc (.cells #[.slice none 0 0] 84)).alloc (.cells #[.int .i64 0] 27)).alloc (.cells #[.slice none 0 0] 84):=⟨_,rfl⟩
 have HX:=Lib.hid (And.intro hr (And.intro hb (And.intro hl (And.intro hc h32))))
 clear hr hb hl hc h32
 gi_wp2
 rw [<- hW0]
 have hs0 : W0.heap.size = w.heap.size + 1 + 1 + 1:=by rw [hW0]; simp
 have hB0 : Below w.heap.size w W0:=by rw [hW0]; exact (((Below.refl w.heap.size w).alloc (Nat.le_refl _) _).alloc (by simp) _).alloc (by simp; omega) _
 have kr0 : W0.heap[w.heap.size]? = some (.cells #[.slice none 0 0] 84 (0,0)):=by rw [hW0]; exact a0o (a0o (a0i _ _) _) _
 have ke0 : W0.heap[w.heap.size + 1]? = some (.cells #[.int .i64 0] 27 (0,0)):=by rw [hW0]; exact a0o (a2i _ _ _) _
 have ko0 : W0.heap[w.heap.size + 1 + 1]? = some (.cells #[.slice none 0 0] 84 (0,0)):=by
  have:=a0i ((w.alloc (.cells #[.slice none 0 0] 84)).alloc (.cells #[.int .i64 0] 27)) (.cells #[.slice none 0 0] 84)
  simp only [World.size_alloc] at this
  rw [hW0]; exact this
 have H0:=Lib.hid (And.intro hs0 (And.intro hB0 (And.intro kr0 (And.intro ke0 ko0))))
 clear hW0 hs0 hB0 kr0 ke0 ko0
 refine ⟨trivial,(callsIn_wide.2 (c7T (some ad) 32 c W0)).mono ?_⟩
 rintro e w1 ⟨rfl,rfl⟩
 obtain ⟨Wb,hWb⟩ : ∃ Wb,Wb = W0.alloc (.cells #[.slice (some ad) 32 c] 22):=⟨_,rfl⟩
 obtain ⟨pb,hpb⟩ : ∃ pb,pb = W0.heap.size:=⟨_,rfl⟩
 rw [<- hWb,<- hpb]
 have hsb : Wb.heap.size = w.heap.size + 1 + 1 + 1 + 1:=by rw [hWb]; simp [H0.out.1]
 have hBb : Below w.heap.size w Wb:=by rw [hWb]; exact H0.out.2.1.alloc (by have:=H0.out.1; omega) _
 have kr : Wb.heap[w.heap.size]? = some (.cells #[.slice none 0 0] 84 (0,0)):=by rw [hWb]; exact a0o H0.out.2.2.1 _
 have ke : Wb.heap[w.heap.size + 1]? = some (.cells #[.int .i64 0] 27 (0,0)):=by rw [hWb]; exact a0o H0.out.2.2.2.1 _
 have ko : Wb.heap[w.heap.size + 1 + 1]? = some (.cells #[.slice none 0 0] 84 (0,0)):=by rw [hWb]; exact a0o H0.out.2.2.2.2 _
 have kb : Wb.heap[pb]? = some (.cells #[.slice (some ad) 32 c] 22 (0,0)):=by rw [hWb,hpb]; exact a0i W0 _
 have hlb : pb < Wb.heap.size:=a0f kb
 have HWb:=Lib.hid (And.intro hsb (And.intro hBb (And.intro kr (And.intro ke (And.intro ko (And.intro kb hlb))))))
 clear hWb hpb hsb hBb kr ke ko kb hlb
 gi_wp2
 refine wpIn_rangeFunc ?_
 intro fn hfn
 obtain ⟨hsb,hBb,kr,ke,ko,kb,hlb⟩:=HWb.out
 obtain ⟨tm,htm⟩ : ∃ tm,tm = tkTm (some ad) b.length c w.heap.size (w.heap.size + 1) (w.heap.size + 1 + 1) (.func (.func 156) #[] #[.pointer (some ⟨pb,0,none⟩)]) (.slice (some ad) b.length c) (.int .i64 b.length) (.bool false) (.slice (some ad) b.length c) (.slice (some ad) 32 c):=⟨_,rfl⟩
 obtain ⟨W1,hW1⟩ : ∃ W1,(Wb.alloc (.deferred (some []))).alloc (.loop (tkRec fn tm Wb.heap.size .ready none)) = W1:=⟨_,rfl⟩
 have hs1 : W1.heap.size = Wb.heap.size + 1 + 1:=by rw [<- hW1]; simp
 have hold : ∀ k,k < Wb.heap.size -> W1.heap[k]? = Wb.heap[k]?:=λ k hk=>by
  rw [<- hW1]; exact (Below.heap_alloc _ _ k (by simp; omega)).trans (Below.heap_alloc _ _ k hk)
 have kl : W1.heap[Wb.heap.size + 1]? = some (.loop (tkRec fn tm Wb.heap.size .ready none)):=by
  rw [<- hW1]; have:=World.alloc_heap_new (Wb.alloc (.deferred (some []))) (.loop (tkRec fn tm Wb.heap.size .ready none)); rwa [World.size_alloc] at this
 have kd : W1.heap[Wb.heap.size]? = some (.deferred (some [])):=by
  rw [<- hW1]; exact (Below.heap_alloc _ _ _ (by simp)).trans (World.alloc_heap_new Wb _)
 have hB1 : Below w.heap.size w W1:=by rw [<- hW1]; exact (hBb.alloc (by omega) _).alloc (by simp; omega) _
 have hp32 : (b.take 32).length = 32:=by rw [List.length_take]; have:=HX.out.2.2.2.2; omega
 have hC1 : (Kd.int .u8).C W1 (some ad) (b.take 32).length (b.take 32):=by
  have:=b6h (Kd.C_below HX.out.1 hB1) 32 HX.out.2.2.2.2
  rw [hp32]; exact this
 have hIt:=c7R 2 fn (some ad) b.length c w.heap.size (w.heap.size + 1) (w.heap.size + 1 + 1) Wb.heap.size (Wb.heap.size + 1) pb (.func (.func 156) #[] #[.pointer (some ⟨pb,0,none⟩)]) (.slice (some ad) b.length c) (.int .i64 b.length) (.bool false) (.slice (some ad) b.length c) (.slice (some ad) 32 c) W1 ad c (b.take 32) hp32 (λ x hx=>HX.out.2.1 x (List.mem_of_mem_take hx)) (by have:=HX.out.2.2.2.1; have:=HX.out.2.2.2.2; omega)
  ((hold _ (by omega)).trans kb) hC1 (by rw [<- htm]; exact kl) ((hold _ (by omega)).trans ko) ((hold _ (by omega)).trans kr) ((hold _ (by omega)).trans ke) (by omega) (by omega) (by omega)
 rw [<- htm] at hIt
 unfold b6L at hIt
 rw [c7V] at hIt
 have HIt:=Lib.hid hIt
 have HT:=Lib.hid htm
 have HK:=Lib.hid (And.intro kd (And.intro hs1 (And.intro hsb (And.intro hB1 (And.intro ((hold _ (by omega)).trans kr) ((hold _ (by omega)).trans ke))))))
 clear hIt hC1 hp32 kr ke ko kb kl kd hBb hold hlb
 refine ⟨Wb.heap.size + 1,[{ target:=.collected Wb.heap.size,args:=#[] }],W1,{ target:=.fn (.func 156) #[.pointer (some ⟨pb,0,none⟩)],args:=#[.func (.yield (Wb.heap.size + 1)) #[] #[]] },W1,156,
  #[.func (.yield (Wb.heap.size + 1)) #[] #[],.pointer (some ⟨pb,0,none⟩)],W1,?_,?_,?_,?_,λ h=>(by cases h),?_⟩
 · rw [<- hW1,htm]; exact run_enterLoop_outer _ _ _ _ _
 · simp [resolve,go_sem]
 · intro f' hf'; exact trivial
 · simp [invoke,go_sem]
 · clear hW1 htm
   refine HIt.out.mono ?_
   rintro e W2 ⟨⟨v,rfl⟩,h⟩
   obtain ⟨kd,hs1,hsb,hB1,kr,ke⟩:=HK.out
   rcases h with ⟨p,at_,hp,hT,h0⟩ | ⟨hX,hne,h0⟩
   · obtain ⟨vo,ko,hown,hok⟩:=hT.v
     obtain ⟨Av,cv,rfl⟩:=a3O hown
     have hend:=run_endLoop (P:=Tryz.prog) hT.lp (by simp [tkRec])
     have hend2 : (Instr.endLoop (Wb.heap.size + 1)).run Tryz.prog W2 = .ok none (W2.putObj (Wb.heap.size + 1) (.loop { tkRec fn tm Wb.heap.size .ready none with state:=.exhausted })):=hend
     have hO : Only (λ k=>w.heap.size <= k) w W2:=(Only.of_below (S:=λ k=>w.heap.size <= k) hB1).trans2 hT.on (λ k hk h=>by omega)
     obtain ⟨W3,hW3⟩ : ∃ W3,W2.putObj (Wb.heap.size + 1) (.loop { tkRec fn tm Wb.heap.size .ready none with state:=.exhausted }) = W3:=⟨_,rfl⟩
     rw [hW3] at hend2
     have hO3 : Only (λ k=>w.heap.size <= k) w W3:=by rw [<- hW3]; exact hO.putObj (by show w.heap.size <= _; omega) _
     have ko3 : W3.heap[w.heap.size + 1 + 1]? = some (.cells #[.slice Av (onesN b 256).length cv] 84 (0,0)):=by rw [<- hW3]; exact (World.putObj_heap_other (by omega)).trans ko
     have kd3 : W3.heap[Wb.heap.size]? = some (.deferred (some [])):=by rw [<- hW3]; exact (World.putObj_heap_other (by omega)).trans ((hT.on.block _ (a0f kd) (by omega)).trans kd)
     have kr3 : W3.heap[w.heap.size]? = some (.cells #[.slice none 0 0] 84 (0,0)):=by rw [<- hW3]; exact (World.putObj_heap_other (by omega)).trans ((hT.on.block _ (a0f kr) (by omega)).trans kr)
     have ke3 : W3.heap[w.heap.size + 1]? = some (.cells #[.int .i64 0] 27 (0,0)):=by rw [<- hW3]; exact (World.putObj_heap_other (by omega)).trans ((hT.on.block _ (a0f ke) (by omega)).trans ke)
     have hw3 : W3.ownsRow W1.heap.size 3 1 (.slice Av (onesN b 256).length cv) (onesN b 256).length ((onesN b 256).map (Value.int .i64)):=a5d hown (λ k hk=>by have:=hok k hk; rw [<- hW3]; exact World.putObj_heap_other (by omega))
     have HW3:=Lib.hid (And.intro hO3 (And.intro ko3 (And.intro kd3 (And.intro kr3 (And.intro ke3 (And.intro hw3 (And.intro hok hp)))))))
     have co : W3.cell? ⟨w.heap.size + 1 + 1,0,none⟩ = some (.slice Av (onesN b 256).length cv):=(a0a ko3 0).trans rfl
     have cr : W3.cell? ⟨w.heap.size,0,none⟩ = some (.slice none 0 0):=(a0a kr3 0).trans rfl
     have ce : W3.cell? ⟨w.heap.size + 1,0,none⟩ = some (.int .i64 0):=(a0a ke3 0).trans rfl
     have fr : W3.frozen? ⟨w.heap.size,0,none⟩ = false:=a0e kr3 0
     have fe : W3.frozen? ⟨w.heap.size + 1,0,none⟩ = false:=a0e ke3 0
     refine ⟨none,W3,hend2,?_⟩
     have HH:=Lib.hid (And.intro hsb hs1)
     clear hW3 hend hend2 hO hown hok ko kd hs1 hsb hB1 kr ke hT ko3 kd3 kr3 ke3 hw3 hO3 hp HIt HT HK
     rcases h0 with h0 | h0
     · have HE : Hid (dirT b = (13,[])):=Lib.hid (b0F HX.out.2.2.2.2 (by rw [h0]; decide))
       rw [h0] at co
       gi_wp2
       have hO4:=(HW3.out.1.setCell (p:=⟨w.heap.size,0,none⟩) (Nat.le_refl _) (.slice none 0 0)).setCell (p:=⟨w.heap.size + 1,0,none⟩) (by show w.heap.size <= w.heap.size + 1; omega) (.int .i64 13)
       exact dtEnd (by omega) hO4
        ((Below.heap_setCell _ ⟨w.heap.size + 1,0,none⟩ _ w.heap.size (by show w.heap.size ≠ w.heap.size + 1; omega)).trans ((a0x HW3.out.2.2.2.1 0 _).trans rfl))
        ((a0x ((Below.heap_setCell _ ⟨w.heap.size,0,none⟩ _ (w.heap.size + 1) (by show w.heap.size + 1 ≠ w.heap.size; omega)).trans HW3.out.2.2.2.2.1) 0 _).trans rfl)
        ((Below.heap_setCell _ ⟨w.heap.size + 1,0,none⟩ _ _ (by show w.heap.size + 1 + 1 + 1 + 1 ≠ w.heap.size + 1; omega)).trans ((Below.heap_setCell _ ⟨w.heap.size,0,none⟩ _ _ (by show w.heap.size + 1 + 1 + 1 + 1 ≠ w.heap.size; omega)).trans (by rw [<- HH.out.1]; exact HW3.out.2.2.1)))
        (λ W' _=>Kd.R_nil _ _ _ _ _) HE.out rfl rfl
     · have HE : Hid (dirT b = (0,onesN b 256)):=Lib.hid (b6P HX.out.2.2.2.2 h0)
       have hn0 : (((onesN b 256).length : Int) == 0) = false:=by
        simp; intro e; rw [e] at h0; exact absurd h0 (by decide)
       obtain ⟨L,hL⟩ : ∃ L,L = onesN b 256:=⟨_,rfl⟩
       rw [<- hL] at co hn0 HE HW3
       clear hL h0
       gi_wp2
       have hO4:=(HW3.out.1.setCell (p:=⟨w.heap.size,0,none⟩) (Nat.le_refl _) (.slice Av L.length cv)).setCell (p:=⟨w.heap.size + 1,0,none⟩) (by show w.heap.size <= w.heap.size + 1; omega) (.int .i64 0)
       exact dtEnd (by omega) hO4
        ((Below.heap_setCell _ ⟨w.heap.size + 1,0,none⟩ _ w.heap.size (by show w.heap.size ≠ w.heap.size + 1; omega)).trans ((a0x HW3.out.2.2.2.1 0 _).trans rfl))
        ((a0x ((Below.heap_setCell _ ⟨w.heap.size,0,none⟩ _ (w.heap.size + 1) (by show w.heap.size + 1 ≠ w.heap.size; omega)).trans HW3.out.2.2.2.2.1) 0 _).trans rfl)
        ((Below.heap_setCell _ ⟨w.heap.size + 1,0,none⟩ _ _ (by show w.heap.size + 1 + 1 + 1 + 1 ≠ w.heap.size + 1; omega)).trans ((Below.heap_setCell _ ⟨w.heap.size,0,none⟩ _ _ (by show w.heap.size + 1 + 1 + 1 + 1 ≠ w.heap.size; omega)).trans (by rw [<- HH.out.1]; exact HW3.out.2.2.1)))
        (λ W' hW'=>c7X HW3.out.2.2.2.2.2.1 (by have:=HH.out.1; have:=HH.out.2; omega) (λ k hk=>by
         have h1:=HH.out.1
         have h2:=HH.out.2
         exact (hW' k (by omega)).trans ((Below.heap_setCell _ ⟨w.heap.size + 1,0,none⟩ _ k (by show k ≠ w.heap.size + 1; omega)).trans (Below.heap_setCell _ ⟨w.heap.size,0,none⟩ _ k (by show k ≠ w.heap.size; omega))))) HE.out rfl rfl
   · have hend:=run_endLoop (P:=Tryz.prog) hX.lp (by simp [tkRec])
     have hend2 : (Instr.endLoop (Wb.heap.size + 1)).run Tryz.prog W2 = .ok (some .ret) (W2.putObj (Wb.heap.size + 1) (.loop { tkRec fn tm Wb.heap.size .done (some .ret) with state:=.exhausted })):=hend
     have hO : Only (λ k=>w.heap.size <= k) w W2:=(Only.of_below (S:=λ k=>w.heap.size <= k) hB1).trans2 hX.on (λ k hk h=>by omega)
     obtain ⟨W3,hW3⟩ : ∃ W3,W2.putObj (Wb.heap.size + 1) (.loop { tkRec fn tm Wb.heap.size .done (some .ret) with state:=.exhausted }) = W3:=⟨_,rfl⟩
     rw [hW3] at hend2
     have hO3 : Only (λ k=>w.heap.size <= k) w W3:=by rw [<- hW3]; exact hO.putObj (by show w.heap.size <= _; omega) _
     have kd3 : W3.heap[w.heap.size + 1 + 1 + 1 + 1]? = some (.deferred (some [])):=by rw [<- hW3,<- hsb]; exact (World.putObj_heap_other (by omega)).trans ((hX.on.block _ (a0f kd) (by omega)).trans kd)
     have kr3 : W3.heap[w.heap.size]? = some (.cells #[.slice none 0 0] 84 (0,0)):=by rw [<- hW3]; exact (World.putObj_heap_other (by omega)).trans hX.r0
     have ke3 : W3.heap[w.heap.size + 1]? = some (.cells #[.int .i64 13] 27 (0,0)):=by rw [<- hW3]; exact (World.putObj_heap_other (by omega)).trans hX.r1
     have HE : Hid (dirT b = (13,[])):=Lib.hid (b0F HX.out.2.2.2.2 h0)
     refine ⟨some .ret,W3,hend2,?_⟩
     have HZ:=Lib.hid (And.intro hO3 (And.intro kd3 (And.intro kr3 ke3)))
     clear hW3 hend hend2 hO kd hs1 hB1 kr ke hX kd3 kr3 ke3 hO3 HIt HT HK h0 hne
     gi_wp2
     exact dtEnd (by omega) HZ.out.1 HZ.out.2.2.1 HZ.out.2.2.2 HZ.out.2.1 (λ W' _=>Kd.R_nil _ _ _ _ _) HE.out rfl rfl
theorem c7Z (A : Option Addr) (c : Nat) (b : List Int) (w : World) (hr : (Kd.int .u8).C w A b.length b) (hb : Bytes b) (hl : b.length <= 1000000) (hc : b.length <= c) :
    Calls Tryz.prog 64 #[.slice A b.length c] w (a2r b w):=by
 by_cases h : b.length < 32
 · exact c7S A c b w h
 · exact c7Y A c b w hr hb hl hc (by omega)
end Go.Proofs.YtflfjpkmjnnodaaGreat
namespace Go.Proofs.YtflfjpkmjnnodaaGreat
open Go.RowKit Go.IntWalk Go.Proofs.YtflfjpkmjnnodaaGreatW.PrintWords
structure S1 (rbx mb mc p B r n0 : Nat) (ps : List Int) (qs : List (List Int)) (at_ : Nat) (w0 W : World) : Prop where
 rd : RfAt W B p ps at_
 kb : W.heap[rbx]? = some (.cells #[.pointer (some ⟨p,0,none⟩)] 87 (0,0))
 km : W.heap[mb]? = some (.cells #[.int .i64 r,.bool false,.slice (some ⟨mc,0,none⟩) 256 256] 26 (0,0))
 row : kq.R 84 W n0 (λ k=>k ≠ p /\ k ≠ rbx /\ k ≠ mb) (.slice (some ⟨mc,0,none⟩) 256 256) qs
 on : Below n0 w0 W
def b0G (rbx mb mc p B r n0 : Nat) (ps : List Int) (qs : List (List Int)) (at_ c : Nat) (w0 W : World) (e : Ending) (w' : World) : Prop:=
 Only (λ k=>k = p \/ k = mc) W w' /\ ((hdrT ps (8 * ps.length) 257 zeros256 0 (2 ^ r) false at_).1 = 0 -> e = .returned (.int .i64 0) /\ S1 rbx mb mc p B r n0 ps (qs.set c (hdrT ps (8 * ps.length) 257 zeros256 0 (2 ^ r) false at_).2.1) (hdrT ps (8 * ps.length) 257 zeros256 0 (2 ^ r) false at_).2.2 w0 w') /\
 ((hdrT ps (8 * ps.length) 257 zeros256 0 (2 ^ r) false at_).1 ≠ 0 -> e = .returned (.int .i64 (hdrT ps (8 * ps.length) 257 zeros256 0 (2 ^ r) false at_).1) /\ Below n0 w0 w')
set_option maxRecDepth 100000 in
set_option maxHeartbeats 1000000 in
theorem c8a (rbx mb mc p B r n0 : Nat) (ps : List Int) (qs : List (List Int)) (at_ c : Nat) (w0 W : World) (h : S1 rbx mb mc p B r n0 ps qs at_ w0 W) (hps : Bytes ps) (hl : ps.length <= 1000000) (ha : at_ <= 8 * ps.length) (hr1 : 1 <= r) (hr2 : r <= 12) (hc : c < 256)
    (h1 : n0 <= mc) (h2 : mc < B) (h3 : B <= p) (h4 : p < rbx) (h5 : mb < B) (_ : n0 <= mb) (h7 : mb ≠ mc) :
    Calls Tryz.prog 67 #[.int .i64 c,.pointer (some ⟨rbx,0,none⟩),.pointer (some ⟨mb,0,none⟩)] W (b0G rbx mb mc p B r n0 ps qs at_ c w0 W):=by
 unfold b0G
 obtain ⟨_,_,hpb,_⟩:=h.rd.ex
 have hTk:=b5v B p r ps at_ W h.rd hps hl ha hr1 hr2 (a0f hpb)
 obtain ⟨H,hH⟩ : ∃ H,H = hdrT ps (8 * ps.length) 257 zeros256 0 (2 ^ r) false at_:=⟨_,rfl⟩
 rw [<- hH] at hTk ⊢
 have HTk:=Lib.hid hTk
 have HS:=Lib.hid h
 have cb : W.cell? ⟨rbx,0,none⟩ = some (.pointer (some ⟨p,0,none⟩)):=(a0a h.kb 0).trans rfl
 obtain ⟨⟨m0,m1,m2⟩,-⟩:=cell3 h.km
 have hps':=a0f hpb
 have hcI : (0 : Int) <= (c : Int) /\ (c : Int) < 256:=by omega
 obtain ⟨hc0,hc1⟩:=hcI
 have HBw:=Lib.hid (And.intro hps' (And.intro (a0f h.km) (a0f h.kb)))
 clear h hTk hpb hH hps'
 go_enter Tryz.func67,Tryz.ntmps67
 go_wp2_with fail
 refine HTk.out.mono ?_
 rintro e w1 ⟨t1,t2,t3⟩
 have km1 : w1.heap[mb]? = some (.cells #[.int .i64 r,.bool false,.slice (some ⟨mc,0,none⟩) 256 256] 26 (0,0)):=(t3.block mb HBw.out.2.1 (by omega)).trans HS.out.km
 have kb1 : w1.heap[rbx]? = some (.cells #[.pointer (some ⟨p,0,none⟩)] 87 (0,0)):=(t3.block rbx HBw.out.2.2 (by omega)).trans HS.out.kb
 have row1 : kq.R 84 w1 n0 (λ k=>(k ≠ p /\ k ≠ rbx /\ k ≠ mb) /\ k < W.heap.size) (.slice (some ⟨mc,0,none⟩) 256 256) qs:=Kd.R_mono (Kd.R_step (Kd.R_bound HS.out.row) (λ k hk hlt=>t3.block k hlt (by have:=hk.1; exact this.1))) (λ k hk=>⟨hk.1,hk.2.2.1⟩)
 have on1 : Below n0 w0 w1:=HS.out.on.trans (t3.below (by have:=HBw.out.1; omega) (λ k hk=>by omega))
 obtain ⟨⟨u,hu⟩,hfu⟩:=a9F row1 c hc
 obtain ⟨⟨d0,d1,d2⟩,-⟩:=cell3 km1
 have HO:=Lib.hid (t3.mono (S':=λ k=>k = p \/ k = mc) (λ k _ h=>.inl h))
 have HF:=Lib.hid (And.intro km1 (And.intro kb1 (And.intro row1 on1)))
 by_cases hz : H.1 = 0
 · obtain ⟨g,rfl,hq,hql,hrd⟩:=t1 hz
   have HQ:=Lib.hid (And.intro hq (And.intro hql hrd))
   clear t1 t2 t3 km1 kb1 row1 on1 hq hql hrd
   go_wp2_with fail
   go_ret
   refine ⟨HO.out.setCell (p:=⟨mc,c,none⟩) (.inr rfl) _,λ _=>⟨rfl,?_⟩,λ h=>absurd hz h⟩
   have hO : Only (λ k=>k = mc) w1 (w1.setCell ⟨mc,c,none⟩ (.slice (some ⟨g,0,none⟩) 256 256)):=(Only.refl (λ k=>k = mc) w1).setCell (p:=⟨mc,c,none⟩) rfl _
   refine ⟨HQ.out.2.2.only hO (by show ¬ p = mc; omega) (λ k hB hk h=>by have h : k = mc:=h; omega),a1r HF.out.2.1 (p:=⟨mc,c,none⟩) (by show rbx ≠ mc; omega) _,a1r HF.out.1 (p:=⟨mc,c,none⟩) h7 _,?_,HF.out.2.2.2.setCell h1 _⟩
   have hq2 : (Kd.int .i64).R 3 w1 n0 (λ k=>W.heap.size <= k) (.slice (some ⟨g,0,none⟩) 256 256) H.2.1:=Kd.R_lower (Kd.R_mono (Kd.R_bound HQ.out.1) (λ k hk=>hk.2.1)) (by have:=HBw.out.1; omega)
   exact a9D (okp:=λ k=>W.heap.size <= k) (Kd.R_mono HF.out.2.2.1 (λ k hk=>hk.1)) c hc hq2 (λ k hk=>⟨⟨by have:=HBw.out.1; omega,by have:=HBw.out.2.2; omega,by have:=HBw.out.2.1; omega⟩,by have:=((Kd.R_bound HF.out.2.2.1).1 mc rfl).1.2; omega⟩)
 · have he:=t2 hz
   subst he
   clear t1 t2 t3 km1 kb1 row1 on1
   go_wp2_with fail
   go_ret
   exact ⟨HO.out.setCell (p:=⟨mc,c,none⟩) (.inr rfl) _,λ h=>absurd h hz,λ _=>⟨rfl,HF.out.2.2.2.setCell h1 _⟩⟩
def b6Q (rbx mb mc p B r n0 : Nat) (ps : List Int) (T : Int × List (List Int) × Nat) (w0 : World) (e : Ending) (w' : World) : Prop:=
 (T.1 = 0 -> e = .returned (.int .i64 0) /\ S1 rbx mb mc p B r n0 ps T.2.1 T.2.2 w0 w') /\ (T.1 ≠ 0 -> e = .returned (.int .i64 T.1) /\ Below n0 w0 w')
theorem b6R (ps : List Int) (r : Nat) (l : List Int) {i : Nat} (hi : i < l.length) (qs : List (List Int)) (at_ : Nat) : hdrsT ps r (l.drop i) qs at_ =
    if (hdrT ps (8 * ps.length) 257 zeros256 0 (2 ^ r) false at_).1 ≠ 0 then ((hdrT ps (8 * ps.length) 257 zeros256 0 (2 ^ r) false at_).1,qs,at_) else
    hdrsT ps r (l.drop (i + 1)) (qs.set (l.getD i 0).toNat (hdrT ps (8 * ps.length) 257 zeros256 0 (2 ^ r) false at_).2.1) (hdrT ps (8 * ps.length) 257 zeros256 0 (2 ^ r) false at_).2.2:=by
 rw [List.drop_eq_getElem_cons hi,List.getD_eq_getElem?_getD,List.getElem?_eq_getElem hi]
 rfl
set_option maxRecDepth 100000 in
set_option maxHeartbeats 1000000 in
theorem c8b (Al : Option Addr) (cl : Nat) (l : List Int) (rbx mb mc p B r n0 : Nat) (ps : List Int) (qs : List (List Int)) (at_ : Nat) (w0 W : World) (h : S1 rbx mb mc p B r n0 ps qs at_ w0 W) (hl0 : (Kd.int .i64).R 3 W n0 (λ k=>k < mc /\ k < mb) (.slice Al l.length cl) l) (hlc : ∀ c ∈ l,0 <= c /\ c < 256) (hll : l.length <= 256)
    (hps : Bytes ps) (hl : ps.length <= 1000000) (ha : at_ <= 8 * ps.length) (hr1 : 1 <= r) (hr2 : r <= 12)
    (h1 : n0 <= mc) (h2 : mc < B) (h3 : B <= p) (h4 : p < rbx) (h5 : mb < B) (h6 : n0 <= mb) (h7 : mb ≠ mc) :
    Calls Tryz.prog 66 #[.slice Al l.length cl,.func (.func 67) #[] #[.pointer (some ⟨rbx,0,none⟩),.pointer (some ⟨mb,0,none⟩)]] W (b6Q rbx mb mc p B r n0 ps (hdrsT ps r l qs at_) w0):=by
 obtain ⟨T,hT⟩ : ∃ T,T = hdrsT ps r l qs at_:=⟨_,rfl⟩
 rw [<- hT]
 have hT0 : hdrsT ps r (l.drop 0) qs at_ = T:=hT.symm
 have HX:=Lib.hid (And.intro h (And.intro hl0 (And.intro hlc (And.intro hps (And.intro ha hT0)))))
 clear h hl0 hlc hps ha hT hT0
 go_enter Tryz.func66,Tryz.ntmps66
 go_wp2_with fail
 go_loopw [6,7,10] (λ _ _ kv wr=>∃ i : Nat,i <= l.length /\ kv = .int .i64 i /\ Hid (∃ qs' at',S1 rbx mb mc p B r n0 ps qs' at' w0 wr /\ at' <= 8 * ps.length /\ hdrsT ps r (l.drop i) qs' at' = T /\ (Kd.int .i64).R 3 wr n0 (λ k=>k < mc /\ k < mb) (.slice Al l.length cl) l)) (λ _ _ kv _=>l.length - (intOf kv).toNat)
 case atStart=>exact ⟨0,by omega,rfl,Lib.hid ⟨qs,at_,HX.out.1,HX.out.2.2.2.2.1,HX.out.2.2.2.2.2,HX.out.2.1⟩⟩
 case round=>
  obtain ⟨i,hi,rfl,H⟩:=hrel
  obtain ⟨qs',at',hS,hat,hTi,hlr⟩:=H.out
  by_cases hlt : i < l.length
  · obtain ⟨ad,hA,hci⟩:=a0y (Kd.R_reads' hlr).2.2 i hlt
    subst hA
    have hm:=HX.out.2.2.1 _ (a1F hlt)
    obtain ⟨c,hc⟩ : ∃ c : Nat,l.getD i 0 = (c : Int):=⟨(l.getD i 0).toNat,by omega⟩
    rw [hc] at hci hm
    have hI : (i : Int) < (l.length : Int):=by omega
    rw [b6R ps r l hlt,hc,Int.toNat_natCast] at hTi
    have hCl:=c8a rbx mb mc p B r n0 ps qs' at' c w0 wr hS HX.out.2.2.2.1 hl hat hr1 hr2 (by omega) h1 h2 h3 h4 h5 h6 h7
    have hend:=λ h=>a4T 257 zeros256 0 (2 ^ r) false at' hat (h : (hdrT ps (8 * ps.length) 257 zeros256 0 (2 ^ r) false at').1 = 0)
    unfold b0G at hCl
    obtain ⟨Hd,hHd⟩ : ∃ Hd,Hd = hdrT ps (8 * ps.length) 257 zeros256 0 (2 ^ r) false at':=⟨_,rfl⟩
    rw [<- hHd] at hCl hTi hend
    have HC:=Lib.hid (And.intro hCl (And.intro hTi (And.intro hend hlr)))
    clear hCl hTi hend hlr hS hat hHd hc hm H
    go_wp2_with fail
    refine HC.out.1.mono ?_
    rintro e w2 ⟨hon,t1,t2⟩
    by_cases hz : Hd.1 = 0
    · obtain ⟨rfl,hS2⟩:=t1 hz
      have hT2:=HC.out.2.1
      rw [if_neg (λ h=>h hz)] at hT2
      have HN : Hid (∃ qs' at',S1 rbx mb mc p B r n0 ps qs' at' w0 w2 /\ at' <= 8 * ps.length /\ hdrsT ps r (l.drop (i + 1)) qs' at' = T /\ (Kd.int .i64).R 3 w2 n0 (λ k=>k < mc /\ k < mb) (.slice (some ad) l.length cl) l):=
       Lib.hid ⟨_,_,hS2,HC.out.2.2.1 hz,hT2,Kd.R_step HC.out.2.2.2 (λ k hk hlt=>hon.block k hlt (λ h=>by rcases h with h | h <;> omega))⟩
      clear t1 t2 hS2 hon hT2
      go_wp2_with fail
      go_roundw
      case rel=>exact ⟨i + 1,by omega,by go_num,HN⟩
      case measure=>simp [intOf]; omega
    · obtain ⟨rfl,hb⟩:=t2 hz
      have hT2:=HC.out.2.1
      rw [if_pos hz] at hT2
      have HB:=Lib.hid (And.intro hb hT2)
      have hz2 : (Hd.1 != 0) = true:=by simpa using hz
      clear t1 t2 hon hb hT2
      go_wp2_with fail
      go_ret
      rw [<- HB.out.2]
      exact ⟨λ h=>absurd h hz,λ _=>⟨rfl,HB.out.1⟩⟩
  · obtain rfl : i = l.length:=by omega
    have hT3 : T = (0,qs',at'):=by rw [<- hTi,List.drop_length]; rfl
    clear hlr hTi
    go_wp2_with fail
    go_ret
    rw [hT3]
    exact ⟨λ _=>⟨rfl,hS⟩,λ h=>absurd rfl h⟩
theorem a5W (A : Option Addr) (n c k : Nat) (hk : k <= n) : ∀ W : World,(Instr.slice 22 (.slice A n c) (some (.int .i64 (k : Int))) none none).run Tryz.prog W = .ok (.slice (if c = k then A else A.map (·.add (k * 1))) (n - k) (c - k)) W:=by
 intro W
 obtain ⟨i0,hi0,hz0,hz1,hz2⟩:=info_parts a0H
 have:=a6f (P:=Tryz.prog) 22 5 .i64 Tryz.underlying22 hi0 1 hz1 A n c (k : Int) (by omega) (by omega) W
 simp only [Int.toNat_natCast] at this
 exact this
def a3M (ps : List Int) (w : World) (e : Ending) (w' : World) : Prop:=
 ((a0w ps).1 = 0 -> ∃ vm vp,e = .returned (.tuple #[.agg #[.int .i64 (a0w ps).2.1,.bool false,vm],vp,.int .i64 0]) /\ kq.R 84 w' w.heap.size (λ _=>True) vm (a0w ps).2.2.1 /\ (Kd.int .u8).R 5 w' w.heap.size (λ _=>True) vp (a0w ps).2.2.2) /\
 ((a0w ps).1 ≠ 0 -> e = .returned (.tuple #[.agg #[.int .i64 0,.bool false,.slice none 0 0],.slice none 0 0,.int .i64 (a0w ps).1])) /\ Below w.heap.size w w'
theorem a2T {ps : List Int} {k : Int} {w w' : World} (h : a0w ps = (k,0,[],[])) (hk : k ≠ 0) (hb : Below w.heap.size w w') : a3M ps w (.returned (.tuple #[.agg #[.int .i64 0,.bool false,.slice none 0 0],.slice none 0 0,.int .i64 k])) w':=by
 unfold a3M
 rw [h]
 exact ⟨λ e=>absurd e hk,λ _=>rfl,hb⟩
def SR (w5 : World) (mb rx m0 : Nat) (a b c q : Value) (W : World) : Prop:=Below w5.heap.size w5 W /\ W.cell? ⟨mb,0,none⟩ = some a /\ W.cell? ⟨mb,1,none⟩ = some b /\ W.cell? ⟨mb,2,none⟩ = some c /\ W.cell? ⟨rx,0,none⟩ = some q /\ W.cell? ⟨m0,0,none⟩ = some (.int .i64 0) /\ W.cell? ⟨m0,1,none⟩ = some (.bool false) /\ W.cell? ⟨m0,2,none⟩ = some (.slice none 0 0) /\ W.frozen? ⟨m0,0,none⟩ = false /\ W.frozen? ⟨m0,1,none⟩ = false /\ W.frozen? ⟨m0,2,none⟩ = false
theorem SR.keep {w5 W w' : World} {mb rx m0 : Nat} {a b c q : Value} (h : SR w5 mb rx m0 a b c q W) (hb : Below W.heap.size W w') : SR w5 mb rx m0 a b c q w':=by
 obtain ⟨h0,h1,h2,h3,h4,h5,h6,h7,h8,h9,h10⟩:=h
 exact ⟨a0g h0 hb,a0s hb h1,a0s hb h2,a0s hb h3,a0s hb h4,a0s hb h5,a0s hb h6,a0s hb h7,a4Y hb h5 h8,a4Y hb h6 h9,a4Y hb h7 h10⟩
theorem SR.drew {w5 W : World} {mb rx m0 : Nat} {a b c q : Value} (h : SR w5 mb rx m0 a b c q W) : SR w5 mb rx m0 a b c q W.drew:=by
 obtain ⟨h0,h1,h2,h3,h4,h5,h6,h7,h8,h9,h10⟩:=h
 exact ⟨h0.drew,h1,h2,h3,h4,h5,h6,h7,h8,h9,h10⟩
set_option maxRecDepth 100000 in
set_option maxHeartbeats 4000000 in
theorem b6S (A : Option Addr) (c : Nat) (ps : List Int) (w : World) (hr : (Kd.int .u8).C w A ps.length ps) (hps : Bytes ps) (hl : ps.length <= 1000000) (hc : ps.length <= c) :
    Calls Tryz.prog 21 #[.slice A ps.length c] w (a3M ps w):=by
 obtain ⟨W,hW⟩ : ∃ W,W = w.alloc (.cells #[.int .i64 0,.bool false,.slice none 0 0] 26):=⟨_,rfl⟩
 have hb1 : Below w.heap.size w W:=by rw [hW]; exact (Below.refl _ _).alloc (Nat.le_refl _) _
 have hk1 : W.heap[w.heap.size]? = some (.cells #[.int .i64 0,.bool false,.slice none 0 0] 26 (0,0)):=by rw [hW]; exact a0i _ _
 have HB1:=Lib.hid hb1
 have HK1:=Lib.hid hk1
 have HR:=Lib.hid (And.intro (Kd.C_below hr hb1) (And.intro hps (And.intro hl hc)))
 obtain ⟨⟨ca,cb,cc⟩,fa,fb,fc⟩:=cell3 hk1
 by_cases h0 : ps.length = 0
 · have HE:=Lib.hid (show a0w ps = (3,0,[],[]) from by unfold a0w; rw [if_pos h0])
   rw [h0]
   clear hr hps hl hc hb1 hk1 h0
   go_enter Tryz.func21,Tryz.ntmps21
   go_wp2_with fail
   refine bodyPost_ret (a1u (fn:=Tryz.f21) (p:=2) (u:=3) (v:=4) (ty:=26) rfl _ _ _ _ rfl (a1f (a0i _ _))) rfl ?_
   exact a2T HE.out (by decide) ((Below.refl _ _).alloc (Nat.le_refl _) _)
 have hne : ((ps.length : Int) == 0) = false:=by simp; intro e; subst e; simp at h0
 obtain ⟨ad,hA,hcx⟩:=a0y (Kd.C_below hr hb1) 0 (by omega)
 subst hA
 have e0 : ad.add 0 = ad:=by simp [Addr.add]
 rw [e0] at hcx
 have hx:=hps _ (a1F (by omega : 0 < ps.length))
 obtain ⟨v,hv⟩ : ∃ v : Nat,v = (ps.getD 0 0).toNat:=⟨_,rfl⟩
 have hv2 : ps.getD 0 0 = (v : Int):=by omega
 rw [hv2] at hcx hx
 have hI0 : (0 : Int) < (ps.length : Int):=by omega
 by_cases hlog : 5 <= v /\ v <= 9
 · have d1 : decide ((v : Int) < 5) = false:=decide_eq_false (by omega)
   have d2 : decide ((9 : Int) < (v : Int)) = false:=decide_eq_false (by omega)
   have hcW:=hcx
   rw [hW] at hcx
   have hsl0:=a5W (some ad) ps.length c 1 (by omega)
   obtain ⟨A1,hA1⟩ : ∃ A1,A1 = (if c = 1 then some ad else (some ad).map (·.add (1 * 1))):=⟨_,rfl⟩
   rw [<- hA1] at hsl0
   have hsl : ∀ W : World,(Instr.slice 22 (.slice (some ad) ps.length c) (some (.int .i64 1)) none none).run Tryz.prog W = .ok (.slice A1 (ps.length - 1) (c - 1)) W:=hsl0
   have hC1 : (Kd.int .u8).C W A1 (ps.drop 1).length (ps.drop 1):=by
    have:=Kd.C_drop (c:=c) (m:=1) HR.out.1 (by omega) hc
    rw [hA1]; exact this
   have hl1 : (ps.drop 1).length = ps.length - 1:=List.length_drop
   have hDT:=c7Z A1 (c - 1) (ps.drop 1) W hC1 (λ x hx=>hps x (List.mem_of_mem_drop hx)) (by omega) (by omega)
   rw [hl1] at hDT
   unfold a2r at hDT
   obtain ⟨dt,hdt⟩ : ∃ dt,dt = dirT (ps.drop 1):=⟨_,rfl⟩
   rw [<- hdt] at hDT
   have HDT:=Lib.hid hDT
   have HV:=Lib.hid (And.intro hv (And.intro hlog (And.intro hdt (And.intro h0 hcW))))
   clear hr hps hl hc hb1 hk1 h0 hv hv2 e0 hx hlog hA1 hC1 hl1 hDT hdt hcW hsl0
   go_enter Tryz.func21,Tryz.ntmps21
   go_wp2_with fail
   rw [<- hW]
   clear hW hcx
   refine HDT.out.mono ?_
   rintro e w1 ⟨vl,rfl,hvl,hb⟩
   have hk2:=a0h HK1.out hb
   have hcx1 : w1.cell? ad = some (.int .u8 v):=a0s hb HV.out.2.2.2.2
   have HB2:=Lib.hid (a0g HB1.out hb)
   have HWs:=Lib.hid (a0f HK1.out)
   have HK2:=Lib.hid hk2
   obtain ⟨⟨ca,cb,cc⟩,fa,fb,fc⟩:=cell3 hk2
   by_cases hz : dt.1 = 0
   · have hlst : dt.2.length <= 256 /\ (∀ x ∈ dt.2,0 <= x /\ x < 256) /\ 33 <= ps.length:=by
       have e:=HV.out.2.2.1
       unfold dirT at e
       split at e
       · rw [e] at hz; cases hz
       · split at e
         · rw [e] at hz; cases hz
         · rename_i h32 _
           rw [List.length_drop] at h32
           rw [e]
           refine ⟨a7G _ 256,λ x hx=>?_,by omega⟩
           obtain ⟨c,rfl,h1,_⟩:=a7H hx
           omega
     obtain ⟨Al,cl,rfl⟩:=Kd.R_slice hvl
     have HL:=Lib.hid (And.intro hvl (And.intro hlst hb))
     have hmk : ∀ w : World,(Instr.makeSlice 24 (.int .i64 256) (.int .i64 256)).run Tryz.prog w = .ok (.slice (some ⟨w.heap.size,0,none⟩) 256 256) (w.alloc (.cells (madeCells #[.slice none 0 0] 256) 84)):=λ w=>a9B 256 (by omega) w
     have hwr : IntKind.i64.wrap (v : Int) = (v : Int):=i64_in _ (by have:=HV.out.2.1; omega)
     have hca1 : ∀ o : Obj,(w1.alloc o).cell? ad = some (.int .u8 v):=λ o=>a0s ((Below.refl _ _).alloc (Nat.le_refl _) o) hcx1
     have hca2 : ∀ o o' : Obj,((w1.alloc o).alloc o').cell? ad = some (.int .u8 v):=λ o o'=>a0s (((Below.refl w1.heap.size w1).alloc (Nat.le_refl _) o).alloc (by simp) o') hcx1
     clear hvl hlst hb hk2
     rw [hz]
     go_wp2_with fail
     go_cut [7] (λ s7 wx=>a9E v w1 s7 wx)
     case first=>
      go_region
      all_goals
       go_wp2_with fail
       go_meet
       refine' b5e _ ?_ ?_ ?_ ?_ ?_ ?_
       rotate_left 1
       · repeat' (with_reducible (first | exact a0i _ _ | exact a2i _ _ _ | refine a9C ?_ | refine a0o ?_ _))
       · repeat' (with_reducible (first | refine a5G _ _ _ ?_ ?_ | refine b5a _ _ _ _ ?_ ?_ | refine Kd.R_drew ?_ | refine Kd.R_alloc ?_ _))
         all_goals omega
       · exact (((Below.refl w1.heap.size w1).alloc (Nat.le_refl _) _).alloc (by simp) _).drew
       all_goals omega
     case rest=>
      obtain ⟨mb,g,rfl,hmb,hg,hne7,hblk,hrow,hbl⟩:=hcut
      have h33:=HL.out.2.1.2.2
      have hsl0:=a5W (some ad) ps.length c 33 h33
      obtain ⟨A3,hA3⟩ : ∃ A3,A3 = (if c = 33 then some ad else (some ad).map (·.add (33 * 1))):=⟨_,rfl⟩
      rw [<- hA3] at hsl0
      have hsl3 : ∀ W : World,(Instr.slice 22 (.slice (some ad) ps.length c) (some (.int .i64 33)) none none).run Tryz.prog W = .ok (.slice A3 (ps.length - 33) (c - 33)) W:=hsl0
      have hBc : Below W.heap.size W wc:=a0g HL.out.2.2 hbl
      have hC3 : (Kd.int .u8).C wc A3 (ps.drop 33).length (ps.drop 33):=by
       have:=Kd.C_drop (c:=c) (m:=33) (Kd.C_below HR.out.1 hBc) h33 HR.out.2.2.2
       rw [hA3]; exact this
      obtain ⟨ps3,hps3⟩ : ∃ ps3,ps3 = ps.drop 33:=⟨_,rfl⟩
      have hl3 : ps3.length = ps.length - 33:=by rw [hps3]; exact List.length_drop
      have hb3 : Bytes ps3:=by rw [hps3]; exact λ x hx=>HR.out.2.1 x (List.mem_of_mem_drop hx)
      rw [<- hps3] at hC3
      have hnw:=a9Y A3 (c - 33) ps3 wc hC3 (by have:=HR.out.2.2.1; omega) (by have:=HR.out.2.2.2; omega) (λ h=>by
       rw [hA3] at h; split at h <;> cases h)
      rw [hl3] at hnw
      have HNw:=Lib.hid hnw
      have HM:=Lib.hid (And.intro hmb (And.intro hg (And.intro hne7 (And.intro hblk (And.intro hrow hbl)))))
      have HP3:=Lib.hid (And.intro hps3 (And.intro hl3 (And.intro hb3 hBc)))
      clear hmb hg hne7 hblk hrow hbl h33 hsl0 hA3 hBc hC3 hps3 hl3 hb3 hnw
      have hmf : ∀ (fn : Fn) (first cap : Array Value) (w : World),(Instr.makeFunc fn first cap).run Tryz.prog w = .ok (.func fn first cap) w:=λ _ _ _ _=>rfl
      go_wp2_with fail
      refine HNw.out.mono ?_
      rintro e w2 ⟨p,rfl,hp,hrd,hb⟩
      obtain ⟨w3,hw3⟩ : ∃ w3,w3 = w2.alloc (.cells #[.pointer (some ⟨p,0,none⟩)] 87):=⟨_,rfl⟩
      obtain ⟨rx,hrx⟩ : ∃ rx,rx = w2.heap.size:=⟨_,rfl⟩
      have hb23 : Below w2.heap.size w2 w3:=by rw [hw3]; exact (Below.refl _ _).alloc (Nat.le_refl _) _
      have hkx : w3.heap[rx]? = some (.cells #[.pointer (some ⟨p,0,none⟩)] 87 (0,0)):=by rw [hw3,hrx]; exact a0i _ _
      obtain ⟨_,_,hpb,_⟩:=hrd.ex
      have hprx : p < rx:=by rw [hrx]; exact a0f hpb
      have hbc3 : Below wc.heap.size wc w3:=a0g hb hb23
      have hmbl:=a0f HM.out.2.2.2.1
      have hgl:=((Kd.R_bound HM.out.2.2.2.2.1).1 g rfl).2.2.1
      have h1s:=HB2.out.size
      have h2s:=HL.out.2.2.size
      have hS1 : S1 rx mb g p wc.heap.size v W.heap.size ps3 (List.replicate 256 []) 0 W w3:=by
       refine ⟨hrd.below hb23,hkx,a0h HM.out.2.2.2.1 hbc3,?_,a0g (a0g HL.out.2.2 HM.out.2.2.2.2.2) hbc3⟩
       exact Kd.R_below (Kd.R_lower (Kd.R_mono (Kd.R_bound HM.out.2.2.2.2.1) (λ k hk=>⟨by have:=hk.2.2.1; omega,by have:=hk.2.2.1; omega,hk.1⟩)) h2s) hbc3
      have hL1 : (Kd.int .i64).R 3 w3 W.heap.size (λ k=>k < g /\ k < mb) (.slice Al dt.2.length cl) dt.2:=by
       have hx:=HL.out.1
       have h3:=HM.out.1
       have h4:=HM.out.2.1
       exact Kd.R_below (Kd.R_below (Kd.R_mono (Kd.R_bound hx) (λ k hk=>⟨by have:=hk.2.2.1; omega,by have:=hk.2.2.1; omega⟩)) HM.out.2.2.2.2.2) hbc3
      have hEa:=c8b Al cl dt.2 rx mb g p wc.heap.size v W.heap.size ps3 (List.replicate 256 []) 0 W w3 hS1 hL1 HL.out.2.1.2.1 HL.out.2.1.1 HP3.out.2.2.1 (by have:=HP3.out.2.1; have:=HR.out.2.2.1; omega) (Nat.zero_le _) (by have:=HV.out.2.1; omega) (by have:=HV.out.2.1; omega) (by have:=HM.out.2.1; omega) hgl hp hprx hmbl (by have:=HM.out.1; omega) HM.out.2.2.1
      unfold b6Q at hEa
      have hHe : (hdrsT ps3 v dt.2 (List.replicate 256 []) 0).1 = 0 -> (hdrsT ps3 v dt.2 (List.replicate 256 []) 0).2.2 <= 8 * ps3.length:=b6k _ _ _ _ _ (Nat.zero_le _)
      obtain ⟨T,hT⟩ : ∃ T,T = hdrsT ps3 v dt.2 (List.replicate 256 []) 0:=⟨_,rfl⟩
      rw [<- hT] at hEa hHe
      have HEa:=Lib.hid (And.intro hEa (And.intro hHe (And.intro hT hbc3)))
      have HPx:=Lib.hid (And.intro hp (And.intro hprx (And.intro hmbl hgl)))
      clear hS1 hL1 hEa hHe hT hrd hb hb23 hkx hpb hbc3 hmbl hgl h1s h2s hp hprx
      go_wp2_with fail
      rw [<- hw3,<- hrx]
      clear hw3 hrx
      have HSM:=Lib.hid (show a0w ps = if T.1 ≠ 0 then (T.1,0,[],[]) else if T.2.2 % 8 ≠ 0 /\ (ps3.getD (T.2.2 / 8) 0).toNat / 2 ^ (T.2.2 % 8) ≠ 0 then (4,0,[],[]) else (0,v,T.2.1,ps3.drop ((T.2.2 + 7) / 8)) from by
       have hlg:=HV.out.2.1
       unfold a0w
       rw [if_neg HV.out.2.2.2.1,<- HV.out.1,if_neg (by omega),<- HV.out.2.2.1,if_neg (λ h=>h hz),<- HP3.out.1]
       have e : a2j = List.replicate 256 []:=rfl
       rw [e,<- HEa.out.2.2.1])
      refine HEa.out.1.mono ?_
      rintro e w4 ⟨t1,t2⟩
      by_cases hT0 : T.1 = 0
      · obtain ⟨rfl,hS4⟩:=t1 hT0
        have HS4:=Lib.hid hS4
        have hkx4:=hS4.kb
        have hcx4 : w4.cell? ⟨rx,0,none⟩ = some (.pointer (some ⟨p,0,none⟩)):=(a0a hkx4 0).trans rfl
        have HPd:=Lib.hid (b5w wc.heap.size p ps3 T.2.2 w4 hS4.rd HP3.out.2.2.1 (by have:=HP3.out.2.1; have:=HR.out.2.2.1; omega) (HEa.out.2.1 hT0))
        clear t1 t2 hS4 hkx4
        go_wp2_with fail
        refine HPd.out.mono ?_
        rintro e w5 ⟨rfl,p2,p3⟩
        have hO5:=Lib.hid p3
        have hk5 : w5.heap[w.heap.size]? = some (.cells #[.int .i64 0,.bool false,.slice none 0 0] 26 (0,0)):=by
         rw [p3.block _ (by have:=HS4.out.on.size; have:=HWs.out; omega) (by have:=HPx.out.1; have:=HP3.out.2.2.2.size; have:=HWs.out; omega)]
         exact (HS4.out.on.block _ HWs.out).trans HK1.out
        have HK5:=Lib.hid hk5
        have HB5 : Hid (Below w.heap.size w w5):=Lib.hid ((HB1.out.trans (HS4.out.on.mono HB1.out.size)).trans (p3.below (by have:=HB1.out.size; have:=HS4.out.on.size; omega) (λ k hk=>by have:=HPx.out.1; have:=HP3.out.2.2.2.size; have:=HB1.out.size; omega)))
        have hcx5 : w5.cell? ⟨rx,0,none⟩ = some (.pointer (some ⟨p,0,none⟩)):=(a0a ((p3.block rx (a0f HS4.out.kb) (by have:=HPx.out.2.1; omega)).trans HS4.out.kb) 0).trans rfl
        obtain ⟨⟨ca,cb,cc⟩,fa,fb,fc⟩:=cell3 hk5
        cases hpd : padOk ps3 T.2.2 with
        | false=>
         have HE : Hid (a0w ps = (4,0,[],[])):=by
          have:=HSM.out
          rw [if_neg (λ h=>h hT0)] at this
          unfold padOk at hpd
          rw [if_pos (by have h:=of_decide_eq_false hpd; exact Classical.not_not.1 h)] at this; exact Lib.hid this
         clear p2 p3 hk5 hpd hT0
         go_wp2_with fail
         refine bodyPost_ret (a1u (fn:=Tryz.f21) (p:=2) (u:=3) (v:=4) (ty:=26) rfl _ _ _ _ rfl (a1f (a1t HK5.out _ _ _))) rfl ?_
         exact a2T HE.out (by decide) (((HB5.out.setCell (Nat.le_refl _) _).setCell (Nat.le_refl _) _).setCell (Nat.le_refl _) _)
        | true=>
         have HE : Hid (a0w ps = (0,v,T.2.1,ps3.drop ((T.2.2 + 7) / 8))):=by
          have:=HSM.out
          rw [if_neg (λ h=>h hT0)] at this
          unfold padOk at hpd
          rw [if_neg (of_decide_eq_true hpd)] at this; exact Lib.hid this
         have km5 : w5.heap[mb]? = some (.cells #[.int .i64 v,.bool false,.slice (some ⟨g,0,none⟩) 256 256] 26 (0,0)):=(p3.block mb (a0f HS4.out.km) (by have:=HPx.out.2.2.1; have:=HPx.out.1; omega)).trans HS4.out.km
         obtain ⟨⟨b0,b1,b2⟩,-⟩:=cell3 km5
         have hle5 : 8 * ((T.2.2 + 7) / 8) <= 8 * ps3.length:=by have:=HEa.out.2.1 hT0; omega
         have hl35 : ps3.length <= 1000000:=by have:=HP3.out.2.1; have:=HR.out.2.2.1; omega
         have HRs : Hid (∀ W' : World,Below w5.heap.size w5 W' -> Calls Tryz.prog 70 #[.pointer (some ⟨p,0,none⟩)] W' (b5x ps3 (8 * ((T.2.2 + 7) / 8)) W')):=Lib.hid λ W' hW'=>b5y wc.heap.size p ps3 _ W' ((p2 hpd).below hW') hl35 hle5
         have s0 : SR w5 mb rx w.heap.size (.int .i64 v) (.bool false) (.slice (some ⟨g,0,none⟩) 256 256) (.pointer (some ⟨p,0,none⟩)) w5:=⟨Below.refl _ _,b0,b1,b2,hcx5,ca,cb,cc,fa,fb,fc⟩
         clear p2 p3 hk5 hpd km5 hle5 hl35
         go_wp2_with fail
         go_region_law (go_simp; go_at_call 70; refine (HRs.out _ (by first | exact And.left ‹SR _ _ _ _ _ _ _ _ _› | exact (SR.drew ‹SR _ _ _ _ _ _ _ _ _›).1)).mono ?_; rintro e w6 ⟨vp,rfl,hvp,hb⟩; have s1:=(by first | exact SR.keep ‹_› hb | exact SR.keep (SR.drew ‹_›) hb : SR w5 mb rx w.heap.size (.int .i64 v) (.bool false) (.slice (some ⟨g,0,none⟩) 256 256) (.pointer (some ⟨p,0,none⟩)) w6); obtain ⟨g0,g1,g2,g3,g4,g5,g6,g7,g8,g9,g10⟩:=id s1)
         all_goals
          have HV6:=Lib.hid (And.intro hvp s1)
          clear hvp hb
          go_wp2_with fail
          refine bodyPost_ret (a1u (fn:=Tryz.f21) (p:=2) (u:=3) (v:=4) (ty:=26) rfl _ _ _ _ rfl (a1f (a1t (a0h HK5.out HV6.out.2.1) _ _ _))) rfl ?_
          have hlt5 : w.heap.size < w5.heap.size:=a0f HK5.out
          have hB6 : Below w.heap.size w w6:=a0g HB5.out HV6.out.2.1
          refine ⟨(λ _=>?_),(λ h=>by rw [HE.out] at h; exact absurd rfl h),((hB6.setCell (Nat.le_refl _) _).setCell (Nat.le_refl _) _).setCell (Nat.le_refl _) _⟩
          rw [HE.out]
          have e8 : (8 * ((T.2.2 + 7) / 8) + 7) / 8 = (T.2.2 + 7) / 8:=by omega
          have hp6:=HV6.out.1
          rw [e8] at hp6
          have hWlt:=HWs.out
          refine ⟨_,_,rfl,?_,?_⟩
          · have h4 : kq.R 84 w5 W.heap.size (λ k=>W.heap.size <= k) (.slice (some ⟨g,0,none⟩) 256 256) T.2.1:=Kd.R_mono (Kd.R_bound (Kd.R_step HS4.out.row (λ k hk hlt=>hO5.out.block k hlt hk.1))) (λ k hk=>hk.2.1)
            have h5 : kq.R 84 w6 w.heap.size (λ k=>k ≠ w.heap.size) (.slice (some ⟨g,0,none⟩) 256 256) T.2.1:=Kd.R_mono (Kd.R_lower (Kd.R_below h4 HV6.out.2.1) (Nat.le_of_lt hWlt)) (λ k hk=>by omega)
            exact Kd.R_mono (a2c h5 _ _ _) (λ _ _=>trivial)
          · have h4 : (Kd.int .u8).R 5 w6 w.heap.size (λ k=>k ≠ w.heap.size) vp (ps3.drop ((T.2.2 + 7) / 8)):=Kd.R_mono (Kd.R_lower (Kd.R_bound hp6) (Nat.le_of_lt hlt5)) (λ k hk=>Nat.ne_of_gt (Nat.lt_of_lt_of_le hlt5 hk.2.1))
            exact Kd.R_mono (a2c h4 _ _ _) (λ _ _=>trivial)
      · obtain ⟨rfl,hb4⟩:=t2 hT0
        have HE : Hid (a0w ps = (T.1,0,[],[])):=by have:=HSM.out; rw [if_pos hT0] at this; exact Lib.hid this
        have HB4:=Lib.hid (HB1.out.trans (hb4.mono HB1.out.size))
        have hk4 : w4.heap[w.heap.size]? = some (.cells #[.int .i64 0,.bool false,.slice none 0 0] 26 (0,0)):=(hb4.block _ HWs.out).trans HK1.out
        have HK4:=Lib.hid hk4
        obtain ⟨⟨ca,cb,cc⟩,fa,fb,fc⟩:=cell3 hk4
        have hT2 : (T.1 != 0) = true:=by simpa using hT0
        clear t1 t2 hb4 hk4
        go_wp2_with fail
        refine bodyPost_ret (a1u (fn:=Tryz.f21) (p:=2) (u:=3) (v:=4) (ty:=26) rfl _ _ _ _ rfl (a1f (a1t HK4.out _ _ _))) rfl ?_
        exact a2T HE.out hT0 (((HB4.out.setCell (Nat.le_refl _) _).setCell (Nat.le_refl _) _).setCell (Nat.le_refl _) _)
   · have HE:=Lib.hid (show a0w ps = (dt.1,0,[],[]) from by
       have hlg:=HV.out.2.1
       unfold a0w
       rw [if_neg HV.out.2.2.2.1,<- HV.out.1,if_neg (by omega),<- HV.out.2.2.1,if_pos hz])
     have hz2 : (dt.1 != 0) = true:=by simpa using hz
     obtain ⟨Al,cl,rfl⟩:=Kd.R_slice hvl
     clear hvl hb hk2
     go_wp2_with fail
     refine bodyPost_ret (a1u (fn:=Tryz.f21) (p:=2) (u:=3) (v:=4) (ty:=26) rfl _ _ _ _ rfl (a1f (a1t HK2.out _ _ _))) rfl ?_
     exact a2T HE.out hz (((HB2.out.setCell (Nat.le_refl _) _).setCell (Nat.le_refl _) _).setCell (Nat.le_refl _) _)
 · have HE:=Lib.hid (show a0w ps = (13,0,[],[]) from by unfold a0w; rw [if_neg h0,<- hv,if_pos (by omega)])
   have hd : (decide ((v : Int) < 5) = true) \/ (decide ((v : Int) < 5) = false /\ decide ((9 : Int) < (v : Int)) = true):=by
    by_cases h5 : v < 5
    · exact .inl (decide_eq_true (by omega))
    · exact .inr ⟨decide_eq_false (by omega),decide_eq_true (by omega)⟩
   rw [hW] at hcx
   clear hr hps hl hc hb1 hk1 h0 hv hv2 e0 hx hlog ca cb cc fa fb fc HB1 HK1 HR hW
   rcases hd with hd | ⟨hd,hd2⟩
   all_goals
    go_enter Tryz.func21,Tryz.ntmps21
    go_wp2_with fail
    refine bodyPost_ret (a1u (fn:=Tryz.f21) (p:=2) (u:=3) (v:=4) (ty:=26) rfl _ _ _ _ rfl (a1f (a0i _ _))) rfl ?_
    exact a2T HE.out (by decide) ((Below.refl _ _).alloc (Nat.le_refl _) _)
theorem Told.nil (k : Int) {w w' : World} (hb : Below w.heap.size w w') : Told k [] w (.returned (.tuple #[.slice none 0 0,.int .i64 k])) w':=⟨none,0,rfl,Kd.R_nil _ _ _ _ _,hb⟩
def b0Q (r : Nat) (qs : List (List Int)) (p : List Int) (w : World) (e : Ending) (w' : World) : Prop:=
 ∃ Am cm Ap cp,e = .returned (.tuple #[.agg #[.int .i64 r,.bool false,.slice Am qs.length cm],.slice Ap p.length cp,.int .i64 0]) /\ kq.R 84 w' w.heap.size (λ _=>True) (.slice Am qs.length cm) qs /\ (Kd.int .u8).R 5 w' w.heap.size (λ _=>True) (.slice Ap p.length cp) p /\ Below w.heap.size w w'
theorem b7j (A : Option Addr) (c : Nat) (ps : List Int) {r : Nat} {qs : List (List Int)} {p : List Int} (w : World) (hr : (Kd.int .u8).C w A ps.length ps) (hps : Bytes ps) (hl : ps.length <= 1000000) (hc : ps.length <= c) (h : a0w ps = (0,r,qs,p)) :
    Calls Tryz.prog 21 #[.slice A ps.length c] w (b0Q r qs p w):=by
 refine (b6S A c ps w hr hps hl hc).mono ?_
 intro e w' hp
 unfold a3M at hp
 rw [h] at hp
 obtain ⟨vm,vp,rfl,hm,hv⟩:=hp.1 rfl
 obtain ⟨Am,cm,rfl⟩:=Kd.R_slice hm
 obtain ⟨Ap,cp,rfl⟩:=Kd.R_slice hv
 exact ⟨Am,cm,Ap,cp,rfl,hm,hv,hp.2.2⟩
theorem b7k (A : Option Addr) (c : Nat) (ps : List Int) {k : Int} (w : World) (hr : (Kd.int .u8).C w A ps.length ps) (hps : Bytes ps) (hl : ps.length <= 1000000) (hc : ps.length <= c) (h : (a0w ps).1 = k) (hk : k ≠ 0) :
    Calls Tryz.prog 21 #[.slice A ps.length c] w (λ e w'=>e = .returned (.tuple #[.agg #[.int .i64 0,.bool false,.slice none 0 0],.slice none 0 0,.int .i64 k]) /\ Below w.heap.size w w'):=by
 refine (b6S A c ps w hr hps hl hc).mono ?_
 intro e w' hp
 unfold a3M at hp
 rw [h] at hp
 exact ⟨hp.2.1 hk,hp.2.2⟩
set_option maxRecDepth 100000 in
set_option maxHeartbeats 1000000 in
theorem b0R (A : Option Addr) (c : Nat) (ps : List Int) (n : Int) (w : World) (hr : (Kd.int .u8).C w A ps.length ps) (hps : Bytes ps) (hl : ps.length <= 1000000) (hc : ps.length <= c) :
    Calls Tryz.prog 23 #[.slice A ps.length c,.int .i64 n] w (ReadPost (dec1M ps n) w):=by
 obtain ⟨k,r,q,p,hS⟩ : ∃ k r q p,a0w ps = (k,r,q,p):=⟨_,_,_,_,rfl⟩
 have hpb:=a5P hps
 have hpl:=(a5Q ps).1
 have hql:=(a5Q ps).2
 rw [hS] at hpb hpl hql
 by_cases hk : k = 0
 · subst hk
   have HD : Hid (dec1M ps n = decM (r : Nat) false q p n):=by show _ = _; unfold dec1M; rw [hS,if_neg (λ h=>h rfl)]
   have HS:=Lib.hid (b7j A c ps w hr hps hl hc hS)
   have HP:=Lib.hid (And.intro hpb (And.intro (Nat.le_trans hpl hl) (show q.length <= 256 from hql)))
   rw [HD.out]
   clear hr hps hl hc hS hpb hpl hql
   go_enter Tryz.func23,Tryz.ntmps23
   go_wp2_with fail
   refine HS.out.mono ?_
   rintro e w1 ⟨Am,cm,Ap,cp,rfl,hm,hv,hb1⟩
   obtain ⟨w2,hw2⟩ : ∃ w2,w2 = w1.alloc (.cells #[.int .i64 r,.bool false,.slice Am q.length cm] 26):=⟨_,rfl⟩
   have hb2 : Below w1.heap.size w1 w2:=by rw [hw2]; exact (Below.refl _ _).alloc (Nat.le_refl _) _
   have HB2:=Lib.hid (hb1.trans (hb2.mono hb1.size))
   have HM:=Lib.hid (Kd.C_below (Kd.R_reads' hm).2.2 hb2)
   have HV:=Lib.hid (Kd.C_below (Kd.R_reads' hv).2.2 hb2)
   clear hm hv hb1 hb2
   go_wp2_with fail
   rw [<- hw2]
   clear hw2
   refine (b3Y r false Am cm q Ap cp p n w2 HM.out (by have:=HP.out.2.2; omega) HV.out HP.out.1 HP.out.2.1).mono ?_
   rintro e w3 ⟨⟨v,rfl,hv⟩,hb3⟩
   have H3:=Lib.hid (And.intro hv hb3)
   clear hv hb3
   go_wp2_with fail
   go_ret2
   exact ⟨⟨v,rfl,Kd.R_lower H3.out.1 HB2.out.size⟩,HB2.out.trans (H3.out.2.mono HB2.out.size)⟩
 · have HD : Hid (dec1M ps n = (k,[])):=by show _ = _; unfold dec1M; rw [hS,if_pos hk]
   have HS:=Lib.hid (b7k A c ps w hr hps hl hc (by rw [hS]) hk)
   have hkb : (k == 0) = false:=beq_eq_false_iff_ne.2 hk
   have hkn : (k != 0) = true:=by simp [hk]
   rw [HD.out]
   clear hr hps hl hc hS hpb hpl hql
   go_enter Tryz.func23,Tryz.ntmps23
   go_wp2_with fail
   refine HS.out.mono ?_
   rintro e w1 ⟨rfl,hb1⟩
   have HB1:=Lib.hid hb1
   clear hb1
   go_wp2_with fail
   go_ret2
   exact ⟨⟨_,rfl,Kd.R_nil _ _ _ _ _⟩,HB1.out.alloc HB1.out.size _⟩
open Go.Proofs.YtflfjpkmjnnodaaGreat.PRef
theorem b7n (A : Option Addr) (cp n : Nat) (l : List Bool) (w : World) (hr : Kd.bool.C w A n l) (hn : l.length = n) (hc : l.length <= cp) (hl : l.length <= 1000000) : Calls Tryz.prog 114 #[.slice A n cp] w (MadeU (packB l) w):=by
 subst hn
 obtain ⟨k,hk⟩:=(b4r l hl).rounds
 exact puncheonref01_Bytes.calls k A cp l _ w hr hc hk
end Go.Proofs.YtflfjpkmjnnodaaGreat
namespace Go.Proofs.YtflfjpkmjnnodaaGreat
open Go.RowKit Go.Proofs.YtflfjpkmjnnodaaGreat.PRef Go.Proofs.YtflfjpkmjnnodaaGreatW.PrintWords Go.Proofs.YtflfjpkmjnnodaaGreatW.PrintLast Go.Proofs.YtflfjpkmjnnodaaGreatW.PrintMore
def a0I (ps : List Int) (n : Nat) : List Bool:=(List.range n).map (λ i=>decide (bitI ps i = 1))
theorem a1z (ps : List Int) (n : Nat) : (a0I ps n).length = n:=by simp [a0I]
theorem c9c (ps : List Int) (n : Nat) : a0I ps (n + 1) = a0I ps n ++ [decide (bitI ps n = 1)]:=by simp [a0I,List.range_succ]
theorem c9d (y k : Nat) (hy : y < 256) (hk : k < 8) : ((Go.bits .and .u8 (shr .u8 (y : Int) (k : Int)) 1) == 1) = decide (y / 2 ^ k % 2 = 1):=by
 have e1 : shr .u8 (y : Int) (k : Int) = ((y / 2 ^ k : Nat) : Int):=by
  unfold shr
  have : min (k : Int).toNat IntKind.u8.bits = k:=by
   have : IntKind.u8.bits = 8:=rfl
   rw [this,Int.toNat_natCast]; omega
  rw [this]; simp
 rw [e1]
 have h2:=Nat.div_le_self y (2 ^ k)
 obtain ⟨z,hz⟩ : ∃ z,z = y / 2 ^ k:=⟨_,rfl⟩
 rw [<- hz] at h2 ⊢
 have h:=bits_mask .u8 8 (by decide) (λ n h0 h1=>by rw [IntKind.wrap_u8]; omega) 1 (by decide) (z : Int) (by omega) (by omega)
 have e : ((2 : Int) ^ 1 - 1) = 1:=by decide
 rw [e] at h
 rw [h]
 by_cases hh : z % 2 = 1
 · rw [decide_eq_true hh,beq_iff_eq]; omega
 · rw [decide_eq_false hh,beq_eq_false_iff_ne]; omega
theorem c9e (ps : List Int) (hps : ∀ x ∈ ps,0 <= x /\ x < 256) (hl : ps.length <= 1000000) : ∀ (d i k : Nat),8 * i + k + d = 8 * ps.length -> i < ps.length -> k <= 8 -> Ev (λ f=>puncheonref01_Bits.l1 f ps (a0I ps (8 * i + k)) (i : Int) (k : Int)) (a0I ps (8 * ps.length)):=by
 intro d
 induction d with
 | zero=>
  intro i k h1 h2 h3
  refine Ev.step (λ f=>(show puncheonref01_Bits.l1 (f + 1) _ _ _ _ = _ by simp only [puncheonref01_Bits.l1]; rw [if_neg (by omega),wS i (by omega)])) ?_
  refine Ev.step (λ f=>(show puncheonref01_Bits.l0 (f + 1) _ _ _ = _ by simp only [puncheonref01_Bits.l0]; rw [if_neg (by omega)])) ?_
  rw [show 8 * i + k = 8 * ps.length by omega]; exact Ev.now _
 | succ d ih=>
  intro i k h1 h2 h3
  have c1 : (0 : Int) <= i:=by omega
  have c2 : (i : Int) < (ps.length : Int):=by omega
  have one : ∀ (i k : Nat),8 * i + k + (d + 1) = 8 * ps.length -> i < ps.length -> k < 8 -> Ev (λ f=>puncheonref01_Bits.l1 f ps (a0I ps (8 * i + k)) (i : Int) (k : Int)) (a0I ps (8 * ps.length)):=by
   intro i k h1 h2 h3
   have hx:=hps _ (a1Y h2)
   obtain ⟨y,hy⟩ : ∃ y : Nat,ps.getD i 0 = y:=⟨(ps.getD i 0).toNat,by omega⟩
   have hb : bitI ps (8 * i + k) = y / 2 ^ k % 2:=by
    unfold bitI
    rw [show (8 * i + k) / 8 = i by omega,show (8 * i + k) % 8 = k by omega,hy,Int.toNat_natCast]
   have c1 : (0 : Int) <= i:=by omega
   have c2 : (i : Int) < (ps.length : Int):=by omega
   have c3 : (k : Int) < 8:=by omega
   have c4 : (0 : Int) <= k:=by omega
   have c5 : (a0I ps (8 * i + k)).length < 140737488355328:=by rw [a1z]; omega
   refine Ev.step (λ f=>(show puncheonref01_Bits.l1 (f + 1) _ _ _ _ = _ by simp only [puncheonref01_Bits.l1]; rw [if_pos c3,if_pos c1,if_pos c2,if_pos c4,if_pos c5,a0C,hy,c9d y k (by omega) h3,wS k (by omega),<- hb,<- c9c])) ?_
   have:=ih i (k + 1) (by omega) h2 (by omega)
   rw [show 8 * i + (k + 1) = 8 * i + k + 1 by omega] at this
   exact this
  by_cases h4 : k < 8
  · exact one i k h1 h2 h4
  · have h5 : i + 1 < ps.length:=by omega
    have c3 : ((i + 1 : Nat) : Int) < (ps.length : Int):=by omega
    refine Ev.step (λ f=>(show puncheonref01_Bits.l1 (f + 1) _ _ _ _ = _ by simp only [puncheonref01_Bits.l1]; rw [if_neg (by omega),wS i (by omega)])) ?_
    refine Ev.step (λ f=>(show puncheonref01_Bits.l0 (f + 1) _ _ _ = _ by simp only [puncheonref01_Bits.l0]; rw [if_pos c3])) ?_
    have:=one (i + 1) 0 (by omega) h5 (by omega)
    rw [show 8 * (i + 1) + 0 = 8 * i + k by omega] at this
    exact this
theorem b7o (ps : List Int) (hps : ∀ x ∈ ps,0 <= x /\ x < 256) (hl : ps.length <= 1000000) : Ev (λ f=>puncheonref01_Bits.f f ps) (a0I ps (8 * ps.length)):=by
 by_cases h0 : ps.length = 0
 · refine Ev.step (g:=λ f=>puncheonref01_Bits.l0 f ps [] 0) (λ f=>(show puncheonref01_Bits.l0 (f + 1) _ _ _ = _ by simp only [puncheonref01_Bits.l0]; rw [if_neg (by omega)])) ?_
   rw [h0]; exact Ev.now _
 · have c3 : (0 : Int) < (ps.length : Int):=by omega
   refine Ev.step (g:=λ f=>puncheonref01_Bits.l0 f ps [] 0) (λ f=>(show puncheonref01_Bits.l0 (f + 1) _ _ _ = _ by simp only [puncheonref01_Bits.l0]; rw [if_pos c3])) ?_
   exact c9e ps hps hl (8 * ps.length) 0 0 (by omega) (by omega) (by omega)
theorem b7p {ps : List Int} (hps : ∀ x ∈ ps,0 <= x /\ x < 256) (h : ¬ (ps.length = 0 \/ lastB ps = 0)) : a0E ps < 8 * ps.length /\ bitI ps (a0E ps) = 1 /\ ∀ i,a0E ps < i -> i < 8 * ps.length -> bitI ps i = 0:=by
 have hm : lastB ps ∈ ps:=a1Y (by omega)
 have hx:=hps _ hm
 obtain ⟨y,hy⟩ : ∃ y : Nat,lastB ps = y:=⟨(lastB ps).toNat,by omega⟩
 obtain ⟨a,b,c⟩:=a3f y (by omega) (by omega)
 have hb8 : Lib.bitLen y <= 8:=by
  have : ¬ 9 <= Lib.bitLen y:=λ e=>by
   have h2 : 2 ^ 8 <= 2 ^ (Lib.bitLen y - 1):=Nat.pow_le_pow_right (by omega) (by omega)
   omega
  omega
 have hbi : ∀ j,j < 8 -> bitI ps (8 * (ps.length - 1) + j) = y / 2 ^ j % 2:=by
  intro j hj
  unfold bitI
  rw [show (8 * (ps.length - 1) + j) / 8 = ps.length - 1 by omega,show (8 * (ps.length - 1) + j) % 8 = j by omega]
  have : ps.getD (ps.length - 1) 0 = (y : Int):=hy
  rw [this,Int.toNat_natCast]
 have hB : a0E ps = 8 * (ps.length - 1) + (Lib.bitLen y - 1):=by unfold a0E; rw [hy,Int.toNat_natCast]; omega
 refine ⟨by omega,?_,λ i h1 h2=>?_⟩
 · rw [hB,hbi _ (by omega)]
   have h3 : y / 2 ^ (Lib.bitLen y - 1) = 1:=by
    rw [Nat.div_eq_iff (Nat.two_pow_pos _)]
    have : 2 ^ Lib.bitLen y = 2 * 2 ^ (Lib.bitLen y - 1):=by rw [<- Nat.pow_succ']; congr 1; omega
    omega
   rw [h3]
 · obtain ⟨j,rfl⟩ : ∃ j,i = 8 * (ps.length - 1) + j:=⟨i - 8 * (ps.length - 1),by omega⟩
   rw [hbi _ (by omega)]
   have h3 : y < 2 ^ j:=Nat.lt_of_lt_of_le (by first | exact b | exact c) (Nat.pow_le_pow_right (by omega) (by omega))
   rw [Nat.div_eq_of_lt h3]
theorem b7q (ps : List Int) (n i : Nat) (h : i < n) : rdOf false (a0I ps n) (i : Int) = decide (bitI ps i = 1):=by
 unfold rdOf a0I
 rw [Int.toNat_natCast,List.getD_eq_getElem?_getD,List.getElem?_map,List.getElem?_range h]; rfl
theorem c9f {ps : List Int} (hps : ∀ x ∈ ps,0 <= x /\ x < 256) (hl : ps.length <= 1000000) (h : ¬ (ps.length = 0 \/ lastB ps = 0)) : ∀ (d n : Nat),n = a0E ps + d -> n < 8 * ps.length -> Ev (λ f=>puncheonref02_Open.l0 f (a0I ps (8 * ps.length)) (n : Int)) (bitsL ps,0):=by
 obtain ⟨m1,m2,m3⟩:=b7p hps h
 have hlen:=a1z ps (8 * ps.length)
 intro d
 induction d with
 | zero=>
  intro n hn h2
  have hb:=b7q ps _ n h2
  rw [show n = a0E ps by omega] at hb ⊢
  rw [m2] at hb
  have hb' : rdOf false (a0I ps (8 * ps.length)) ((a0E ps : Nat) : Int) = true:=by rw [hb]; decide
  refine Ev.step (λ f=>(show puncheonref02_Open.l0 (f + 1) _ _ = _ by simp only [puncheonref02_Open.l0]; rw [if_pos (by omega),if_pos (by rw [hlen]; omega),if_pos hb',if_pos (by rw [hlen]; omega),Int.toNat_natCast])) ?_
  have e : (a0I ps (8 * ps.length)).take (a0E ps) = bitsL ps:=by
   unfold a0I bitsL
   rw [<- List.map_take,List.take_range,Nat.min_eq_left (by omega)]
  rw [e]; exact Ev.now _
 | succ d ih=>
  intro n hn h2
  have hb:=b7q ps _ n h2
  rw [m3 n (by omega) h2] at hb
  have hb' : ¬ rdOf false (a0I ps (8 * ps.length)) (n : Int) = true:=by rw [hb]; decide
  have e : wrap64 ((n : Int) - 1) = ((n - 1 : Nat) : Int):=by rw [w64 (by omega)]; omega
  refine Ev.step (λ f=>(show puncheonref02_Open.l0 (f + 1) _ _ = _ by simp only [puncheonref02_Open.l0]; rw [if_pos (by omega),if_pos (by rw [hlen]; omega),if_neg hb',e])) ?_
  exact ih (n - 1) (by omega) (by omega)
def openR (ps : List Int) : List Bool × Int:=if ps.length = 0 \/ lastB ps = 0 then ([],2) else (bitsL ps,0)
theorem c9g (ps : List Int) (hps : ∀ x ∈ ps,0 <= x /\ x < 256) (hl : ps.length <= 1000000) : Ev (λ f=>puncheonref02_Open.f f ps) (openR ps):=by
 have hj : ∀ b : Bool,b = decide (ps.length = 0 \/ lastB ps = 0) -> Ev (λ f=>puncheonref02_Open.j0 f ps b) (openR ps):=by
  intro b hb
  cases b with
  | true=>
   have:=of_decide_eq_true hb.symm
   refine Ev.step (λ f=>(show puncheonref02_Open.j0 (f + 1) _ _ = _ by simp only [puncheonref02_Open.j0]; rw [if_pos trivial])) ?_
   unfold openR; rw [if_pos this]; exact Ev.now _
  | false=>
   have h0:=of_decide_eq_false hb.symm
   refine Ev.step (λ f=>(show puncheonref02_Open.j0 (f + 1) _ _ = _ by simp only [puncheonref02_Open.j0]; rw [if_neg (by decide)])) ?_
   refine Ev.bind (b7o ps hps hl) ?_
   have e : wrap64 (((a0I ps (8 * ps.length)).length : Int) - 1) = ((8 * ps.length - 1 : Nat) : Int):=by rw [a1z,w64 (by omega)]; omega
   refine Ev.congr (f:=λ f=>puncheonref02_Open.l0 f (a0I ps (8 * ps.length)) ((8 * ps.length - 1 : Nat) : Int)) (λ f=>by rw [e]) ?_
   have hm:=(b7p hps h0).1
   unfold openR; rw [if_neg h0]
   exact c9f hps hl h0 (8 * ps.length - 1 - a0E ps) _ (by omega) (by omega)
 by_cases h0 : ps.length = 0
 · refine Ev.congr (λ f=>(show puncheonref02_Open.f f ps = _ by unfold puncheonref02_Open.f; rw [if_pos (by omega)])) ?_
   exact hj true (by rw [decide_eq_true (.inl h0)])
 · have e : wrap64 ((ps.length : Int) - 1) = ((ps.length - 1 : Nat) : Int):=by rw [w64 (by omega)]; omega
   refine Ev.congr (λ f=>(show puncheonref02_Open.f f ps = _ by unfold puncheonref02_Open.f; rw [if_neg (by omega),e,if_pos (by omega),if_pos (by omega),a0C])) ?_
   refine hj _ ?_
   by_cases h1 : lastB ps = 0
   · rw [decide_eq_true (.inr h1),beq_iff_eq]; exact h1
   · rw [decide_eq_false (λ h=>by rcases h with h | h; exact h0 h; exact h1 h),beq_eq_false_iff_ne]; exact h1
open Go.IntWalk
theorem b7r {w : World} {A : Option Addr} {n : Nat} {xs : List Bool} (h : Kd.bool.C w A n xs) (i : Nat) (hi : i < n) : ∃ ad,A = some ad /\ w.cell? (ad.add i) = some (.bool (xs.getD i false)):=by
 obtain ⟨ad,e,hc⟩:=Kd.at_bool h (i : Int) (by omega) (by omega)
 exact ⟨ad,e,hc⟩
theorem c9h {l : List Bool} {i : Nat} (h : i < l.length) : byteL (l.drop i) = (l.getD i false).toNat + 2 * byteL (l.drop (i + 1)):=by
 rw [List.drop_eq_getElem_cons h,List.getD_eq_getElem?_getD,List.getElem?_eq_getElem h]; rfl
set_option maxRecDepth 100000 in
set_option maxHeartbeats 1000000 in
theorem b7s (A : Option Addr) (m cp : Nat) (l : List Bool) (w : World) (hm : m = l.length) (hr : Kd.bool.C w A m l) (hl : m <= 24) : Calls Tryz.prog 173 #[.slice A m cp] w λ e w'=>e = .returned (.int .u32 (byteL l)) /\ w = w':=by
 have HR:=Lib.hid (And.intro hm hr)
 clear hm hr
 go_enter Tryz.func173,Tryz.ntmps173
 go_wp2_with fail
 go_loop [3,4] (λ vv kv=>∃ (k v : Nat),kv = .int .i64 ((m : Int) - 1 - k) /\ vv = .int .u32 v /\ k <= m /\ Hid (v = byteL (l.drop (m - k)))) (λ _ kv=>((intOf kv) + 1).toNat)
 case atStart=>exact ⟨0,0,by go_num,rfl,by omega,Lib.hid (by rw [Nat.sub_zero,HR.out.1,List.drop_length]; rfl)⟩
 case round=>
  obtain ⟨k,v,rfl,rfl,hk,H⟩:=hrel
  by_cases hlt : k < m
  · obtain ⟨i,hi⟩ : ∃ i,i = m - 1 - k:=⟨_,rfl⟩
    rw [show ((m : Int) - 1 - (k : Int)) = (i : Int) by omega]
    have him : i < m:=by omega
    have hbd:=c9h (l:=l) (i:=i) (by have:=HR.out.1; omega)
    have hv:=a3G (l.drop (m - k))
    rw [<- H.out,List.length_drop] at hv
    have hv2 : 2 ^ (l.length - (m - k)) <= 2 ^ 23:=Nat.pow_le_pow_right (by omega) (by have:=HR.out.1; omega)
    have hv3 : v < 8388608:=by omega
    rw [show i + 1 = m - k by omega,<- H.out] at hbd
    obtain ⟨ad,rfl,hc⟩:=b7r HR.out.2 i him
    obtain ⟨b,hb⟩ : ∃ b,b = l.getD i false:=⟨_,rfl⟩
    rw [<- hb] at hc hbd
    have HN:=Lib.hid (And.intro hbd hi)
    have hiI : (i : Int) < (m : Int):=by omega
    clear hbd hi hv hv2 hb
    cases b
    all_goals
     go_wp2_with fail
     go_round
     case rel=>exact ⟨k + 1,_,by rw [show ((m : Int) - 1 - ((k + 1 : Nat) : Int)) = (i : Int) - 1 by have:=HN.out.2; omega],by first | rfl | go_num,by omega,Lib.hid (by rw [show m - (k + 1) = i by have:=HN.out.2; omega,HN.out.1]; simp; try omega)⟩
     case measure=>first | (simp [intOf]; done) | (simp [intOf]; omega)
  · obtain rfl : k = m:=by omega
    rw [show ((k : Int) - 1 - (k : Int)) = (-1 : Int) by omega]
    go_wp2_with fail
    go_ret
    have h:=H.out
    rw [Nat.sub_self,List.drop_zero] at h
    subst h
    exact ⟨rfl,rfl⟩
theorem b0S : (Tryz.prog.info? 4).map (·.size) = some 1:=by kernel_rfl
set_option maxRecDepth 100000 in
set_option maxHeartbeats 1000000 in
theorem b0T (A : Option Addr) (m cp n : Nat) (l : List Bool) (w : World) (hm : m = l.length) (hcp : m <= cp) (hr : Kd.bool.C w A m l) (hn : n <= 24) (hl : n <= m) (hm2 : m <= 1000000) : Calls Tryz.prog 123 #[.slice A m cp,.int .i64 n] w (Ret (.tuple #[.slice A (m - n : Nat) cp,.int .u32 (byteL (l.drop (m - n))),.bool true]) w):=by
 obtain ⟨k,hk⟩ : ∃ k,k = m - n:=⟨_,rfl⟩
 rw [<- hk]
 obtain ⟨i0,hi0,hsz⟩:=Option.map_eq_some_iff.1 b0S
 have hcut1 : ∀ W : World,(Instr.slice 142 (.slice A m cp) none (some (.int .i64 (k : Int))) none).run Tryz.prog W = .ok (.slice A k cp) W:=by
  have:=a6e (P:=Tryz.prog) 142 4 .i64 Tryz.underlying142 hi0 A m cp (k : Int) (by omega) (by omega) hcp
  simpa using this
 obtain ⟨A2,hA2⟩ : ∃ A2,A2 = (if cp = k then A else A.map (·.add (k * 1))):=⟨_,rfl⟩
 have hcut2 : ∀ W : World,(Instr.slice 142 (.slice A m cp) (some (.int .i64 (k : Int))) none none).run Tryz.prog W = .ok (.slice A2 n (cp - k)) W:=by
  have:=a6f (P:=Tryz.prog) 142 4 .i64 Tryz.underlying142 hi0 1 hsz A m cp (k : Int) (by omega) (by omega)
  simp only [Int.toNat_natCast] at this
  rw [<- hA2,show m - k = n by omega] at this
  exact this
 have hC : Kd.bool.C w A2 n (l.drop k):=by
  have h2:=Kd.C_drop (c:=cp) (m:=k) (by rw [<- hm]; exact hr) (by omega) (by omega)
  have e : (l.drop k).length = n:=by rw [List.length_drop]; omega
  rw [e] at h2
  rw [hA2]; exact h2
 have HN:=Lib.hid (λ W (h : Below w.heap.size w W)=>b7s A2 n (cp - k) (l.drop k) W (by rw [List.length_drop]; omega) (Kd.C_below hC h) hn)
 have d1 : decide ((n : Int) < 0) = false:=decide_eq_false (by omega)
 have d2 : decide ((24 : Int) < (n : Int)) = false:=decide_eq_false (by omega)
 have d3 : decide ((m : Int) < (n : Int)) = false:=decide_eq_false (by omega)
 have d3n : decide (m < n) = false:=decide_eq_false (by omega)
 have hmk : (m : Int) - (n : Int) = (k : Int):=by omega
 have HX:=Lib.hid (And.intro hm hr)
 have hk0 : (0 : Int) <= k:=by omega
 have hkm : (k : Int) <= (m : Int):=by omega
 have hkc : (k : Int) <= (cp : Int):=by omega
 have hwk : IntKind.i64.wrap (k : Int) = k:=i64_in _ (by omega)
 clear hk hA2 hC hm hr hi0 hsz
 go_enter Tryz.func123,Tryz.ntmps123
 go_wp2_with fail
 go_quiet ((go_at_call 173; refine Calls.quiet_of_same ((HN.out _ (a0b (Below.refl _ _) _)).mono λ e w' h=>⟨h.1,h.2.symm⟩)))
 all_goals
  go_wp2_with fail
  go_ret3
  exact ⟨rfl,by first | exact Below.refl _ _ | exact a0b (Below.refl _ _) _⟩
set_option maxRecDepth 100000 in
set_option maxHeartbeats 1000000 in
theorem a8g (A : Option Addr) (m cp n : Nat) (w : World) (hn : n <= 24) (hl : m < n) : Calls Tryz.prog 123 #[.slice A m cp,.int .i64 n] w (Ret (.tuple #[.slice A m cp,.int .u32 0,.bool false]) w):=by
 have d1 : decide ((n : Int) < 0) = false:=decide_eq_false (by omega)
 have d2 : decide ((24 : Int) < (n : Int)) = false:=decide_eq_false (by omega)
 have d3 : decide ((m : Int) < (n : Int)) = true:=decide_eq_true (by omega)
 have d3n : decide (m < n) = true:=decide_eq_true (by omega)
 go_enter Tryz.func123,Tryz.ntmps123
 go_wp2_with fail
 go_ret3
 exact ⟨rfl,Below.refl _ _⟩
end Go.Proofs.YtflfjpkmjnnodaaGreat
namespace Go.Proofs.YtflfjpkmjnnodaaGreat
open Go.RowKit Go.IntWalk Go.Proofs.YtflfjpkmjnnodaaGreatW.PrintWords Go.Proofs.YtflfjpkmjnnodaaGreat.PRef
structure R3At (w : World) (base p : Nat) (xs : List Bool) (at_ : Nat) : Prop where
 ex : ∃ A c,w.heap[p]? = some (.cells #[.slice A xs.length c,.int .i64 at_] 145 (0,0)) /\ Kd.bool.R 4 w base (λ k=>k < p) (.slice A xs.length c) xs
theorem R3At.drewN {w : World} {base p : Nat} {xs : List Bool} {at_ : Nat} (h : R3At w base p xs at_) (m : Nat) : R3At (w.drewN m) base p xs at_:=by
 obtain ⟨A,c,h1,h2⟩:=h.ex
 exact ⟨A,c,h1,Kd.R_below h2 (a0b (Below.refl _ _) m)⟩
theorem R3At.store {w : World} {base p : Nat} {xs : List Bool} {at_ : Nat} (h : R3At w base p xs at_) (m : Nat) : R3At (w.setCell ⟨p,1,none⟩ (.int .i64 (m : Int))) base p xs m:=by
 obtain ⟨A,c,h1,h2⟩:=h.ex
 refine ⟨A,c,?_,Kd.R_far (p:=⟨p,1,none⟩) h2 (λ k hk=>Nat.ne_of_lt hk) _⟩
 rw [a0x h1 1]; rfl
theorem R3At.below {w w1 : World} {base p : Nat} {xs : List Bool} {at_ : Nat} (h : R3At w base p xs at_) (hb : Below w.heap.size w w1) : R3At w1 base p xs at_:=by
 obtain ⟨A,c,h1,h2⟩:=h.ex
 exact ⟨A,c,a0h h1 hb,Kd.R_below h2 hb⟩
theorem R3At.far {w : World} {base p : Nat} {xs : List Bool} {at_ : Nat} (h : R3At w base p xs at_) {g : Nat} (hg : p < g) (j : Nat) (u : Value) : R3At (w.setCell ⟨g,j,none⟩ u) base p xs at_:=by
 obtain ⟨A,c,h1,h2⟩:=h.ex
 exact ⟨A,c,a1r h1 (p:=⟨g,j,none⟩) (by show p ≠ g; omega) u,Kd.R_far (p:=⟨g,j,none⟩) h2 (λ k hk=>by show k ≠ g; omega) u⟩
theorem b7t (ps : List Int) {at_ n : Nat} (h : at_ + n <= 8 * ps.length) : byteL (((a0I ps (8 * ps.length)).drop at_).take n) = takeF ps at_ n:=by
 unfold takeF
 congr 1
 refine List.ext_getElem (by rw [List.length_take,List.length_drop,a1z]; simp; omega) λ i h1 h2=>?_
 simp [a0I]
theorem b7u (ps : List Int) (hps : Bytes ps) : packB (a0I ps (8 * ps.length)) = ps:=by
 refine List.ext_getElem (by rw [a0D,a1z]; omega) λ j h1 h2=>?_
 rw [a2p]
 have hj:=b7t ps (at_:=8 * j) (n:=8) (by omega)
 rw [hj]
 have hb:=hps.get j
 rw [List.getD_eq_getElem?_getD,List.getElem?_eq_getElem h2,Option.getD_some] at hb
 obtain ⟨y,hy⟩ : ∃ y : Nat,ps[j] = y:=⟨ps[j].toNat,by omega⟩
 rw [hy] at hb ⊢
 have hbit : ∀ i,i < 8 -> bitI ps (8 * j + i) = y / 2 ^ i % 2:=by
  intro i hi
  unfold bitI
  rw [show (8 * j + i) / 8 = j by omega,show (8 * j + i) % 8 = i by omega,List.getD_eq_getElem?_getD,List.getElem?_eq_getElem h2,Option.getD_some,hy,Int.toNat_natCast]
 have e0 : takeF ps (8 * j) 0 = 0:=rfl
 rw [a2R,a2R,a2R,a2R,a2R,a2R,a2R,a2R,e0,hbit 0 (by omega),hbit 1 (by omega),hbit 2 (by omega),hbit 3 (by omega),hbit 4 (by omega),hbit 5 (by omega),hbit 6 (by omega),hbit 7 (by omega)]
 simp only [Nat.pow_zero,Nat.pow_succ,Nat.div_one,Nat.one_mul]
 omega
theorem b7v (ps : List Int) {j : Nat} (hj : j <= ps.length) : (a0I ps (8 * ps.length)).drop (8 * j) = a0I (ps.drop j) (8 * (ps.drop j).length):=by
 refine List.ext_getElem (by rw [List.length_drop,a1z,a1z,List.length_drop]; omega) λ i h1 h2=>?_
 simp only [a0I,List.getElem_drop,List.getElem_map,List.getElem_range]
 congr 2
 unfold bitI
 rw [show (8 * j + i) / 8 = j + i / 8 by omega,show (8 * j + i) % 8 = i % 8 by omega,List.getD_eq_getElem?_getD,List.getD_eq_getElem?_getD,List.getElem?_drop]
def c9j (w : World) (xs : List Bool) (e : Ending) (w' : World) : Prop:=∃ p,e = .returned (.pointer (some ⟨p,0,none⟩)) /\ w.heap.size <= p /\ R3At w' w.heap.size p xs 0 /\ Below w.heap.size w w'
set_option maxRecDepth 100000 in
theorem b7x (A : Option Addr) (c : Nat) (ps : List Int) (w : World) (hr : (Kd.int .u8).C w A ps.length ps) (hc : ps.length <= c) (hps : Bytes ps) (hl : ps.length <= 1000000) :
    Calls Tryz.prog 72 #[.slice A ps.length c] w (c9j w (a0I ps (8 * ps.length))):=by
 have HB:=Lib.hid (show Calls Tryz.prog 111 #[.slice A ps.length c] w (MadeB (a0I ps (8 * ps.length)) w) from by
  obtain ⟨k,hk⟩:=(b7o ps hps hl).rounds
  exact puncheonref01_Bits.calls k A c ps _ w hr hc hk)
 obtain ⟨xs,hxs⟩ : ∃ x,x = a0I ps (8 * ps.length):=⟨_,rfl⟩
 rw [<- hxs] at HB ⊢
 clear hr hc hps hl hxs
 go_enter Tryz.func72,Tryz.ntmps72
 go_wp2_with fail
 refine HB.out.mono ?_
 rintro e w1 ⟨v,rfl,hv,hb⟩
 obtain ⟨A1,c1,rfl⟩:=Kd.R_slice hv
 have HV:=Lib.hid (And.intro hv hb)
 clear hv hb
 go_wp2_with fail
 go_ret
 refine ⟨w1.heap.size,rfl,HV.out.2.size,⟨A1,c1,a0i _ _,Kd.R_mono (Kd.R_alloc (Kd.R_bound HV.out.1) _) (λ k hk=>hk.2.2.1)⟩,HV.out.2.alloc HV.out.2.size _⟩
set_option maxRecDepth 100000 in
theorem c9k (base p : Nat) (xs : List Bool) (at_ : Nat) (w : World) (h : R3At w base p xs at_) (hl : xs.length <= 8000000) (ha : at_ <= xs.length) :
    Calls Tryz.prog 211 #[.pointer (some ⟨p,0,none⟩)] w λ e w'=>e = .returned (.int .i64 ((xs.length - at_ : Nat) : Int)) /\ R3At w' base p xs at_ /\ Only (λ k=>k = p) w w':=by
 obtain ⟨A,c,hb,hr⟩:=h.ex
 have hc0 : w.cell? ⟨p,0,none⟩ = some (.slice A xs.length c):=(a0a hb 0).trans rfl
 have hc1 : w.cell? ⟨p,1,none⟩ = some (.int .i64 at_):=(a0a hb 1).trans rfl
 have HH:=Lib.hid h
 clear h hb hr
 have hs : (xs.length : Int) - (at_ : Int) = ((xs.length - at_ : Nat) : Int):=by omega
 go_enter Tryz.func211,Tryz.ntmps211
 go_wp2_with fail
 go_quiet (fail)
 all_goals
  go_wp2_with fail
  go_ret
  exact ⟨a1G (by omega),HH.out.drewN _,(Only.refl _ _).drewN _⟩
def c9l (base p : Nat) (xs : List Bool) (at_ n : Nat) (w : World) (e : Ending) (w' : World) : Prop:=
 (at_ + n <= xs.length -> e = .returned (.tuple #[.int .u32 (byteL ((xs.drop at_).take n)),.bool true]) /\ R3At w' base p xs (at_ + n)) /\ (¬ at_ + n <= xs.length -> e = .returned (.tuple #[.int .u32 0,.bool false]) /\ R3At w' base p xs at_) /\ Only (λ k=>k = p) w w'
set_option maxRecDepth 100000 in
set_option maxHeartbeats 1000000 in
theorem c9m (base p : Nat) (xs : List Bool) (at_ n : Nat) (w : World) (h : R3At w base p xs at_) (hl : xs.length <= 8000000) (ha : at_ <= xs.length) (hn : n <= 24) :
    Calls Tryz.prog 162 #[.pointer (some ⟨p,0,none⟩),.int .i64 n] w (c9l base p xs at_ n w):=by
 have HL:=Lib.hid (c9k base p xs at_ w h hl ha)
 obtain ⟨lf,hlf⟩ : ∃ lf,lf = xs.length - at_:=⟨_,rfl⟩
 rw [<- hlf] at HL
 have HP:=Lib.hid (And.intro hl (And.intro ha hlf))
 have hd1 : decide ((n : Int) < 0) = false:=decide_eq_false (by omega)
 have hd2 : decide ((24 : Int) < (n : Int)) = false:=decide_eq_false (by omega)
 have hd2n : decide (24 < n) = false:=decide_eq_false (by omega)
 by_cases hle : n <= lf
 · have hd3 : decide ((lf : Int) < (n : Int)) = false:=decide_eq_false (by omega)
   have hd3n : decide (lf < n) = false:=decide_eq_false (by omega)
   clear h hl ha hlf
   go_enter Tryz.func162,Tryz.ntmps162
   go_wp2_with fail
   refine HL.out.mono ?_
   rintro e w1 ⟨rfl,h1,ho1⟩
   obtain ⟨A,c,hb,hr⟩:=h1.ex
   have hc0 : w1.cell? ⟨p,0,none⟩ = some (.slice A xs.length c):=(a0a hb 0).trans rfl
   have hc1 : w1.cell? ⟨p,1,none⟩ = some (.int .i64 at_):=(a0a hb 1).trans rfl
   have hcap:=(Kd.R_reads' hr).2.1
   have hC:=(Kd.R_reads' hr).2.2
   obtain ⟨i0,hi0,hsz⟩:=Option.map_eq_some_iff.1 b0S
   obtain ⟨A2,hA2⟩ : ∃ A2,A2 = (if c = at_ then A else A.map (·.add (at_ * 1))):=⟨_,rfl⟩
   obtain ⟨t,ht⟩ : ∃ t,t = at_ + n:=⟨_,rfl⟩
   have htl : t <= xs.length:=by have:=HP.out; omega
   have hcut : ∀ W : World,(Instr.slice 142 (.slice A xs.length c) (some (.int .i64 (at_ : Int))) (some (.int .i64 (t : Int))) none).run Tryz.prog W = .ok (.slice A2 n (c - at_)) W:=by
    have:=b1D (P:=Tryz.prog) 142 4 .i64 .i64 Tryz.underlying142 hi0 1 hsz A xs.length c (at_ : Int) (t : Int) (by omega) (by omega) (by omega) hcap
    simp only [Int.toNat_natCast] at this
    rw [<- hA2,show t - at_ = n by omega] at this
    exact this
   have hCm : Kd.bool.C w1 A2 n ((xs.drop at_).take n):=by
    have h2:=Kd.C_mid (c:=c) (lo:=at_) (hi:=t) hC (by omega) htl hcap
    have e : (xs.take t).drop at_ = (xs.drop at_).take n:=by rw [List.drop_take,show t - at_ = n by omega]
    rw [e] at h2
    have e2 : ((xs.drop at_).take n).length = n:=by rw [List.length_take,List.length_drop]; omega
    rw [e2] at h2
    rw [hA2]; exact h2
   have hln : ((xs.drop at_).take n).length = n:=by rw [List.length_take,List.length_drop]; omega
   have HN:=Lib.hid (λ W (hB : Below w1.heap.size w1 W)=>b7s A2 n (c - at_) ((xs.drop at_).take n) W hln.symm (Kd.C_below hCm hB) (by omega))
   have hsum : (at_ : Int) + (n : Int) = (t : Int):=by omega
   have hsw : IntKind.i64.wrap (t : Int) = (t : Int):=i64_in _ (by have:=HP.out.1; omega)
   have htn : at_ <= t:=by omega
   have H1:=Lib.hid (And.intro h1 (And.intro ho1 (And.intro ht htl)))
   obtain ⟨V,hV⟩ : ∃ V,V = byteL ((xs.drop at_).take n):=⟨_,rfl⟩
   have HV:=Lib.hid hV
   rw [<- hV] at HN
   clear h1 ho1 hb hr hC hCm hln hA2 ht hV
   go_wp2_with fail
   go_quiet ((go_at_call 173; refine Calls.quiet_of_same ((HN.out _ (a0b (Below.refl _ _) _)).mono λ e w' h=>⟨h.1,h.2.symm⟩)))
   all_goals
    have HR2 : Hid (R3At (w1.drewN nq) base p xs at_ /\ Only (λ k=>k = p) w (w1.drewN nq)):=⟨H1.out.1.drewN nq,H1.out.2.1.drewN nq⟩
    obtain ⟨w2,hw2⟩ : ∃ w2,w2 = w1.drewN nq:=⟨_,rfl⟩
    rw [<- hw2] at HR2 ⊢
    clear hw2 hc0 hc1
    obtain ⟨A3,c3,hb3,hr3⟩:=HR2.out.1.ex
    have hc1 : w2.cell? ⟨p,1,none⟩ = some (.int .i64 at_):=(a0a hb3 1).trans rfl
    have hf1 : w2.frozen? ⟨p,1,none⟩ = false:=a0e hb3 1
    clear hb3 hr3
    go_wp2_with fail
    go_ret2
    refine ⟨λ _=>⟨by rw [<- HV.out]; rfl,?_⟩,λ h=>absurd h (by have:=H1.out.2.2; omega),HR2.out.2.set1 _ _⟩
    rw [<- H1.out.2.2.1]
    exact HR2.out.1.store t
 · have hd3 : decide ((lf : Int) < (n : Int)) = true:=decide_eq_true (by omega)
   have hd3n : decide (lf < n) = true:=decide_eq_true (by omega)
   clear h hl ha hlf
   go_enter Tryz.func162,Tryz.ntmps162
   go_wp2_with fail
   refine HL.out.mono ?_
   rintro e w1 ⟨rfl,h1,ho1⟩
   have H1:=Lib.hid (And.intro h1 ho1)
   clear h1 ho1
   go_wp2_with fail
   go_ret2
   exact ⟨λ h=>absurd h (by have:=HP.out; omega),λ _=>⟨rfl,H1.out.1⟩,H1.out.2⟩
def PadP (xs : List Bool) (at_ : Nat) : Prop:=∀ i,at_ <= i -> i < 8 * ((at_ + 7) / 8) -> xs.getD i false = false
theorem c9n : ∀ j,j < 8 -> ∀ y,y < 256 -> (y / 2 ^ j = 0 ↔ ∀ i,i < 8 -> j <= i -> y / 2 ^ i % 2 = 0):=by decide +kernel
theorem b7y (ps : List Int) {n i : Nat} (h : i < n) : (a0I ps n).getD i false = decide (bitI ps i = 1):=by
 unfold a0I
 rw [List.getD_eq_getElem?_getD,List.getElem?_map,List.getElem?_range h]; rfl
theorem b7z (ps : List Int) (hps : Bytes ps) {at_ : Nat} (ha : at_ <= 8 * ps.length) : PadP (a0I ps (8 * ps.length)) at_ ↔ padOk ps at_ = true:=by
 unfold padOk
 rw [decide_eq_true_eq]
 by_cases h8 : at_ % 8 = 0
 · exact ⟨λ _ h=>h.1 h8,λ _ i h1 h2=>by omega⟩
 · have hb:=hps.get (at_ / 8)
   obtain ⟨y,hy⟩ : ∃ y : Nat,ps.getD (at_ / 8) 0 = y:=⟨(ps.getD (at_ / 8) 0).toNat,by omega⟩
   rw [hy] at hb ⊢
   rw [Int.toNat_natCast]
   have hbit : ∀ i,i < 8 -> bitI ps (8 * (at_ / 8) + i) = y / 2 ^ i % 2:=by
    intro i hi
    unfold bitI
    rw [show (8 * (at_ / 8) + i) / 8 = at_ / 8 by omega,show (8 * (at_ / 8) + i) % 8 = i by omega,hy,Int.toNat_natCast]
   have hp:=c9n (at_ % 8) (by omega) y (by omega)
   constructor
   · rintro h ⟨-,h2⟩
     refine h2 (hp.2 λ i hi hj=>?_)
     have:=h (8 * (at_ / 8) + i) (by omega) (by omega)
     rw [b7y ps (by omega),hbit i hi] at this
     have:=of_decide_eq_false this
     omega
   · intro h i h1 h2
     have h0 : y / 2 ^ (at_ % 8) = 0:=Decidable.byContradiction λ hn=>h ⟨h8,hn⟩
     have:=hp.1 h0 (i - 8 * (at_ / 8)) (by omega) (by omega)
     rw [b7y ps (by omega)]
     have hb2:=hbit (i - 8 * (at_ / 8)) (by omega)
     rw [show 8 * (at_ / 8) + (i - 8 * (at_ / 8)) = i by omega] at hb2
     rw [hb2,this]; decide
def c9o (base p : Nat) (xs : List Bool) (at_ : Nat) (w : World) (e : Ending) (w' : World) : Prop:=
 (PadP xs at_ -> e = .returned (.bool true) /\ R3At w' base p xs (8 * ((at_ + 7) / 8))) /\ (¬ PadP xs at_ -> e = .returned (.bool false)) /\ Only (λ k=>k = p) w w'
set_option maxRecDepth 100000 in
set_option maxHeartbeats 1000000 in
theorem b7A (base p : Nat) (xs : List Bool) (at_ m : Nat) (w : World) (h : R3At w base p xs at_) (hm : xs.length = 8 * m) (hl : xs.length <= 8000000) (ha : at_ <= xs.length) :
    Calls Tryz.prog 74 #[.pointer (some ⟨p,0,none⟩)] w (c9o base p xs at_ w):=by
 obtain ⟨A,c,hb,hr⟩:=h.ex
 have hc0 : w.cell? ⟨p,0,none⟩ = some (.slice A xs.length c):=(a0a hb 0).trans rfl
 have hc1 : w.cell? ⟨p,1,none⟩ = some (.int .i64 at_):=(a0a hb 1).trans rfl
 have hf1 : w.frozen? ⟨p,1,none⟩ = false:=a0e hb 1
 have HC:=Lib.hid (Kd.R_reads' hr).2.2
 have HH:=Lib.hid (And.intro h (And.intro hm (And.intro hl ha)))
 clear h hb hr hm hl ha
 go_enter Tryz.func74,Tryz.ntmps74
 go_wp2_with fail
 go_loop [3] (λ kv=>∃ t : Nat,kv = .int .i64 t /\ at_ <= t /\ t <= 8 * ((at_ + 7) / 8) /\ Hid (∀ i,at_ <= i -> i < t -> xs.getD i false = false)) (λ kv=>8 * ((at_ + 7) / 8) - (intOf kv).toNat)
 case atStart=>exact ⟨at_,rfl,Nat.le_refl _,by omega,Lib.hid λ i h1 h2=>by omega⟩
 case round=>
  obtain ⟨t,rfl,h1,h2,H⟩:=hrel
  have ht8 : t <= 8000000:=by have:=HH.out.2; omega
  have htm : (t : Int).tmod 8 = ((t % 8 : Nat) : Int):=by rw [Int.tmod_eq_emod_of_nonneg (by omega)]; omega
  by_cases h8 : t % 8 = 0
  · have hg : ((t : Int).tmod 8 != 0) = false:=by rw [htm,h8]; rfl
    have hgE : ((t : Int) % 8 != 0) = false:=by simp; omega
    have hte : t = 8 * ((at_ + 7) / 8):=by omega
    have HE:=Lib.hid (And.intro hte H.out)
    clear htm h2 hte
    go_wp2_with fail
    go_ret
    refine ⟨λ _=>⟨rfl,?_⟩,λ hn=>absurd (λ i a b=>HE.out.2 i a (by rw [HE.out.1]; exact b)) hn,(Only.refl _ _).set1 _ _⟩
    rw [<- HE.out.1]
    exact HH.out.1.store t
  · have hg : ((t : Int).tmod 8 != 0) = true:=by rw [htm]; simp; omega
    have hgE : ((t : Int) % 8 != 0) = true:=by simp; omega
    have htl : t < xs.length:=by have:=HH.out.2; omega
    obtain ⟨ad,hA,hcx⟩:=b7r HC.out t htl
    subst hA
    obtain ⟨b,hbx⟩ : ∃ b,b = xs.getD t false:=⟨_,rfl⟩
    rw [<- hbx] at hcx
    have HBX:=Lib.hid hbx
    have htI : (t : Int) < (xs.length : Int):=by omega
    have hlt : t < 8 * ((at_ + 7) / 8):=by omega
    clear hbx htm
    cases b with
    | true=>
     go_wp2_with fail
     go_ret
     exact ⟨λ hp=>(by have h9:=hp t h1 hlt; rw [<- HBX.out] at h9; cases h9),λ _=>rfl,Only.refl _ _⟩
    | false=>
     go_wp2_with fail
     go_round
     case rel=>
      refine ⟨t + 1,by go_num,by omega,by omega,Lib.hid (λ i a b=>?_)⟩
      by_cases e : i = t
      · rw [e]; exact HBX.out.symm
      · exact H.out i a (by omega)
     case measure=>simp [intOf]; omega
set_option maxRecDepth 100000 in
set_option maxHeartbeats 1000000 in
theorem b7B (base p : Nat) (xs : List Bool) (m n : Nat) (w : World) (h : R3At w base p xs (8 * m)) (hm : xs.length = 8 * n) (hl : xs.length <= 1000000) (ha : m <= n) :
    Calls Tryz.prog 75 #[.pointer (some ⟨p,0,none⟩)] w (MadeU (packB (xs.drop (8 * m))) w):=by
 obtain ⟨A,c,hb,hr⟩:=h.ex
 obtain ⟨t,ht⟩ : ∃ t,t = 8 * m:=⟨_,rfl⟩
 rw [<- ht] at hb ⊢
 have hc0 : w.cell? ⟨p,0,none⟩ = some (.slice A xs.length c):=(a0a hb 0).trans rfl
 have hc1 : w.cell? ⟨p,1,none⟩ = some (.int .i64 t):=(a0a hb 1).trans rfl
 have hcap:=(Kd.R_reads' hr).2.1
 have hC:=(Kd.R_reads' hr).2.2
 obtain ⟨i0,hi0,hsz⟩:=Option.map_eq_some_iff.1 b0S
 obtain ⟨A2,hA2⟩ : ∃ A2,A2 = (if c = t then A else A.map (·.add (t * 1))):=⟨_,rfl⟩
 have htl : t <= xs.length:=by omega
 obtain ⟨k,hk⟩ : ∃ k,k = xs.length - t:=⟨_,rfl⟩
 have hcut : ∀ W : World,(Instr.slice 142 (.slice A xs.length c) (some (.int .i64 (t : Int))) none none).run Tryz.prog W = .ok (.slice A2 k (c - t)) W:=by
  have:=a6f (P:=Tryz.prog) 142 4 .i64 Tryz.underlying142 hi0 1 hsz A xs.length c (t : Int) (by omega) (by omega)
  simp only [Int.toNat_natCast] at this
  rw [<- hA2,<- hk] at this
  exact this
 have hCd : Kd.bool.C w A2 k (xs.drop t):=by
  have h2:=Kd.C_drop (c:=c) (m:=t) hC htl hcap
  have e : (xs.drop t).length = k:=by rw [List.length_drop,hk]
  rw [e] at h2
  rw [hA2]; exact h2
 have HBy:=Lib.hid (b7n A2 (c - t) k (xs.drop t) w hCd (by rw [List.length_drop,hk]) (by rw [List.length_drop]; omega) (by rw [List.length_drop]; omega))
 have ht8 : t <= 8000000:=by omega
 have hg : ((t : Int).tmod 8 != 0) = false:=by rw [Int.tmod_eq_emod_of_nonneg (by omega)]; simp; omega
 have hgE : ((t : Int) % 8 != 0) = false:=by simp; omega
 clear h hb hr hC hCd hA2 hk hm ht hl
 go_enter Tryz.func75,Tryz.ntmps75
 go_wp2_with fail
 go_loop [3] (λ kv=>kv = .int .i64 t) (λ kv=>0)
 case atStart=>rfl
 case round=>
  obtain rfl:=hrel
  go_wp2_with fail
  refine HBy.out.mono ?_
  rintro e w1 ⟨v,rfl,hv,hb⟩
  have HV:=Lib.hid (And.intro hv hb)
  clear hv hb
  go_wp2_with fail
  go_ret
  exact ⟨v,rfl,HV.out.1,HV.out.2⟩
end Go.Proofs.YtflfjpkmjnnodaaGreat
namespace Go.Proofs.YtflfjpkmjnnodaaGreat
open Go.RowKit Go.IntWalk Go.Proofs.YtflfjpkmjnnodaaGreatW.PrintWords
set_option maxRecDepth 100000 in
set_option maxHeartbeats 1000000 in
theorem c9p (A : Option Addr) (cp : Nat) (b : List Int) (c : Nat) (w : World) (hr : (Kd.int .u8).C w A b.length b) (hb : Bytes b) (hl : 32 <= b.length) (hl2 : b.length <= 1000000) (hc : c < 256) :
    Calls Tryz.prog 110 #[.slice A b.length cp,.int .i64 c] w (λ e w'=>e = .returned (.bool (decide (bitI b c = 1))) /\ w = w'):=by
 obtain ⟨q,hq⟩ : ∃ q,q = c / 8:=⟨_,rfl⟩
 obtain ⟨j,hj⟩ : ∃ j,j = c % 8:=⟨_,rfl⟩
 obtain ⟨ad,hA,hx⟩:=a0y hr q (by omega)
 subst hA
 have hbq:=hb.get q
 obtain ⟨y,hy⟩ : ∃ y : Nat,b.getD q 0 = y:=⟨(b.getD q 0).toNat,by omega⟩
 rw [hy] at hx hbq
 have HB : Hid (bitI b c = y / 2 ^ j % 2):=Lib.hid (by unfold bitI; rw [<- hq,<- hj,hy]; rfl)
 have d1 : decide ((b.length : Int) < 32) = false:=decide_eq_false (by omega)
 have d2 : decide ((c : Int) < 0) = false:=decide_eq_false (by omega)
 have d3 : decide ((255 : Int) < (c : Int)) = false:=decide_eq_false (by omega)
 have hqT : (c : Int).tdiv 8 = (q : Int):=by rw [Int.tdiv_eq_ediv_of_nonneg (by omega)]; omega
 have hjT : (c : Int).tmod 8 = (j : Int):=by rw [Int.tmod_eq_emod_of_nonneg (by omega)]; omega
 have hqE : (c : Int) / 8 = (q : Int):=by omega
 have hjE : (c : Int) % 8 = (j : Int):=by omega
 have hqw : IntKind.i64.wrap (q : Int) = (q : Int):=i64_in _ (by omega)
 have hql : (q : Int) < (b.length : Int):=by omega
 have hj0 : ¬ (j : Int) < 0:=by omega
 have hj8 : j < 8:=by omega
 have HV : Hid (decide (bitI b c = 1) = (((y : Int) / 2 ^ j).tmod 2 == 1)):=Lib.hid (by
  rw [HB.out]
  have e2 : ((y : Int) / 2 ^ j) = ((y / 2 ^ j : Nat) : Int):=by simp
  rw [e2]
  generalize y / 2 ^ j = v
  rw [Int.tmod_eq_emod_of_nonneg (by omega)]
  by_cases h : v % 2 = 1
  · rw [decide_eq_true h]; symm; rw [beq_iff_eq]; omega
  · rw [decide_eq_false h]; symm; rw [beq_eq_false_iff_ne]; omega)
 have hy8 : y < 256:=by omega
 clear hr hb hl hbq hq hj hy hc
 go_enter Tryz.func110,Tryz.ntmps110
 go_wp2_with fail
 go_ret
 refine ⟨?_,rfl⟩
 rw [HV.out]; rfl
theorem c9q (b : List Int) : (onesN b 256).getD 0 1 = 0 ↔ bitI b 0 = 1:=by
 have h1 : ∀ k,0 < k -> bitI b 0 = 1 -> (onesN b k).getD 0 1 = 0:=by
  intro k
  induction k with
  | zero=>intro h; omega
  | succ k ih=>
   intro _ hb
   rw [a4o]
   rcases Nat.eq_zero_or_pos k with h0 | h0
   · subst h0; rw [if_pos hb]; rfl
   · have:=ih h0 hb
     have hne : 0 < (onesN b k).length:=by
      rcases Nat.eq_zero_or_pos (onesN b k).length with e | e
      · rw [List.eq_nil_of_length_eq_zero e] at this; cases this
      · exact e
     split
     · rw [List.getD_eq_getElem?_getD,List.getElem?_append_left hne,<- List.getD_eq_getElem?_getD]; exact this
     · exact this
 constructor
 · intro h
   have hne : 0 < (onesN b 256).length:=by
    rcases Nat.eq_zero_or_pos (onesN b 256).length with e | e
    · rw [List.eq_nil_of_length_eq_zero e] at h; cases h
    · exact e
   have hm : (onesN b 256).getD 0 1 ∈ onesN b 256:=by
    rw [List.getD_eq_getElem?_getD,List.getElem?_eq_getElem hne]; exact List.getElem_mem hne
   rw [h] at hm
   obtain ⟨c,e,_,h3⟩:=a7H hm
   obtain rfl : c = 0:=by omega
   exact h3
 · exact h1 256 (by decide)
set_option maxRecDepth 100000 in
set_option maxHeartbeats 1000000 in
theorem c9r (A : Option Addr) (cp : Nat) (b : List Int) (w : World) (hr : (Kd.int .u8).C w A b.length b) (hb : Bytes b) (hl2 : b.length <= 1000000) :
    Calls Tryz.prog 71 #[.slice A b.length cp] w (a2r b w):=by
 by_cases hl : b.length < 32
 · have e : dirT b = (3,[]):=by unfold dirT; rw [if_pos hl]
   have HE:=Lib.hid e
   have d1 : decide ((b.length : Int) < 32) = true:=decide_eq_true (by omega)
   clear hr hb e
   go_enter Tryz.func71,Tryz.ntmps71
   go_wp2_with fail
   go_ret2
   unfold a2r
   rw [HE.out]
   exact ⟨_,rfl,Kd.R_nil _ _ _ _ _,Below.refl _ _⟩
 · have d1 : decide ((b.length : Int) < 32) = false:=decide_eq_false (by omega)
   have HH:=Lib.hid (λ (W : World) (h : Below w.heap.size w W) (c : Nat) (hc : c < 256)=>c9p A cp b c W (Kd.C_below hr h) hb (by omega) hl2 hc)
   have HZ:=Lib.hid (HH.out w (Below.refl _ _) 0 (by decide))
   have HO:=Lib.hid (c9q b)
   have HL:=Lib.hid hl
   by_cases h0 : bitI b 0 = 1
   · have HE:=Lib.hid (b6P (show 32 <= b.length by omega) (HO.out.2 h0))
     rw [decide_eq_true h0] at HZ
     clear hr hb hl h0
     go_enter Tryz.func71,Tryz.ntmps71
     go_wp2_with fail
     refine HZ.out.mono ?_
     rintro e w1 ⟨rfl,rfl⟩
     go_wp2_with fail
     go_loopw [5,6] (λ v kv wr=>∃ i : Nat,i <= 256 /\ kv = .int .i64 i /\ Hid ((Kd.int .i64).R 3 wr w.heap.size (λ _=>True) v (onesN b i) /\ Below w.heap.size w wr)) (λ _ kv _=>256 - (intOf kv).toNat)
     case atStart=>exact ⟨0,by omega,rfl,Lib.hid ⟨Kd.R_nil _ _ _ _ _,Below.refl _ _⟩⟩
     case round=>
      obtain ⟨i,hi,rfl,H⟩:=hrel
      by_cases hlt : i < 256
      · have hI : (i : Int) < 256:=by omega
        have HHas:=Lib.hid (HH.out wr H.out.2 i hlt)
        have hs:=a4o b i
        have hll:=a7G b i
        obtain ⟨Av,cv,rfl⟩:=Kd.R_slice H.out.1
        obtain ⟨L,hL⟩ : ∃ L,L = onesN b i:=⟨_,rfl⟩
        rw [<- hL] at H hs hll ⊢
        have HLn : Hid ((L.length + 1) * 8 <= 140737488355328):=Lib.hid (by omega)
        by_cases hx : bitI b i = 1
        · rw [decide_eq_true hx] at HHas
          rw [if_pos hx] at hs
          have HS:=Lib.hid hs
          clear hs hx hL hll
          go_wp2_with fail
          refine HHas.out.mono ?_
          rintro e w2 ⟨rfl,rfl⟩
          go_wp2_with (at_builtin; refine a6x .i64 (w0:=w) (W:=wr) rfl (.tmp 23) (.tmp 25) 84 3 8 rfl Tryz.underlying84 a4c (by decide) _ _ _ rfl rfl H.out.1 H.out.2 HLn.out ?_; intro v1 w3 hr3 hb3 hg3 hat3; have HA:=Lib.hid (And.intro hr3 hb3); clear hr3 hb3 hg3 hat3)
          go_roundw
          case rel=>exact ⟨i + 1,by omega,by go_num,Lib.hid (by rw [HS.out]; exact HA.out)⟩
          case measure=>simp [intOf]; omega
        · rw [decide_eq_false hx] at HHas
          rw [if_neg hx] at hs
          have HS:=Lib.hid hs
          clear hs hx hL hll
          go_wp2_with fail
          refine HHas.out.mono ?_
          rintro e w2 ⟨rfl,rfl⟩
          go_wp2_with fail
          go_roundw
          case rel=>exact ⟨i + 1,by omega,by go_num,Lib.hid (by rw [HS.out]; exact H.out)⟩
          case measure=>simp [intOf]; omega
      · obtain rfl : i = 256:=by omega
        go_wp2_with fail
        go_ret2
        unfold a2r
        rw [HE.out]
        exact ⟨_,rfl,H.out.1,H.out.2⟩
   · have HE:=Lib.hid (b0F (show 32 <= b.length by omega) (λ h=>h0 (HO.out.1 h)))
     rw [decide_eq_false h0] at HZ
     clear hr hb hl h0
     go_enter Tryz.func71,Tryz.ntmps71
     go_wp2_with fail
     refine HZ.out.mono ?_
     rintro e w1 ⟨rfl,rfl⟩
     go_wp2_with fail
     go_ret2
     unfold a2r
     rw [HE.out]
     exact ⟨_,rfl,Kd.R_nil _ _ _ _ _,Below.refl _ _⟩
open Go.Proofs.YtflfjpkmjnnodaaGreat.PRef
def R3P (w : World) (base p : Nat) (ps : List Int) (at_ : Nat) : Prop:=R3At w base p (a0I ps (8 * ps.length)) at_
theorem b7C (base p : Nat) (ps : List Int) (at_ n : Nat) (w : World) (h : R3P w base p ps at_) (hl : ps.length <= 1000000) (ha : at_ <= 8 * ps.length) (hn : n <= 24) :
    Calls Tryz.prog 162 #[.pointer (some ⟨p,0,none⟩),.int .i64 n] w (λ e w'=>(at_ + n <= 8 * ps.length -> e = .returned (.tuple #[.int .u32 (takeF ps at_ n),.bool true]) /\ R3P w' base p ps (at_ + n)) /\ (¬ at_ + n <= 8 * ps.length -> e = .returned (.tuple #[.int .u32 0,.bool false]) /\ R3P w' base p ps at_) /\ Only (λ k=>k = p) w w'):=by
 refine (c9m base p _ at_ n w h (by rw [a1z]; omega) (by rw [a1z]; omega) hn).mono ?_
 rintro e w' ⟨h1,h2,h3⟩
 rw [a1z] at h1 h2
 refine ⟨λ hle=>?_,h2,h3⟩
 rw [<- b7t ps hle]
 exact h1 hle
def b7D (base p : Nat) (ps : List Int) (at_ left : Nat) (w : World) (e : Ending) (w' : World) : Prop:=
 (¬ at_ + Lib.bitLen left <= 8 * ps.length -> e = .returned (.tuple #[.int .i64 0,.int .i64 3])) /\
 (at_ + Lib.bitLen left <= 8 * ps.length -> left < takeF ps at_ (Lib.bitLen left) -> e = .returned (.tuple #[.int .i64 0,.int .i64 13])) /\
 (at_ + Lib.bitLen left <= 8 * ps.length -> ¬ left < takeF ps at_ (Lib.bitLen left) -> e = .returned (.tuple #[.int .i64 (takeF ps at_ (Lib.bitLen left)),.int .i64 0]) /\ R3P w' base p ps (at_ + Lib.bitLen left)) /\ Only (λ k=>k = p) w w'
set_option maxRecDepth 100000 in
set_option maxHeartbeats 1000000 in
theorem c9s (base p : Nat) (ps : List Int) (at_ left : Nat) (w : World) (h : R3P w base p ps at_) (hl : ps.length <= 1000000) (ha : at_ <= 8 * ps.length) (h1 : 1 <= left) (h2 : left <= 4096) :
    Calls Tryz.prog 112 #[.pointer (some ⟨p,0,none⟩),.int .i64 left] w (b7D base p ps at_ left w):=by
 have hbl : Lib.bitLen left <= 24:=by
  have:=Lib.bitLen_le left 13 (by omega) (by omega)
  omega
 have HT:=Lib.hid (b7C base p ps at_ (Lib.bitLen left) w h hl ha hbl)
 have hvl:=a5I ps at_ (Lib.bitLen left)
 have HW:=Lib.hid (b5n left w h2)
 have hv2 : 2 ^ Lib.bitLen left <= 2 ^ 24:=Nat.pow_le_pow_right (by decide) hbl
 unfold b7D
 obtain ⟨b,hb⟩ : ∃ b,b = Lib.bitLen left:=⟨_,rfl⟩
 rw [<- hb] at HT hvl HW hv2 hbl ⊢
 obtain ⟨V,hV⟩ : ∃ V,V = takeF ps at_ b:=⟨_,rfl⟩
 rw [<- hV] at HT hvl ⊢
 have hV8 : V < 16777216:=by omega
 have hVw : IntKind.i64.wrap (V : Int) = (V : Int):=i64_in _ (by omega)
 have a1 : decide ((left : Int) < 1) = false:=decide_eq_false (by omega)
 have a2 : decide ((4096 : Int) < (left : Int)) = false:=decide_eq_false (by omega)
 clear h hl ha hb hV hvl hv2
 go_enter Tryz.func112,Tryz.ntmps112
 go_wp2_with fail
 refine HW.out.mono ?_
 rintro e w1 ⟨rfl,rfl⟩
 go_wp2_with fail
 refine HT.out.mono ?_
 rintro e w2 ⟨t1,t2,t3⟩
 by_cases hle : at_ + b <= 8 * ps.length
 · obtain ⟨rfl,hr⟩:=t1 hle
   have HR:=Lib.hid (And.intro hr (And.intro t3 hle))
   clear t1 t2 t3 hr hle
   by_cases hc : left < V
   · have d : decide (left < V) = true:=decide_eq_true hc
     have dI : decide ((left : Int) < (V : Int)) = true:=decide_eq_true (by omega)
     go_wp2_with fail
     go_ret2
     exact ⟨λ h=>absurd HR.out.2.2 h,λ _ _=>rfl,λ _ h=>absurd hc h,HR.out.2.1⟩
   · have d : decide (left < V) = false:=decide_eq_false hc
     have dI : decide ((left : Int) < (V : Int)) = false:=decide_eq_false (by omega)
     go_wp2_with fail
     go_ret2
     exact ⟨λ h=>absurd HR.out.2.2 h,λ _ h=>absurd h hc,λ _ _=>⟨rfl,HR.out.1⟩,HR.out.2.1⟩
 · obtain ⟨rfl,hr⟩:=t2 hle
   have HR:=Lib.hid (And.intro t3 hle)
   clear t1 t2 t3 hr hle
   go_wp2_with fail
   go_ret2
   exact ⟨λ _=>rfl,λ h=>absurd h HR.out.2,λ h=>absurd h HR.out.2,HR.out.1⟩
def b0U (base p : Nat) (ps : List Int) (at_ most : Nat) (w : World) (e : Ending) (w' : World) : Prop:=
 ((runT ps (8 * ps.length) 100 at_ 0 most).1 = 0 -> e = .returned (.tuple #[.int .i64 ((runT ps (8 * ps.length) 100 at_ 0 most).2.1 : Nat),.int .i64 0]) /\ R3P w' base p ps (runT ps (8 * ps.length) 100 at_ 0 most).2.2) /\
 ((runT ps (8 * ps.length) 100 at_ 0 most).1 ≠ 0 -> e = .returned (.tuple #[.int .i64 0,.int .i64 (runT ps (8 * ps.length) 100 at_ 0 most).1])) /\ Only (λ k=>k = p) w w'
set_option maxRecDepth 100000 in
set_option maxHeartbeats 1000000 in
theorem c9t (base p : Nat) (ps : List Int) (at_ most : Nat) (w : World) (h : R3P w base p ps at_) (hl : ps.length <= 1000000) (ha : at_ <= 8 * ps.length) (hm : most <= 255) :
    Calls Tryz.prog 113 #[.pointer (some ⟨p,0,none⟩),.int .i64 most] w (b0U base p ps at_ most w):=by
 obtain ⟨R,hR⟩ : ∃ R,R = runT ps (8 * ps.length) 100 at_ 0 most:=⟨_,rfl⟩
 unfold b0U
 rw [<- hR]
 have HP:=Lib.hid (And.intro hl ha)
 have HI : Hid (∃ f at',R3P w base p ps at' /\ at' <= 8 * ps.length /\ runT ps (8 * ps.length) f at' 0 most = R /\ 300 <= 3 * f + 0 /\ Only (λ k=>k = p) w w):=⟨100,at_,h,ha,hR.symm,by omega,Only.refl _ _⟩
 have a1 : decide ((most : Int) < 0) = false:=decide_eq_false (by omega)
 have a2 : decide ((255 : Int) < (most : Int)) = false:=decide_eq_false (by omega)
 clear h hl ha hR
 go_enter Tryz.func113,Tryz.ntmps113
 go_wp2_with fail
 go_loopw [6] (λ nv wr=>∃ m : Nat,nv = .int .i64 m /\ m <= most /\ Hid (∃ f at',R3P wr base p ps at' /\ at' <= 8 * ps.length /\ runT ps (8 * ps.length) f at' m most = R /\ 300 <= 3 * f + m /\ Only (λ k=>k = p) w wr)) (λ nv _=>600 - (intOf nv).toNat)
 case atStart=>exact ⟨0,rfl,by omega,HI⟩
 case round=>
  obtain ⟨m,rfl,hmm,H⟩:=hrel
  obtain ⟨f,at',h1,h2,h3,h4,h5⟩:=H.out
  obtain ⟨f,rfl⟩ : ∃ g,f = g + 1:=⟨f - 1,by omega⟩
  have HT:=Lib.hid (b7C base p ps at' 2 wr h1 HP.out.1 h2 (by decide))
  simp only [runT] at h3
  have HH:=Lib.hid (And.intro h3 (And.intro h4 h5))
  clear h1 h2 h3 h4 h5 H
  go_wp2_with fail
  refine HT.out.mono ?_
  rintro e w1 ⟨t1,t2,t3⟩
  have HO : Hid (Only (λ k=>k = p) w w1):=HH.out.2.2.trans t3
  by_cases hle : at' + 2 <= 8 * ps.length
  · obtain ⟨rfl,hr⟩:=t1 hle
    have H1:=Lib.hid hr
    have HLE:=Lib.hid hle
    have hvl:=a5I ps at' 2
    obtain ⟨V,hV⟩ : ∃ V,V = takeF ps at' 2:=⟨_,rfl⟩
    have hR:=HH.out.1
    rw [if_neg (by omega)] at hR
    rw [<- hV] at hvl hR ⊢
    have HR:=Lib.hid hR
    clear t1 t2 t3 hr hle hV hR
    have hV4 : V = 0 \/ V = 1 \/ V = 2 \/ V = 3:=by omega
    by_cases hmo : most < m + V
    · have HRE : Hid (R = (13,0,0)):=by have:=HR.out; rw [if_pos hmo] at this; exact this.symm
      rcases hV4 with rfl | rfl | rfl | rfl
      · exfalso; omega
      all_goals
       go_wp2_with fail
       go_ret2
       exact ⟨λ h=>by rw [HRE.out] at h; exact absurd h (by decide),λ _=>(by rw [HRE.out]; rfl),HO.out⟩
    · by_cases h3 : V = 3
      · have HRE : Hid (runT ps (8 * ps.length) f (at' + 2) (m + 3) most = R):=by have:=HR.out; rw [if_neg hmo,if_pos h3] at this; exact this
        subst h3
        go_wp2_with fail
        go_roundw
        case rel=>exact ⟨m + 3,by go_num,by omega,Lib.hid ⟨f,at' + 2,H1.out,HLE.out,HRE.out,by have:=HH.out.2.1; omega,HO.out⟩⟩
        case measure=>simp [intOf]; omega
      · have HRE : Hid (R = (0,m + V,at' + 2)):=by have:=HR.out; rw [if_neg hmo,if_neg h3] at this; exact this.symm
        have hV3 : V = 0 \/ V = 1 \/ V = 2:=by omega
        rcases hV3 with rfl | rfl | rfl
        all_goals
         go_wp2_with fail
         go_ret2
         exact ⟨λ _=>by rw [HRE.out]; exact ⟨rfl,H1.out⟩,λ h=>absurd (by rw [HRE.out]) h,HO.out⟩
  · obtain ⟨rfl,hr⟩:=t2 hle
    have HRE : Hid (R = (3,0,0)):=by have:=HH.out.1; rw [if_pos (by omega)] at this; exact this.symm
    clear t1 t2 t3 hr hle
    go_wp2_with fail
    go_ret2
    exact ⟨λ h=>by rw [HRE.out] at h; exact absurd h (by decide),λ _=>(by rw [HRE.out]; rfl),HO.out⟩
structure R15Rel (base p g : Nat) (ps : List Int) (H : Int × List Int × Nat) (w : World) (left s : Nat) (again : Bool) (q : List Int) (at_ d : Nat) (wr : World) : Prop where
 rd : R3P wr base p ps at_
 row : (Kd.int .i64).R 3 wr w.heap.size (λ _=>True) (.slice (some ⟨g,0,none⟩) 256 256) q
 ql : q.length = 256
 at_le : at_ <= 8 * ps.length
 eq : hdrT ps (8 * ps.length) d q s left again at_ = H
 fuel : 257 <= s + d
 only : Only (λ k=>k = p) w wr
 gt : p < g /\ w.heap.size <= g
def c9u (base p : Nat) (ps : List Int) (H : Int × List Int × Nat) (w : World) (e : Ending) (w' : World) : Prop:=
 (H.1 = 0 -> ∃ A c,e = .returned (.tuple #[.slice A 256 c,.int .i64 0]) /\ (Kd.int .i64).R 3 w' w.heap.size (λ _=>True) (.slice A 256 c) H.2.1 /\ H.2.1.length = 256 /\ R3P w' base p ps H.2.2) /\
 (H.1 ≠ 0 -> e = .returned (.tuple #[.slice none 0 0,.int .i64 H.1])) /\ Only (λ k=>k = p) w w'
theorem R15Rel.put {base p g : Nat} {ps : List Int} {H : Int × List Int × Nat} {w wr w1 : World} {left s : Nat} {again : Bool} {q : List Int} {at_ d : Nat} (h : R15Rel base p g ps H w left s again q at_ d wr) {at2 : Nat} (hr : R3P w1 base p ps at2) (ho : Only (λ k=>k = p) wr w1) (x : Int) :
    R3P (w1.setCell ⟨g,s,none⟩ (.int .i64 x)) base p ps at2 /\ (Kd.int .i64).R 3 (w1.setCell ⟨g,s,none⟩ (.int .i64 x)) w.heap.size (λ _=>True) (.slice (some ⟨g,0,none⟩) 256 256) (q.set s x) /\ Only (λ k=>k = p) w (w1.setCell ⟨g,s,none⟩ (.int .i64 x)) /\
     (Kd.int .i64).R 3 w1 w.heap.size (λ _=>True) (.slice (some ⟨g,0,none⟩) 256 256) q:=by
 have hgp:=h.gt
 have h1 : (Kd.int .i64).R 3 w1 w.heap.size (λ _=>True) (.slice (some ⟨g,0,none⟩) 256 256) q:=a2E rfl h.row ho (λ k hk e=>by
  have : g = k:=by simpa [Value.ownBlock] using hk
  omega)
 have h2:=Kd.R_putn h1 (s : Int) x
 rw [Int.toNat_natCast] at h2
 refine ⟨hr.far hgp.1 s _,h2,?_,h1⟩
 have h3:=h.only.trans ho
 exact ⟨h3.os,h3.tape,h3.output,by simp; exact h3.size,λ k hk hs=>by rw [Below.heap_setCell _ _ _ _ (by show k ≠ g; omega)]; exact h3.block k hk hs⟩
set_option maxRecDepth 100000 in
set_option maxHeartbeats 4000000 in
theorem b7E (base p : Nat) (ps : List Int) (at_ log : Nat) (w : World) (h : R3P w base p ps at_) (hl : ps.length <= 1000000) (ha : at_ <= 8 * ps.length) (h1 : 1 <= log) (h2 : log <= 12) (hp : p < w.heap.size) :
    Calls Tryz.prog 73 #[.pointer (some ⟨p,0,none⟩),.int .i64 log] w (c9u base p ps (hdrT ps (8 * ps.length) 257 zeros256 0 (2 ^ log) false at_) w):=by
 obtain ⟨H,hH⟩ : ∃ H,H = hdrT ps (8 * ps.length) 257 zeros256 0 (2 ^ log) false at_:=⟨_,rfl⟩
 rw [<- hH]
 obtain ⟨W,hW⟩ : ∃ W,W = w.alloc (.cells (madeCells #[.int .i64 0] 256) 3):=⟨_,rfl⟩
 have HI : Hid (R15Rel base p w.heap.size ps H w (2 ^ log) 0 false zeros256 at_ 257 W):=by
  refine ⟨?_,?_,by unfold zeros256; exact List.length_replicate,ha,hH.symm,by omega,?_,hp,Nat.le_refl _⟩
  · rw [hW]; exact h.below ((Below.refl _ _).alloc (Nat.le_refl _) _)
  · rw [hW]; exact a7K 256 3 w _ trivial _ (Nat.le_refl _) (by omega)
  · rw [hW]; exact (Only.refl _ _).alloc _
 have hmi : ∀ w : World,(Instr.makeSlice 84 (.int .i64 256) (.int .i64 256)).run Tryz.prog w = .ok (.slice (some ⟨w.heap.size,0,none⟩) 256 256) (w.alloc (.cells (madeCells #[.int .i64 0] 256) 3)):=λ w=>a7q 256 (by omega) w
 have HP:=Lib.hid (And.intro hl ha)
 have hpw : 2 ^ log <= 2 ^ 12:=Nat.pow_le_pow_right (by decide) h2
 obtain ⟨left0,hleft0⟩ : ∃ l,l = 2 ^ log:=⟨_,rfl⟩
 rw [<- hleft0] at HI hpw
 have hleft : left0 <= 4096:=hpw
 have hshl : ((2 : Int) ^ log) = (left0 : Int):=by rw [hleft0]; simp
 have hshl2 : IntKind.i64.wrap (left0 : Int) = (left0 : Int):=i64_in _ (by omega)
 have a1 : decide ((log : Int) < 1) = false:=decide_eq_false (by omega)
 have a2 : decide ((12 : Int) < (log : Int)) = false:=decide_eq_false (by omega)
 have a3 : ¬ (log : Int) < 0:=by omega
 clear h hl ha hH hleft0 hpw
 go_enter Tryz.func73,Tryz.ntmps73
 go_wp2_with fail
 rw [<- hW]
 obtain ⟨g,hg⟩ : ∃ g,g = w.heap.size:=⟨_,rfl⟩
 rw [<- hg] at HI ⊢
 clear hW hg hmi
 go_wp2_with fail
 go_loopw [7,8,9] (λ lv sv av wr=>∃ (left s : Nat) (again : Bool),lv = .int .i64 left /\ av = .bool again /\ sv = .int .i64 s /\ left <= 4096 /\ s <= 256 /\ Hid (∃ q at' d,R15Rel base p g ps H w left s again q at' d wr)) (λ _ sv _ _=>257 - (intOf sv).toNat)
 case atStart=>exact ⟨left0,0,false,rfl,rfl,rfl,hleft,by omega,zeros256,at_,257,HI⟩
 case round=>
  obtain ⟨left,s,again,rfl,rfl,rfl,hl4,hs,HR⟩:=hrel
  obtain ⟨q,at',d,hr⟩:=HR.out
  obtain ⟨d,rfl⟩ : ∃ d',d = d' + 1:=⟨d - 1,by have:=hr.fuel; omega⟩
  have heq:=hr.eq
  simp only [hdrT] at heq
  have HH:=Lib.hid hr
  clear hr HR
  by_cases h0 : left = 0
  · rw [if_pos h0] at heq
    have HE:=Lib.hid heq
    subst h0
    clear heq
    go_wp2_with fail
    go_ret2
    exact ⟨λ _=>⟨_,_,rfl,by rw [<- HE.out]; exact HH.out.row,by rw [<- HE.out]; exact HH.out.ql,by rw [<- HE.out]; exact HH.out.rd⟩,λ h=>by rw [<- HE.out] at h; exact absurd rfl h,HH.out.only⟩
  · rw [if_neg h0] at heq
    have dl : decide ((0 : Int) < (left : Int)) = true:=decide_eq_true (by omega)
    by_cases h256 : s = 256
    · rw [if_pos h256] at heq
      have HE:=Lib.hid heq
      subst h256
      clear heq
      go_wp2_with fail
      go_ret2
      exact ⟨(λ h=>by rw [<- HE.out] at h; cases h),(λ _=>by rw [<- HE.out]; rfl),HH.out.only⟩
    · rw [if_neg h256] at heq
      have hsb : decide ((255 : Int) < (s : Int)) = false:=decide_eq_false (by omega)
      have hs256 : (s : Int) < 256:=by omega
      have HEQ:=Lib.hid heq
      have HT:=Lib.hid (c9s base p ps at' left wr HH.out.rd HP.out.1 HH.out.at_le (by omega) hl4)
      clear heq
      go_wp2_with fail
      refine HT.out.mono ?_
      rintro e w1 ⟨t1,t2,t3,t4⟩
      have HO:=Lib.hid t4
      by_cases hT : 8 * ps.length < at' + Lib.bitLen left
      · obtain rfl:=t1 (by omega)
        have HE : Hid ((3,q,0) = H):=by have:=HEQ.out; rw [if_pos hT] at this; exact this
        clear t1 t2 t3 t4
        go_wp2_with fail
        go_ret2
        exact ⟨(λ h=>by rw [<- HE.out] at h; cases h),(λ _=>by rw [<- HE.out]; rfl),HH.out.only.trans HO.out⟩
      · have hT' : at' + Lib.bitLen left <= 8 * ps.length:=by omega
        by_cases hV : left < takeF ps at' (Lib.bitLen left)
        · obtain rfl:=t2 hT' hV
          have HE : Hid ((13,q,0) = H):=by have:=HEQ.out; rw [if_neg hT,if_pos hV] at this; exact this
          clear t1 t2 t3 t4 hT hT' hV
          go_wp2_with fail
          go_ret2
          exact ⟨(λ h=>by rw [<- HE.out] at h; cases h),(λ _=>by rw [<- HE.out]; rfl),HH.out.only.trans HO.out⟩
        · obtain ⟨rfl,hrd⟩:=t3 hT' hV
          obtain ⟨V,hVe⟩ : ∃ V,V = takeF ps at' (Lib.bitLen left):=⟨_,rfl⟩
          have hq3:=HEQ.out
          rw [if_neg hT,if_neg hV] at hq3
          rw [<- hVe] at hq3 hV ⊢
          have hVl : V <= left:=by omega
          have HPut:=Lib.hid (HH.out.put hrd HO.out (V : Int))
          obtain ⟨hcl,hfz⟩:=a1D HPut.out.2.2.2 s (by omega)
          have HQ3:=Lib.hid hq3
          have HT2:=Lib.hid hT'
          obtain ⟨at2,hat2⟩ : ∃ a,a = at' + Lib.bitLen left:=⟨_,rfl⟩
          rw [<- hat2] at HPut HQ3 HT2
          clear t1 t2 t3 t4 hT hT' hV hVe hq3 hrd hat2
          by_cases hV0 : V = 0
          · subst hV0
            cases again with
            | true=>
             have HE : Hid ((13,q,0) = H):=by have:=HQ3.out; rw [if_pos ⟨rfl,rfl⟩] at this; exact this
             go_wp2_with fail
             go_ret2
             exact ⟨(λ h=>by rw [<- HE.out] at h; cases h),(λ _=>by rw [<- HE.out]; rfl),HH.out.only.trans HO.out⟩
            | false=>
             by_cases hs1 : s + 1 = 256
             · have HE : Hid ((13,q,0) = H):=by have:=HQ3.out; rw [if_neg (λ h=>by cases h.1),if_pos rfl,if_pos hs1] at this; exact this
               have hsb1 : decide ((255 : Int) < (s : Int) + 1) = true:=decide_eq_true (by omega)
               go_wp2_with fail
               go_ret2
               exact ⟨(λ h=>by rw [<- HE.out] at h; cases h),(λ _=>by rw [<- HE.out]; rfl),HPut.out.2.2.1⟩
             · have hsb1 : decide ((255 : Int) < (s : Int) + 1) = false:=decide_eq_false (by omega)
               have hq4:=HQ3.out
               rw [if_neg (λ h=>by cases h.1),if_pos rfl,if_neg hs1] at hq4
               have HQ4:=Lib.hid hq4
               have hmost : (255 : Int) - ((s : Int) + 1) = ((254 - s : Nat) : Int):=by omega
               clear hq4
               go_wp2_with fail
               obtain ⟨R,hR⟩ : ∃ R,R = runT ps (8 * ps.length) 100 at2 0 (254 - s):=⟨_,rfl⟩
               have hRle : R.1 = 0 -> R.2.1 <= 254 - s:=λ h=>by rw [hR] at h ⊢; exact b5u _ _ _ _ h
               have hRend : R.1 = 0 -> R.2.2 <= 8 * ps.length:=λ h=>by rw [hR] at h ⊢; exact a9O _ _ _ _ h
               have hrt:=c9t base p ps at2 (254 - s) _ HPut.out.1 HP.out.1 HT2.out (by omega)
               unfold b0U at hrt
               rw [<- hR] at hrt HQ4
               have HRE:=Lib.hid (And.intro hRle hRend)
               clear hR hRle hRend
               refine hrt.mono ?_
               rintro e w2 ⟨r1,r2,r3⟩
               have HO2 : Hid (Only (λ k=>k = p) w w2):=HPut.out.2.2.1.trans r3
               by_cases hr1 : R.1 = 0
               · obtain ⟨rfl,hrd2⟩:=r1 hr1
                 have hle:=HRE.out.1 hr1
                 have hq5:=HQ4.out
                 rw [if_neg (λ h=>h hr1)] at hq5
                 have HNew : Hid (∃ q at' d,R15Rel base p g ps H w left (s + 1 + R.2.1) true q at' d w2):=by
                  refine ⟨q.set s 0,R.2.2,d,hrd2,?_,by simp [HH.out.ql],HRE.out.2 hr1,hq5,by have:=HH.out.fuel; omega,HO2.out,HH.out.gt⟩
                  exact a2E rfl HPut.out.2.1 r3 (λ k hk e=>by
                   have : g = k:=by simpa [Value.ownBlock] using hk
                   have:=HH.out.gt
                   omega)
                 obtain ⟨rn,hrn⟩ : ∃ rn,rn = R.2.1:=⟨_,rfl⟩
                 rw [<- hrn] at hle HNew ⊢
                 clear r1 r2 r3 hrd2 hq5 hrt hrn
                 go_wp2_with fail
                 go_roundw
                 case rel=>exact ⟨left,s + 1 + rn,true,by first | rfl | (congr 1; omega),rfl,by go_num,hl4,by omega,HNew⟩
                 case measure=>simp [intOf]; omega
               · obtain rfl:=r2 hr1
                 have HE : Hid ((R.1,q,0) = H):=by have:=HQ4.out; rw [if_pos hr1] at this; exact this
                 obtain ⟨rc,hrc⟩ : ∃ rc,rc = R.1:=⟨_,rfl⟩
                 rw [<- hrc] at HE hr1 ⊢
                 have hrcb : (rc != 0) = true:=by simpa using hr1
                 clear r1 r2 r3 hrt hrc
                 go_wp2_with fail
                 go_ret2
                 exact ⟨(λ h=>by rw [<- HE.out] at h; exact absurd h hr1),(λ _=>by rw [<- HE.out]; rfl),HO2.out⟩
          · have hvb : ((V : Int) == 0) = false:=beq_eq_false_iff_ne.2 (by omega)
            have hq4:=HQ3.out
            rw [if_neg (λ h=>hV0 h.2),if_neg hV0] at hq4
            have HNew : Hid (∃ q at' d,R15Rel base p g ps H w (left - V) (s + 1) false q at' d (w1.setCell ⟨g,s,none⟩ (.int .i64 (V : Int)))):=
             ⟨q.set s (V : Int),at2,d,HPut.out.1,HPut.out.2.1,by simp [HH.out.ql],HT2.out,hq4,by have:=HH.out.fuel; omega,HPut.out.2.2.1,HH.out.gt⟩
            have hls : (left : Int) - (V : Int) = ((left - V : Nat) : Int):=by omega
            clear hq4
            go_wp2_with fail
            go_roundw
            case rel=>exact ⟨left - V,s + 1,false,by first | rfl | (congr 1; omega),rfl,by go_num,by omega,by omega,HNew⟩
            case measure=>simp [intOf]; omega
end Go.Proofs.YtflfjpkmjnnodaaGreat
namespace Go.Proofs.YtflfjpkmjnnodaaGreat
open Go.RowKit Go.Proofs.YtflfjpkmjnnodaaGreat.PRef Go.Proofs.YtflfjpkmjnnodaaGreatW.PrintWords Go.Proofs.YtflfjpkmjnnodaaGreatW.PrintLast Go.Proofs.YtflfjpkmjnnodaaGreatW.PrintMore
def cellS (x : K3) : S170:=⟨x.1,x.2.1,x.2.2⟩
def symAt (q : List Int) (P : Nat) : Nat:=((symsL q).getD P 0).toNat
def outT (q : List Int) (s i : Nat) : List S170:=(List.range (2 ^ logC q)).map (λ P=>if symAt q P < s \/ (symAt q P = s /\ a0u q P < i) then cellS (a0Q q P) else z170)
theorem a2J (q : List Int) (s i : Nat) : (outT q s i).length = 2 ^ logC q:=by simp [outT]
theorem a5h (q : List Int) (s i P : Nat) (h : P < (outT q s i).length) : (outT q s i)[P] = if symAt q P < s \/ (symAt q P = s /\ a0u q P < i) then cellS (a0Q q P) else z170:=by simp [outT]
theorem c9y {q : List Int} (hl : logC q ≠ 0) {s i : Nat} (h1 : cntC q s <= i) (h2 : i < 2 * cntC q s) : ∃ P : Nat,(a1h q s).getD (i - cntC q s) 0 = P /\ P < 2 ^ logC q /\ (symsL q).getD P 0 = s /\ a0u q P = i /\ (∀ P',P' < 2 ^ logC q -> symAt q P' = s -> a0u q P' = i -> P' = P):=by
 have hq:=a1v hl
 have hlen : (posN (symsL q) s (symsL q).length).length = cntC q s:=rfl
 obtain ⟨P,e1,e2,e3,e4⟩:=b4c (l:=symsL q) (s:=s) (k:=i - cntC q s) (by omega)
 rw [a1N hl] at e2
 have hg:=a6Z hl e2
 have hgr : ∀ P',P' < 2 ^ logC q -> (symsL q).getD P' 0 = s -> a0u q P' = cntC q s + (posN (symsL q) s P').length:=λ P' _ h=>by
  unfold a0u; rw [h]; simp only [Int.toNat_natCast]; rw [a1O hq]
 refine ⟨P,e1,e2,by rw [hg.1,e3],by rw [hgr P e2 (by rw [hg.1,e3]),e4]; omega,λ P' hP' hs' hg'=>?_⟩
 have hg2:=a6Z hl hP'
 have hs2 : (symsL q).getD P' 0 = s:=by unfold symAt at hs'; omega
 have h3:=hgr P' hP' hs2
 have h4:=b4b (l:=symsL q) (s:=s) (P:=P') (by rw [a1N hl]; exact hP') (by rw [<- hg2.1]; exact hs2)
 rw [show (posN (symsL q) s P').length = i - cntC q s by omega] at h4
 have h5 : ((P' : Nat) : Int) = P:=by rw [<- h4]; exact e1
 omega
theorem c9z {q : List Int} {s i P : Nat} (hs : (symsL q).getD P 0 = s) (hg : a0u q P = i) (hu : ∀ P',P' < 2 ^ logC q -> symAt q P' = s -> a0u q P' = i -> P' = P) : (outT q s i).set P (cellS (a0Q q P)) = outT q s (i + 1):=by
 refine List.ext_getElem (by rw [List.length_set,a2J,a2J]) λ k h1 h2=>?_
 rw [List.getElem_set,a5h,a5h]
 rw [List.length_set,a2J] at h1
 by_cases h : P = k
 · subst h
   rw [if_pos rfl,if_pos (.inr ⟨by unfold symAt; omega,by omega⟩)]
 · rw [if_neg h]
   by_cases h3 : symAt q k < s \/ (symAt q k = s /\ a0u q k < i)
   · rw [if_pos h3,if_pos (by omega)]
   · rw [if_neg h3,if_neg (λ h4=>by
       rcases h4 with h4 | h4
       · exact h3 (.inl h4)
       · by_cases h5 : a0u q k = i
         · exact h (hu k h1 h4.1 h5).symm
         · exact h3 (.inr ⟨h4.1,by omega⟩))]
theorem c9A {q : List Int} (hl : logC q ≠ 0) (s : Nat) : outT q s (2 * cntC q s) = outT q (s + 1) (cntC q (s + 1 : Nat)):=by
 have hq:=a1v hl
 refine List.ext_getElem (by rw [a2J,a2J]) λ k h1 h2=>?_
 rw [a5h,a5h]
 rw [a2J] at h1
 have hk : k < (symsL q).length:=by rw [a1N hl]; exact h1
 have hg:=b3r hq k hk
 have hs:=a3F hq k hk
 have hge : (q.getD ((symsL q).getD k 0).toNat 0).toNat <= a0u q k:=by unfold a0u; omega
 have e : ∀ t : Nat,symAt q k = t -> (q.getD ((symsL q).getD k 0).toNat 0).toNat = cntC q t:=λ t ht=>by
  rw [a1O hq]; unfold symAt at ht; rw [ht]
 by_cases h3 : symAt q k < s
 · rw [if_pos (.inl h3),if_pos (.inl (by omega))]
 · by_cases h4 : symAt q k = s
   · rw [if_pos (.inr ⟨h4,by rw [<- e s h4]; exact hg.2⟩),if_pos (.inl (by omega))]
   · rw [if_neg (by omega),if_neg (λ h5=>by
       rcases h5 with h5 | h5
       · omega
       · have:=e (s + 1) h5.1
         have h6:=h5.2
         omega)]
theorem c9B {q : List Int} (hl : logC q ≠ 0) : ∀ (d s : Nat),s + d = 256 -> ∀ (r i : Nat),cntC q s <= i -> i + r = 2 * cntC q s -> s < 256 -> Ev (λ k=>puncheonref11_Of.l1 k q ((logC q : Nat) : Int) ((2 ^ logC q : Nat) : Int) (outT q s i) (s : Int) (i : Int)) ((a0S q).map cellS,0):=by
 have hq:=a1v hl
 have hlen:=hq.len
 have hr12 : logC q <= 12:=a1J _
 have hp12 : 2 ^ logC q <= 2 ^ 12:=Nat.pow_le_pow_right (by omega) hr12
 have hcnt : ∀ s : Nat,s < 256 -> q.getD s 0 = (cntC q s : Int) /\ cntC q s <= 4096:=λ s _=>by
  have h1:=a1O hq s; have h2:=(hq.get s).1; have h3:=a4D hl s; omega
 intro d
 induction d with
 | zero=>intro s h1 r i _ _ h; omega
 | succ d ihd=>
  intro s hs r
  induction r with
  | zero=>
   intro i h1 h2 h3
   obtain ⟨hc,hc2⟩:=hcnt s h3
   have c1 : (0 : Int) <= s:=by omega
   have c2 : (s : Int) < (q.length : Int):=by omega
   have e0 : ¬ (i : Int) < wrap64 (2 * (cntC q s : Int)):=by rw [w64 (by omega)]; omega
   refine Ev.step (λ k=>(show puncheonref11_Of.l1 (k + 1) _ _ _ _ _ _ = _ by simp only [puncheonref11_Of.l1]; rw [if_pos c1,if_pos c2,a0C,hc,if_neg e0,wS s (by omega)])) ?_
   rw [show i = 2 * cntC q s by omega,c9A hl]
   by_cases h5 : s + 1 < 256
   · obtain ⟨hd,hd2⟩:=hcnt (s + 1) h5
     refine Ev.step (λ k=>(show puncheonref11_Of.l0 (k + 1) _ _ _ _ _ = _ by simp only [puncheonref11_Of.l0]; rw [if_pos (by omega),if_pos (by omega),if_pos (by omega),a0C,hd])) ?_
     exact ihd (s + 1) (by omega) (cntC q (s + 1 : Nat)) _ (Nat.le_refl _) (by omega) h5
   · refine Ev.step (λ k=>(show puncheonref11_Of.l0 (k + 1) _ _ _ _ _ = _ by simp only [puncheonref11_Of.l0]; rw [if_neg (by omega)])) ?_
     have e : outT q (s + 1) (cntC q (s + 1 : Nat)) = (a0S q).map cellS:=by
      refine List.ext_getElem (by rw [a2J,List.length_map,a3i hl]) λ k g1 g2=>?_
      rw [a5h,List.getElem_map]
      rw [a2J] at g1
      have hk : k < (symsL q).length:=by rw [a1N hl]; exact g1
      have h6:=a3F hq k hk
      rw [if_pos (.inl (by unfold symAt; omega))]
      have h7:=a4F hl k g1
      rw [List.getD_eq_getElem?_getD,List.getElem?_eq_getElem (by rw [a3i hl]; exact g1),Option.getD_some] at h7
      rw [h7]
     rw [e]; exact Ev.now _
  | succ r ih=>
   intro i h1 h2 h3
   obtain ⟨hc,hc2⟩:=hcnt s h3
   obtain ⟨P,p1,p2,p3,p4,p5⟩:=c9y hl (s:=s) (i:=i) h1 (by omega)
   have c1 : (0 : Int) <= s:=by omega
   have c2 : (s : Int) < (q.length : Int):=by omega
   have e0 : (i : Int) < wrap64 (2 * (cntC q s : Int)):=by rw [w64 (by omega)]; omega
   refine Ev.step (λ k=>(show puncheonref11_Of.l1 (k + 1) _ _ _ _ _ _ = _ by simp only [puncheonref11_Of.l1]; rw [if_pos c1,if_pos c2,a0C,hc,if_pos e0])) ?_
   refine Ev.bind (b4F i (by omega)) ?_
   have hP:=b4B hl h3 (i:=i) h1 (by omega)
   rw [p1] at hP
   refine Ev.bind hP ?_
   have hPs : P < (symsL q).length:=by rw [a1N hl]; exact p2
   obtain ⟨g0,g1,g2,g3,g4⟩:=a8T hl P hPs
   rw [p4] at g0 g1 g2 g3 g4
   have ew : wrap64 (((logC q : Nat) : Int) - ((a0n i : Nat) : Int)) = ((logC q - a0n i : Nat) : Int):=by rw [w64 (by omega)]; omega
   have hce:=b3u (q:=q) (k:=P) (x:=s) (y:=i) (r:=logC q) (fl:=a0n i) (b:=logC q - a0n i) p3 p4.symm rfl rfl (by omega) g4 hr12
   have e1 : ((s : Int) % 256) = s:=by omega
   have e2 : wrap64 (wrap64 ((i : Int) * shl .i64 1 ((logC q - a0n i : Nat) : Int)) - ((2 ^ logC q : Nat) : Int)) = (a0Q q P).2.2:=by
    rw [a9p _ (by omega),<- hce]
    have hw : IntKind.i64.wrap (2 ^ logC q) = ((2 ^ logC q : Nat) : Int):=by
     have e : (2 : Int) ^ logC q = ((2 ^ logC q : Nat) : Int):=by simp
     rw [e]; exact Go.IntWalk.i64_in _ (by omega)
    have e : (2 : Int) ^ (logC q - a0n i) = ((2 ^ (logC q - a0n i) : Nat) : Int):=by simp
    simp only []
    rw [hw,e]
    simp only [IntKind.wrap_i64,wrap64]
   have e3 : ((logC q - a0n i : Nat) : Int) = (a0Q q P).2.1:=by rw [<- hce]
   have e4 : (s : Int) = (a0Q q P).1:=by rw [<- hce]
   have hcell : (⟨(s : Int) % 256,wrap64 (((logC q : Nat) : Int) - ((a0n i : Nat) : Int)),wrap64 (wrap64 ((i : Int) * shl .i64 1 (wrap64 (((logC q : Nat) : Int) - ((a0n i : Nat) : Int)))) - ((2 ^ logC q : Nat) : Int))⟩ : S170) = cellS (a0Q q P):=by
    rw [ew,e1,e2,e3,e4]; rfl
   have hg1 : (0 : Int) <= wrap64 (((logC q : Nat) : Int) - ((a0n i : Nat) : Int)):=by rw [ew]; omega
   have hg2 : (0 : Int) <= ((P : Nat) : Int):=by omega
   have hg3 : ((P : Nat) : Int) < ((outT q s i).length : Int):=by rw [a2J]; omega
   have ih':=ih (i + 1) (by omega) (by omega) h3
   rw [<- c9z p3 p4 p5] at ih'
   refine Ev.congr (f:=λ k=>puncheonref11_Of.l1 k q ((logC q : Nat) : Int) ((2 ^ logC q : Nat) : Int) ((outT q s i).set P (cellS (a0Q q P))) (s : Int) ((i + 1 : Nat) : Int)) (λ k=>?_) ih'
   rw [if_pos hg1,if_pos hg2,if_pos hg3,hcell,Int.toNat_natCast,wS i (by omega)]
theorem c9C (q : List Int) : Ev (λ k=>puncheonref11_Of.f k q) (if logC q = 0 then ([],1) else ((a0S q).map cellS,0)):=by
 unfold puncheonref11_Of.f
 refine Ev.bind (a5q q) ?_
 by_cases h : logC q = 0
 · rw [if_pos h]
   refine Ev.congr (f:=λ k=>some ([],1)) (λ k=>?_) (Ev.now _)
   rw [if_pos (by omega)]
 · rw [if_neg h]
   have hr12 : logC q <= 12:=a1J _
   have hp12 : 2 ^ logC q <= 2 ^ 12:=Nat.pow_le_pow_right (by omega) hr12
   have hsh:=a9p (logC q) (by omega)
   have hq:=a1v h
   have hlen:=hq.len
   have e0 : outT q 0 (cntC q (0 : Nat)) = List.replicate (2 ^ logC q) z170:=by
    refine List.ext_getElem (by rw [a2J,List.length_replicate]) λ k h1 h2=>?_
    rw [a5h,List.getElem_replicate]
    rw [a2J] at h1
    have hk : k < (symsL q).length:=by rw [a1N h]; exact h1
    have hge : (q.getD ((symsL q).getD k 0).toNat 0).toNat <= a0u q k:=by unfold a0u; omega
    rw [if_neg (λ h5=>by
     rcases h5 with h5 | h5
     · omega
     · have : (q.getD ((symsL q).getD k 0).toNat 0).toNat = cntC q (0 : Nat):=by rw [a1O hq]; have:=h5.1; unfold symAt at this; rw [this]
       omega)]
   have hc1 : ¬ ((logC q : Nat) : Int) = 0:=by omega
   have hc2 : (0 : Int) <= ((logC q : Nat) : Int):=by omega
   have hc3 : (0 : Int) <= ((2 ^ logC q : Nat) : Int):=Int.natCast_nonneg _
   have hc4 : (((2 ^ logC q : Nat) : Int)).toNat <= 11728124029610:=by omega
   refine Ev.congr (f:=λ k=>puncheonref11_Of.l0 k q ((logC q : Nat) : Int) ((2 ^ logC q : Nat) : Int) (List.replicate (2 ^ logC q) z170) 0) (λ k=>?_) ?_
   · rw [if_neg hc1,if_pos hc2,hsh,if_pos hc3,if_pos hc4,Int.toNat_natCast]
   · have hc0 : q.getD 0 0 = (cntC q (0 : Nat) : Int):=by
       have h1:=a1O hq 0; have h2:=(hq.get 0).1; omega
     have hrd : rd q 0 = (cntC q (0 : Nat) : Int):=hc0
     have hl0 : (0 : Int) < (q.length : Int):=by omega
     refine Ev.step (λ k=>(show puncheonref11_Of.l0 (k + 1) _ _ _ _ _ = _ by simp only [puncheonref11_Of.l0]; rw [if_pos (by omega),if_pos (by omega),if_pos hl0,hrd])) ?_
     rw [<- e0]
     exact c9B h 256 0 (by omega) (cntC q (0 : Nat)) _ (Nat.le_refl _) (by omega) (by omega)
open Go.IntWalk
theorem R_iso {α β : Type} {d : Kd α} {f : β -> α} {e : Nat} {w : World} {base : Nat} {ok : Nat -> Prop} {v : Value} {xs : List β} (h : (Kd.iso d f).R e w base ok v xs) : d.R e w base ok v (xs.map f):=by
 obtain ⟨h0,inner,ho,hr⟩:=h
 refine ⟨h0,inner,by rw [List.length_map]; exact ho,by rw [List.length_map]; exact hr.1,λ j p hj=>?_⟩
 rw [List.getElem?_map] at hj
 obtain ⟨x,hx,rfl⟩:=Option.map_eq_some_iff.1 hj
 exact hr.2 j x hx
def c9D (q : List Int) (w : World) (e : Ending) (w' : World) : Prop:=∃ v,e = .returned (.tuple #[v,.int .i64 (if logC q = 0 then 1 else 0)]) /\ (logC q ≠ 0 -> kc.R 170 w' w.heap.size (λ _=>True) v (a0S q)) /\ Below w.heap.size w w'
theorem c9E (A : Option Addr) (cp : Nat) (q : List Int) (w : World) (hr : (Kd.int .i64).C w A q.length q) (hc : q.length <= cp) : Calls Tryz.prog 124 #[.slice A q.length cp] w (c9D q w):=by
 obtain ⟨k,hk⟩:=(c9C q).rounds
 by_cases h : logC q = 0
 · rw [if_pos h] at hk
   refine (puncheonref11_Of.calls k A cp q _ _ w hr hc hk).mono ?_
   rintro e w' ⟨v,rfl,_,hb⟩
   exact ⟨v,by rw [if_pos h],λ h2=>absurd h h2,hb⟩
 · rw [if_neg h] at hk
   refine (puncheonref11_Of.calls k A cp q _ _ w hr hc hk).mono ?_
   rintro e w' ⟨v,rfl,hv,hb⟩
   refine ⟨v,by rw [if_neg h],λ _=>?_,hb⟩
   have h2:=R_iso hv
   rw [List.map_map] at h2
   have e : ((λ x : S170=>(x.f0,x.f1,x.f2)) ∘ cellS) = id:=by funext x; rfl
   rw [e,List.map_id] at h2
   exact h2
theorem c9F (A : Option Addr) (cp : Nat) (ps : List Int) (w : World) (hr : (Kd.int .u8).C w A ps.length ps) (hc : ps.length <= cp) (hps : ∀ x ∈ ps,0 <= x /\ x < 256) (hl : ps.length <= 1000000) : Calls Tryz.prog 122 #[.slice A ps.length cp] w λ e w'=>∃ v,e = .returned (.tuple #[v,.int .i64 (openR ps).2]) /\ Kd.bool.R 4 w' w.heap.size (λ _=>True) v (openR ps).1 /\ Below w.heap.size w w':=by
 obtain ⟨k,hk⟩:=(c9g ps hps hl).rounds
 exact puncheonref02_Open.calls k A cp ps _ _ w hr hc hk
def kcs : Kd (List K3):=Kd.slice 170 kc
structure DR (gx gc : Nat) (w0 : World) (x0 x1 : Int) (ov : Value) (out : List Int) (CS : List (List K3)) (wr : World) : Prop where
 x : (Kd.int .i64).R 3 wr w0.heap.size (λ k=>k = gx) (.slice (some ⟨gx,0,none⟩) 2 2) [x0,x1]
 cs : kcs.R 165 wr w0.heap.size (λ k=>k ≠ gx /\ some k ≠ ov.ownBlock) (.slice (some ⟨gc,0,none⟩) 256 256) CS
 out : (Kd.int .u8).R 5 wr w0.heap.size (λ _=>True) ov out
 ne : gx ≠ gc /\ some gx ≠ ov.ownBlock /\ some gc ≠ ov.ownBlock
 below : Below w0.heap.size w0 wr
theorem DR.later {gx gc : Nat} {w0 w w' : World} {x0 x1 : Int} {ov : Value} {out : List Int} {CS : List (List K3)} (h : DR gx gc w0 x0 x1 ov out CS w) (hb : Below w.heap.size w w') : DR gx gc w0 x0 x1 ov out CS w':=
 ⟨Kd.R_below h.x hb,Kd.R_below h.cs hb,Kd.R_below h.out hb,h.ne,a0g h.below hb⟩
theorem DR.ge {gx gc : Nat} {w0 w : World} {x0 x1 : Int} {ov : Value} {out : List Int} {CS : List (List K3)} (h : DR gx gc w0 x0 x1 ov out CS w) : (w0.heap.size <= gx /\ gx < w.heap.size) /\ (w0.heap.size <= gc /\ gc < w.heap.size):=by
 have h1:=(Kd.R_bound h.x).1 gx rfl
 have h2:=(Kd.R_bound h.cs).1 gc rfl
 exact ⟨⟨h1.2.1,h1.2.2.1⟩,⟨h2.2.1,h2.2.2.1⟩⟩
theorem DR.setx {gx gc t : Nat} {w0 w : World} {x0 x1 : Int} {ov : Value} {out : List Int} {CS : List (List K3)} (h : DR gx gc w0 x0 x1 ov out CS w) (ht : t < 2) (y : Int) : DR gx gc w0 (set2 t x0 x1 y).1 (set2 t x0 x1 y).2 ov out CS (w.setCell ⟨gx,t,none⟩ (.int .i64 y)):=by
 refine ⟨?_,Kd.R_far (p:=⟨gx,t,none⟩) h.cs (λ k hk=>hk.1) _,Kd.R_mono (Kd.R_far (p:=⟨gx,t,none⟩) (Kd.R_far1 h.out rfl h.ne.2.1) (λ k hk=>hk.2) _) (λ _ _=>trivial),h.ne,h.below.setCell h.ge.1.1 _⟩
 have h2:=Kd.R_putn h.x (t : Int) y
 have e : ([x0,x1] : List Int).set t y = [(set2 t x0 x1 y).1,(set2 t x0 x1 y).2]:=by
  have : t = 0 \/ t = 1:=by omega
  rcases this with rfl | rfl <;> rfl
 simp only [Int.toNat_natCast] at h2
 rw [e] at h2; exact h2
theorem DR.cellx {gx gc t : Nat} {w0 w : World} {x0 x1 : Int} {ov : Value} {out : List Int} {CS : List (List K3)} (h : DR gx gc w0 x0 x1 ov out CS w) (ht : t < 2) : w.cell? ⟨gx,t,none⟩ = some (.int .i64 (pick2 t x0 x1)) /\ w.frozen? ⟨gx,t,none⟩ = false:=by
 have h1:=a1D h.x t (by omega)
 have e : ([x0,x1] : List Int).getD t 0 = pick2 t x0 x1:=by
  have : t = 0 \/ t = 1:=by omega
  rcases this with rfl | rfl <;> rfl
 rw [e] at h1; exact h1
theorem DR.cellc {gx gc c : Nat} {w0 w : World} {x0 x1 : Int} {ov : Value} {out : List Int} {CS : List (List K3)} (h : DR gx gc w0 x0 x1 ov out CS w) (hc : c < 256) : ∃ (B : Option Addr) (cb : Nat),w.cell? ⟨gc,c,none⟩ = some (.slice B (CS.getD c []).length cb) /\ w.frozen? ⟨gc,c,none⟩ = false /\ kc.C w B (CS.getD c []).length (CS.getD c []):=by
 obtain ⟨u,hcl,hm,hcc,hf⟩:=Kd.R_elem h.cs [] (c : Int) (by omega) (by omega)
 obtain ⟨v,rfl,hv⟩:=hm
 have h1:=hcc 0 v rfl
 have h2:=hf 0
 have hs : kcs.sz = 1:=rfl
 simp only [Int.toNat_natCast,hs,Nat.mul_one,Nat.add_zero] at h1 h2 hv
 obtain ⟨B,cb,rfl⟩:=Kd.R_slice hv
 exact ⟨B,cb,h1,h2,(Kd.R_reads' hv).2.2⟩
theorem DR.setc {gx gc c : Nat} {w0 w w1 : World} {x0 x1 : Int} {ov v : Value} {out : List Int} {CS : List (List K3)} {l : List K3} (h : DR gx gc w0 x0 x1 ov out CS w) (hb : Below w.heap.size w w1) (hc : c < 256) (hv : kc.R 170 w1 w.heap.size (λ _=>True) v l) : DR gx gc w0 x0 x1 ov out (CS.set c l) (w1.setCell ⟨gc,c,none⟩ v):=by
 have h1:=h.later hb
 have hge:=h.ge
 have hw:=h.below.size
 have hlt : ∀ k,ov.ownBlock = some k -> k < w.heap.size:=λ k hk=>by
  obtain ⟨_,inner,ho,_⟩:=h.out
  exact a2V ho k hk
 refine ⟨Kd.R_far (p:=⟨gc,c,none⟩) h1.x (λ k hk=>by show k ≠ gc; have:=h.ne.1; omega) _,?_,Kd.R_mono (Kd.R_far (p:=⟨gc,c,none⟩) (Kd.R_far1 h1.out rfl h.ne.2.2) (λ k hk=>hk.2) _) (λ _ _=>trivial),h.ne,h1.below.setCell hge.2.1 _⟩
 obtain ⟨u,hcl,_,hcc,_⟩:=Kd.R_elem h1.cs [] (c : Int) (by omega) (by omega)
 have hs : kcs.sz = 1:=rfl
 have hv2 : kc.R 170 w1 w0.heap.size (λ k=>(k ≠ gx /\ some k ≠ ov.ownBlock) /\ k ≠ gc) v l:=Kd.R_mono (Kd.R_lower (Kd.R_bound hv) hw) (λ k hk=>by
  have h2:=hk.2.1
  refine ⟨⟨by omega,λ e=>?_⟩,by omega⟩
  have:=hlt k e.symm; omega)
 have:=(Kd.R_seg h1.cs (c : Int) (by omega) (by omega) (seg:=[v]) (j:=0) (x':=l) (okp:=λ k=>(k ≠ gx /\ some k ≠ ov.ownBlock) /\ k ≠ gc) hcl hcc (by rw [hs]; simp) ⟨v,by rw [List.drop_of_length_le (by rw [hcl,hs]; simp)]; simp,hv2⟩ (λ k hk=>hk)).1
 simp only [Int.toNat_natCast,hs,Nat.mul_one,Nat.add_zero] at this
 exact this
theorem DR.app {gx gc : Nat} {w0 w w1 : World} {x0 x1 : Int} {ov v1 : Value} {out out1 : List Int} {CS : List (List K3)} (h : DR gx gc w0 x0 x1 ov out CS w) (hr : (Kd.int .u8).R 5 w1 w0.heap.size (λ _=>True) v1 out1) (hb : Below w0.heap.size w0 w1) (hg : w.grownBy w1 ov.ownBlock) (hat : v1.ownBlock = ov.ownBlock \/ ∃ b,v1.ownBlock = some b /\ w.heap.size <= b) : DR gx gc w0 x0 x1 v1 out1 CS w1:=by
 have hge:=h.ge
 refine ⟨Kd.R_grown1 h.x rfl hg (λ e=>h.ne.2.1 e.symm),Kd.R_after h.cs hg hat,hr,⟨h.ne.1,?_,?_⟩,hb⟩
 · rcases hat with e | ⟨b,e,hb2⟩
   · rw [e]; exact h.ne.2.1
   · rw [e]; intro e2; injection e2 with e2; omega
 · rcases hat with e | ⟨b,e,hb2⟩
   · rw [e]; exact h.ne.2.2
   · rw [e]; intro e2; injection e2 with e2; omega
theorem c9G (n : Nat) (hn : n <= 1000000) (W : World) (ok : Nat -> Prop) (base : Nat) (hok : ok W.heap.size) (hb : base <= W.heap.size) : kcs.R 165 (W.alloc (.cells (madeCells #[.slice none 0 0] n) 165)) base ok (.slice (some ⟨W.heap.size,0,none⟩) n n) (List.replicate n []):=by
 have hr:=Kd.reps_made (R:=kcs.M (W.alloc (.cells (madeCells #[.slice none 0 0] n) 165)) base (λ k=>ok k /\ some k ≠ (Value.slice (some ⟨W.heap.size,0,none⟩) n n).ownBlock)) (z:=.slice none 0 0) (size:=1) (z0:=([] : List K3)) rfl Nat.one_pos ⟨.slice none 0 0,rfl,Kd.R_nil _ _ _ _ _⟩ n
 have e : (Value.slice none 0 0).cells = #[.slice none 0 0]:=rfl
 rw [e,Nat.mul_one] at hr
 refine ⟨λ k hk=>by cases hk; exact hok,_,⟨?_,.inr ⟨W.heap.size,n,madeCells #[.slice none 0 0] n,by simp,hb,a0i W _,by simp,by unfold maxLen; omega,?_,?_⟩⟩,hr⟩
 · simp [size_madeCells]; exact (Nat.mul_one n).symm
 · rw [size_madeCells]; exact (Nat.mul_one n).symm
 · rw [List.length_replicate]; exact List.take_of_length_le (by simp [size_madeCells]; exact Nat.le_of_eq (Nat.mul_one n).symm)
theorem c9H : (Tryz.prog.info? 165).map (λ i=>(i.zero,i.size,i.bytes)) = some (some (.slice none 0 0),1,24):=by kernel_rfl
theorem c9I (n : Nat) (hn : n <= 1000000) (w : World) : (Instr.makeSlice 164 (.int .i64 n) (.int .i64 n)).run Tryz.prog w = .ok (.slice (some ⟨w.heap.size,0,none⟩) n n) (w.alloc (.cells (madeCells #[.slice none 0 0] n) 165)):=by
 obtain ⟨i0,hi,hzz⟩:=Option.map_eq_some_iff.1 c9H
 simp only [Prod.mk.injEq] at hzz
 obtain ⟨hz0,hz1,hz2⟩:=hzz
 have hr:=run_make (P:=Tryz.prog) w 164 165 i0 (.slice none 0 0) Tryz.underlying164 hi hz0 .i64 .i64 (n : Int) (n : Int) (by omega) (by omega) (by rw [hz2]; omega) (by omega)
 rw [hz1] at hr
 simpa [Value.cells] using hr
end Go.Proofs.YtflfjpkmjnnodaaGreat
namespace Go.Proofs.YtflfjpkmjnnodaaGreat
open Go.RowKit Go.IntWalk Go.Proofs.YtflfjpkmjnnodaaGreatW.PrintWords
structure LRel (g : Nat) (one : Bool) (qs : List (List Int)) (ps : List Int) (N gx gc : Nat) (W5 : World) (B3 : List Bool) (res : Int × List Int) (i la left : Nat) (ov : Value) (wr : World) : Prop where
 ex : ∃ (x0 x1 : Int) (out : List Int) (CS : List (List K3)),DR gx gc W5 x0 x1 ov out CS wr /\ (BitsP ps left (B3.take left) /\ left <= B3.length) /\ (CS.length = 256 /\ ∀ c,c < 256 -> CS.getD c [] = [] \/ (logC (qs.getD (listI one (c : Int)) []) ≠ 0 /\ CS.getD c [] = a0S (qs.getD (listI one (c : Int)) []))) /\
  decGo one qs ps (N - i) i la x0 x1 left out = res /\ ((0 <= x0 /\ x0 < 2 ^ g) /\ (0 <= x1 /\ x1 < 2 ^ g)) /\ out.length = i
theorem b0V {ps : List Int} {left n : Nat} {bs : List Bool} (h : BitsP ps left bs) (hn : n <= left) : BitsP ps (left - n) (bs.take (left - n)) /\ byteL (bs.drop (left - n)) = takeV ps left n:=by
 obtain ⟨h1,h2⟩:=a7d h hn
 refine ⟨h2,?_⟩
 have hl:=h.len
 have h3 : bs.drop (left - n) = a0k (takeV ps left n) n:=by
  have e : bs.drop (left - n) = (bs.take (left - n) ++ a0k (takeV ps left n) n).drop (left - n):=congrArg (List.drop (left - n)) h1
  rw [e,List.drop_append,List.drop_of_length_le (by rw [List.length_take]; omega),List.length_take,Nat.min_eq_left (by omega),Nat.sub_self]; rfl
 rw [h3,a5y]
 exact Nat.mod_eq_of_lt (a2b ps left n)
theorem b0W {w : World} {A : Option Addr} {n : Nat} {xs : List Bool} (h : Kd.bool.C w A n xs) (m : Nat) (hm : m <= n) : Kd.bool.C w A m (xs.take m):=by
 have hn:=h.1
 subst hn
 have h2:=Kd.C_take h hm
 have e : (xs.take m).length = m:=by rw [List.length_take]; omega
 rw [e] at h2; exact h2
theorem b7F {v g : Nat} (h : v < 2 ^ g) : 0 <= (v : Int) /\ (v : Int) < 2 ^ g:=by
 have e : (2 : Int) ^ g = ((2 ^ g : Nat) : Int):=by simp
 rw [e]; omega
theorem a4r (k : Int) (w w' : World) (hb : Below w.heap.size w w') : ReadPost (k,[]) w (.returned (.tuple #[.slice none 0 0,.int .i64 k])) w':=⟨⟨_,rfl,Kd.R_nil _ _ _ _ _⟩,hb⟩
def CellM (s b e : Int) (wm : World) (v : Value) (wx : World) : Prop:=∃ mb : Nat,v = .pointer (some ⟨mb,0,none⟩) /\ wm.heap.size <= mb /\ wx.heap[mb]? = some (.cells #[.int .u8 s,.int .i64 b,.int .i64 e] 170 (0,0)) /\ Below wm.heap.size wm wx
theorem c9J {s b e : Int} {wm wx : World} (mb : Nat) (h2 : wx.heap[mb]? = some (.cells #[.int .u8 s,.int .i64 b,.int .i64 e] 170 (0,0))) (h3 : Below wm.heap.size wm wx) (h1 : wm.heap.size <= mb) : CellM s b e wm (.pointer (some ⟨mb,0,none⟩)) wx:=⟨mb,rfl,h1,h2,h3⟩
structure LMid (g : Nat) (one : Bool) (qs : List (List Int)) (gx gc : Nat) (W1 : World) (la t X : Nat) (x0 x1 : Int) (ov : Value) (out : List Int) (q : List Int) (wm : World) : Prop where
 ex : ∃ (CS : List (List K3)) (adm : Addr) (cm : Nat),DR gx gc W1 x0 x1 ov out CS wm /\ (CS.length = 256 /\ ∀ c,c < 256 -> CS.getD c [] = [] \/ (logC (qs.getD (listI one (c : Int)) []) ≠ 0 /\ CS.getD c [] = a0S (qs.getD (listI one (c : Int)) []))) /\
  wm.cell? ⟨gc,la,none⟩ = some (.slice (some adm) (2 ^ g) cm) /\ wm.cell? ⟨gx,t,none⟩ = some (.int .i64 X) /\ b3s wm (adm.add (X * 3)) (a0Q q X)
theorem b7G {g : Nat} {one : Bool} {qs : List (List Int)} {gx gc : Nat} {W1 : World} {la t X : Nat} {x0 x1 : Int} {ov : Value} {out : List Int} {q : List Int} {CS : List (List K3)} {wm : World} (hD : DR gx gc W1 x0 x1 ov out CS wm) (hCS : CS.length = 256 /\ ∀ c,c < 256 -> CS.getD c [] = [] \/ (logC (qs.getD (listI one (c : Int)) []) ≠ 0 /\ CS.getD c [] = a0S (qs.getD (listI one (c : Int)) []))) (hla : la < 256) (ht : t < 2) (hX : pick2 t x0 x1 = X) (hXg : X < 2 ^ g) (hl : logC q ≠ 0) (hlg : logC q = g) (hq : CS.getD la [] = a0S q) : LMid g one qs gx gc W1 la t X x0 x1 ov out q wm:=by
 obtain ⟨B,cb,h1,_,h3⟩:=hD.cellc hla
 rw [hq] at h1 h3
 have hlen:=a3i hl
 rw [hlg] at hlen
 rw [hlen] at h1 h3
 obtain ⟨adm,rfl,h4⟩:=kc_at h3 X hXg
 rw [a4F hl X (by rw [hlg]; exact hXg)] at h4
 exact ⟨CS,adm,cb,hD,hCS,h1,by rw [(hD.cellx ht).1,hX],h4⟩
theorem c9K {one : Bool} {qs : List (List Int)} {CS : List (List K3)} {la : Nat} (hCS : CS.length = 256 /\ ∀ c,c < 256 -> CS.getD c [] = [] \/ (logC (qs.getD (listI one (c : Int)) []) ≠ 0 /\ CS.getD c [] = a0S (qs.getD (listI one (c : Int)) []))) (hla : la < 256) (hl : logC (qs.getD (listI one (la : Int)) []) ≠ 0) :
    ((CS.set la (a0S (qs.getD (listI one (la : Int)) []))).length = 256 /\ ∀ c,c < 256 -> (CS.set la (a0S (qs.getD (listI one (la : Int)) []))).getD c [] = [] \/ (logC (qs.getD (listI one (c : Int)) []) ≠ 0 /\ (CS.set la (a0S (qs.getD (listI one (la : Int)) []))).getD c [] = a0S (qs.getD (listI one (c : Int)) []))) /\ (CS.set la (a0S (qs.getD (listI one (la : Int)) []))).getD la [] = a0S (qs.getD (listI one (la : Int)) []):=by
 have h0 : (CS.set la (a0S (qs.getD (listI one (la : Int)) []))).getD la [] = a0S (qs.getD (listI one (la : Int)) []):=by
  rw [List.getD_eq_getElem?_getD,List.getElem?_set_self (by omega)]; rfl
 refine ⟨⟨by rw [List.length_set]; exact hCS.1,λ c hc=>?_⟩,h0⟩
 by_cases e : la = c
 · subst e; exact .inr ⟨hl,h0⟩
 · have h2 : (CS.set la (a0S (qs.getD (listI one (la : Int)) []))).getD c [] = CS.getD c []:=by
     rw [List.getD_eq_getElem?_getD,List.getElem?_set_ne e,<- List.getD_eq_getElem?_getD]
   rw [h2]; exact hCS.2 c hc
set_option maxRecDepth 100000 in
set_option maxHeartbeats 4000000 in
theorem b7H (lg : Int) (one : Bool) (A : Option Addr) (c : Nat) (qs : List (List Int)) (B : Option Addr) (cb : Nat) (ps : List Int) (n : Int) (w : World) (hr : kq.C w A qs.length qs) (hc : qs.length <= c) (hl : qs.length <= 1000000) (hb : (Kd.int .u8).C w B ps.length ps) (hcb : ps.length <= cb) (hps : ∀ x ∈ ps,0 <= x /\ x < 256) (hpl : ps.length <= 100000) (hn : n <= 100000 \/ 131072 < n) :
    Calls Tryz.prog 77 #[.agg #[.int .i64 lg,.bool one,.slice A qs.length c],.slice B ps.length cb,.int .i64 n] w (ReadPost (decM lg one qs ps n) w):=by
 obtain ⟨W1,hW1⟩ : ∃ W1,W1 = w.alloc (.cells #[.int .i64 lg,.bool one,.slice A qs.length c] 26):=⟨_,rfl⟩
 have HB:=Lib.hid ((Below.refl w.heap.size w).alloc (Nat.le_refl _) (.cells #[.int .i64 lg,.bool one,.slice A qs.length c] 26))
 have hk1 : W1.heap[w.heap.size]? = some (.cells #[.int .i64 lg,.bool one,.slice A qs.length c] 26 (0,0)):=by rw [hW1]; exact a0i _ _
 have HR : Hid (kq.C W1 A qs.length qs):=Lib.hid (by rw [hW1]; exact Kd.C_alloc hr _)
 have HBB : Hid ((Kd.int .u8).C W1 B ps.length ps):=Lib.hid (by rw [hW1]; exact Kd.C_alloc hb _)
 rw [<- hW1] at HB
 have HX:=Lib.hid (And.intro hc (And.intro hl (And.intro hcb (And.intro hps (And.intro hpl hn)))))
 have HK:=Lib.hid hk1
 have HS0 : Hid (w.heap.size <= W1.heap.size):=Lib.hid HB.out.size
 clear hr hc hl hb hcb hps hpl hn hk1
 have main : ∀ d0 d1 d2 : Bool,a0z lg one qs = d0 -> decide (n < 0) = d1 -> decide (131072 < n) = d2 ->
     Calls Tryz.prog 77 #[.agg #[.int .i64 lg,.bool one,.slice A qs.length c],.slice B ps.length cb,.int .i64 n] w (ReadPost (decM lg one qs ps n) w):=by
  intro d0 d1 d2 e0 e1 e2
  have HE0:=Lib.hid e0
  have HE1:=Lib.hid e1
  have HE2:=Lib.hid e2
  have HRI:=Lib.hid (b4t A c W1 lg one qs HR.out HX.out.1 HX.out.2.1)
  rw [e0] at HRI
  obtain ⟨R,hR⟩ : ∃ R,R = decM lg one qs ps n:=⟨_,rfl⟩
  rw [<- hR]
  have HRR:=Lib.hid hR
  obtain ⟨⟨m0,m1,m2⟩,_⟩:=cell3 HK.out
  clear e0 hR
  go_enter Tryz.func77,Tryz.ntmps77
  go_wp2_with fail
  rw [<- hW1]
  clear hW1
  refine HRI.out.mono ?_
  rintro e w2 ⟨rfl,hb2⟩
  have HB2:=Lib.hid (show Below W1.heap.size W1 w2 from hb2)
  clear hb2 m0 m1 m2 HRI
  by_cases hgo : d0 = true /\ d1 = false /\ d2 = false
  · obtain ⟨rfl,rfl,rfl⟩:=hgo
    have hrl:=a1P HE0.out
    obtain ⟨g,rfl⟩ : ∃ g : Nat,lg = g:=⟨lg.toNat,by omega⟩
    have hg12 : g <= 12:=by omega
    have hg1 : 1 <= g:=by omega
    have hn0 : 0 <= n:=by have:=of_decide_eq_false HE1.out; omega
    obtain ⟨N,rfl⟩ : ∃ N : Nat,n = N:=⟨n.toNat,by omega⟩
    have hN : N <= 100000:=by have:=of_decide_eq_false HE2.out; have:=HX.out.2.2.2.2.2; omega
    clear hrl hn0
    go_wp2_with fail
    refine (c9F B cb ps w2 (Kd.C_below HBB.out HB2.out) HX.out.2.2.1 HX.out.2.2.2.1 (by have:=HX.out.2.2.2.2.1; omega)).mono ?_
    rintro e w3 ⟨v3,rfl,hv3,hb3⟩
    have HB3:=Lib.hid (a0g HB2.out hb3)
    obtain ⟨A3,c3,rfl⟩:=Kd.R_slice hv3
    have HV3:=Lib.hid (Kd.R_reads' hv3).2
    clear hb3 hv3
    by_cases hop : ps.length = 0 \/ lastB ps = 0
    · have e3 : openR ps = ([],2):=by unfold openR; rw [if_pos hop]
      have HF : Hid (R = (2,[])):=Lib.hid (by
       rw [HRR.out]; unfold decM
       rw [if_neg (by rw [HE0.out]; have:=of_decide_eq_false HE1.out; have:=of_decide_eq_false HE2.out; simp; omega),if_pos hop])
      rw [e3]
      clear e3 hop
      go_wp2_with fail
      go_ret2
      rw [HF.out]
      exact a4r 2 w _ (a0g HB.out HB3.out)
    · have e3 : openR ps = (bitsL ps,0):=by unfold openR; rw [if_neg hop]
      rw [e3] at HV3 ⊢
      have HBL:=Lib.hid (a9k ps)
      obtain ⟨T,hT⟩ : ∃ T,T = a0E ps:=⟨_,rfl⟩
      have hTl : (bitsL ps).length = T:=by rw [hT]; exact (a9k ps).len
      rw [<- hT] at HBL
      have HV4 : Hid (T <= c3 /\ Kd.bool.C w3 A3 T (bitsL ps)):=Lib.hid (by have h2:=HV3.out; simp only [hTl] at h2; exact h2)
      have hT8 : T <= 800000:=by have:=b3X HX.out.2.2.2.1 hop; have:=HX.out.2.2.2.2.1; omega
      have HF : Hid (R = if T < g + g then (3,[]) else decGo one qs ps N 0 0 (takeV ps T g) (takeV ps (T - g) g) (T - g - g) []):=Lib.hid (by
       rw [HRR.out]; unfold decM
       rw [if_neg (by rw [HE0.out]; have:=of_decide_eq_false HE1.out; have:=of_decide_eq_false HE2.out; simp; omega),if_neg hop,<- hT]
       simp only [Int.toNat_natCast])
      simp only [hTl]
      obtain ⟨⟨m0,m1,m2⟩,_⟩:=cell3 (a0h HK.out HB3.out)
      clear e3 hop HV3 hT hTl
      by_cases h1 : T < g
      · have HF2 : Hid (R = (3,[])):=Lib.hid (by rw [HF.out,if_pos (by omega)])
        have HT1:=Lib.hid (a8g A3 T c3 g w3 (by omega) h1)
        have HH1:=Lib.hid h1
        clear h1
        go_wp2_with fail
        refine HT1.out.mono ?_
        rintro e w4 ⟨rfl,hb4⟩
        have HB4:=Lib.hid (a0g HB3.out hb4)
        have HT2:=Lib.hid (a8g A3 T c3 g w4 (by omega) HH1.out)
        clear hb4 m0 m1 m2
        obtain ⟨⟨m0,m1,m2⟩,_⟩:=cell3 (a0h HK.out HB4.out)
        go_wp2_with fail
        refine HT2.out.mono ?_
        rintro e w5 ⟨rfl,hb5⟩
        have HB5:=Lib.hid (a0g HB4.out hb5)
        clear hb5
        go_wp2_with fail
        go_ret2
        rw [HF2.out]
        exact a4r 3 w _ (a0g HB.out HB5.out)
      · obtain ⟨hbt,hbv⟩:=b0V (n:=g) HBL.out (by omega)
        obtain ⟨v1,hv1⟩ : ∃ v1,v1 = takeV ps T g:=⟨_,rfl⟩
        have hv1b : v1 < 2 ^ g:=by rw [hv1]; exact a2b _ _ _
        have hp12 : 2 ^ g <= 2 ^ 12:=Nat.pow_le_pow_right (by omega) hg12
        rw [<- hv1] at hbv HF
        obtain ⟨T2,hT2⟩ : ∃ T2,T2 = T - g:=⟨_,rfl⟩
        have HT1:=b0T A3 T c3 g (bitsL ps) w3 HBL.out.len.symm HV4.out.1 HV4.out.2 (by omega) (by omega) (by omega)
        rw [<- hT2] at HT1 hbt hbv HF
        rw [hbv] at HT1
        have HTK:=Lib.hid HT1
        have HT2E:=Lib.hid hT2
        have HBT:=Lib.hid hbt
        have hv1c : v1 < 4096:=by omega
        have HVB:=Lib.hid hv1b
        have HNT:=Lib.hid h1
        clear h1 hbt hbv hv1 hv1b hp12 HT1 hT2
        go_wp2_with fail
        refine HTK.out.mono ?_
        rintro e w4 ⟨rfl,hb4⟩
        have HB4:=Lib.hid (a0g HB3.out hb4)
        have HC4:=Lib.hid (b0W (Kd.C_below HV4.out.2 hb4) T2 (by have:=HT2E.out; omega))
        clear hb4 m0 m1 m2
        obtain ⟨⟨m0,m1,m2⟩,_⟩:=cell3 (a0h HK.out HB4.out)
        by_cases h2 : T2 < g
        · have HF2 : Hid (R = (3,[])):=Lib.hid (by rw [HF.out,if_pos (by have:=HT2E.out; have:=HNT.out; omega)])
          have HT2:=Lib.hid (a8g A3 T2 c3 g w4 (by omega) h2)
          clear h2
          go_wp2_with fail
          refine HT2.out.mono ?_
          rintro e w5 ⟨rfl,hb5⟩
          have HB5:=Lib.hid (a0g HB4.out hb5)
          clear hb5
          go_wp2_with fail
          go_ret2
          rw [HF2.out]
          exact a4r 3 w _ (a0g HB.out HB5.out)
        · obtain ⟨hbt,hbv⟩:=b0V (n:=g) HBT.out (by omega)
          obtain ⟨v2,hv2⟩ : ∃ v2,v2 = takeV ps T2 g:=⟨_,rfl⟩
          have hv2b : v2 < 2 ^ g:=by rw [hv2]; exact a2b _ _ _
          have hp12 : 2 ^ g <= 2 ^ 12:=Nat.pow_le_pow_right (by omega) hg12
          have HF2 : Hid (R = decGo one qs ps N 0 0 v1 v2 (T2 - g) []):=Lib.hid (by rw [HF.out,if_neg (by have:=HT2E.out; omega),hv2])
          rw [<- hv2] at hbv
          obtain ⟨T3,hT3⟩ : ∃ T3,T3 = T2 - g:=⟨_,rfl⟩
          obtain ⟨bs3,hbs3⟩ : ∃ bs,bs = ((bitsL ps).take T2).take (T2 - g):=⟨_,rfl⟩
          have HT1:=b0T A3 T2 c3 g ((bitsL ps).take T2) w4 HBT.out.len.symm (by have:=HV4.out.1; have:=HT2E.out; omega) HC4.out (by omega) (by omega) (by have:=HT2E.out; omega)
          rw [<- hT3] at HT1 hbt hbv HF2
          rw [hbv] at HT1
          have HTK2:=Lib.hid HT1
          have HT3E:=Lib.hid hT3
          have hv2c : v2 < 4096:=by omega
          have HVB2:=Lib.hid (And.intro HVB.out hv2b)
          have HBT3:=Lib.hid hbt
          clear h2 hbt hbv hv2 hv2b hp12 HT1 hT3 hbs3 bs3 HF
          go_wp2_with fail
          refine HTK2.out.mono ?_
          rintro e w5 ⟨rfl,hb5⟩
          have HB5:=Lib.hid (a0g HB4.out hb5)
          have HC5:=Lib.hid (b0W (Kd.C_below HC4.out hb5) T3 (by have:=HT3E.out; omega))
          have HCL : Hid (T3 <= c3 /\ T3 <= 800000):=Lib.hid (by have:=HV4.out.1; have:=HT2E.out; have:=HT3E.out; omega)
          clear hb5 m0 m1 m2
          obtain ⟨W6,hW6⟩ : ∃ W6,W6 = (w5.alloc (.cells #[.int .i64 v1,.int .i64 v2] 3)).alloc (.cells (madeCells #[.slice none 0 0] 256) 165):=⟨_,rfl⟩
          have hmk : ∀ w : World,(Instr.makeSlice 164 (.int .i64 256) (.int .i64 256)).run Tryz.prog w = .ok (.slice (some ⟨w.heap.size,0,none⟩) 256 256) (w.alloc (.cells (madeCells #[.slice none 0 0] 256) 165)):=λ w=>c9I 256 (by omega) w
          go_wp2_with fail
          rw [<- hW6]
          obtain ⟨gx,hgx⟩ : ∃ gx,gx = w5.heap.size:=⟨_,rfl⟩
          have hD : DR gx (gx + 1) w5 v1 v2 (.slice none 0 0) [] (List.replicate 256 []) W6:=by
           have hz : (w5.alloc (.cells #[.int .i64 v1,.int .i64 v2] 3)).heap.size = gx + 1:=by rw [hgx]; simp
           refine ⟨?_,?_,Kd.R_nil _ _ _ _ _,⟨by omega,by simp [Value.ownBlock],by simp [Value.ownBlock]⟩,?_⟩
           · rw [hW6,hgx]
             exact Kd.R_alloc (a3n .i64 3 w5 w5.heap.size (λ k=>k = w5.heap.size) rfl (Nat.le_refl _) [(v1 : Int),(v2 : Int)] (by simp)) _
           · have:=c9G 256 (by omega) (w5.alloc (.cells #[.int .i64 v1,.int .i64 v2] 3)) (λ k=>k ≠ gx /\ some k ≠ (Value.slice none 0 0).ownBlock) w5.heap.size (by rw [hz]; exact ⟨by omega,by simp [Value.ownBlock]⟩) (by rw [hz]; omega)
             rw [hz] at this
             rw [hW6]; exact this
           · rw [hW6]; exact a3H (a3H (Below.refl _ _) _) _
          obtain ⟨B3,hB3⟩ : ∃ B3,B3 = ((bitsL ps).take T2).take T3:=⟨_,rfl⟩
          rw [<- hB3] at HBT3 HC5
          have hB3l : B3.length = T3:=HBT3.out.len
          have H0 : Hid (LRel g one qs ps N gx (gx + 1) w5 B3 R 0 0 T3 (.slice none 0 0) W6):=Lib.hid ⟨v1,v2,[],List.replicate 256 [],hD,⟨by rw [List.take_of_length_le (by omega)]; exact HBT3.out,by omega⟩,⟨by simp,λ c _=>.inl (by rw [List.getD_eq_getElem?_getD,List.getElem?_replicate]; split <;> rfl)⟩,HF2.out.symm,⟨b7F HVB2.out.1,b7F HVB2.out.2⟩,rfl⟩
          have HC3 : Hid (B3.length = T3 /\ Kd.bool.C w5 A3 T3 B3 /\ T3 <= c3):=Lib.hid ⟨hB3l,HC5.out,HCL.out.1⟩
          have hT3b : T3 <= 800000:=HCL.out.2
          rw [<- hgx]
          clear hD hW6 hgx hmk hB3 hB3l
          go_loopw [9,17,18,19] (λ lv mv ov kv wr=>∃ (i la left : Nat),kv = .int .i64 i /\ mv = .int .i64 la /\ lv = .slice A3 left c3 /\ i <= N /\ la < 256 /\ left <= 800000 /\ Hid (LRel g one qs ps N gx (gx + 1) w5 B3 R i la left ov wr)) (λ _ _ _ kv _=>N - (intOf kv).toNat)
          case atStart=>exact ⟨0,0,T3,rfl,rfl,rfl,by omega,by omega,by omega,H0⟩
          case round=>
           clear H0
           obtain ⟨i,la,left,rfl,rfl,rfl,hi,hla,hleft,H⟩:=hrel
           obtain ⟨x0,x1,out,CS,hD,hbits,hCS,hgo,hrng,hol⟩:=H.out.ex
           have HD:=Lib.hid hD
           have HBW:=Lib.hid (a0g HB5.out hD.below)
           have HBits:=Lib.hid hbits
           have HCS:=Lib.hid hCS
           have HGO:=Lib.hid hgo
           have HRNG:=Lib.hid hrng
           have HOL:=Lib.hid hol
           clear hD hbits hCS hgo hrng hol H
           by_cases hlt : i < N
           · obtain ⟨q,hq⟩ : ∃ q,q = qs.getD (listI one (la : Int)) []:=⟨_,rfl⟩
             obtain ⟨t,ht⟩ : ∃ t,t = i % 2:=⟨_,rfl⟩
             have ht2 : t < 2:=by omega
             have hXr : 0 <= pick2 t x0 x1 /\ pick2 t x0 x1 < 2 ^ g:=by unfold pick2; split; exact HRNG.out.1; exact HRNG.out.2
             obtain ⟨X,hX⟩ : ∃ X : Nat,pick2 t x0 x1 = X:=⟨(pick2 t x0 x1).toNat,by omega⟩
             have hXg : X < 2 ^ g:=by rw [hX] at hXr; have e : (2 : Int) ^ g = ((2 ^ g : Nat) : Int):=by simp
                                      rw [e] at hXr; omega
             have hmodI : (i : Int) % 2 = (t : Int):=by omega
             have hmodT : (i : Int).tmod 2 = (t : Int):=by rw [Int.tmod_eq_emod_of_nonneg (by omega)]; exact hmodI
             have HT:=Lib.hid (And.intro ht hX)
             have HQ:=Lib.hid hq
             have hXI : (X : Int) < ((2 ^ g : Nat) : Int):=by omega
             have hlaI : (la : Int) < 256:=by omega
             have htI : (t : Int) < 2:=by omega
             have hrc:=a6W HE0.out (listI one (la : Int))
             rw [<- hq] at hrc
             have HRC:=Lib.hid hrc
             obtain ⟨Bc,cb2,hcell,hfr,hkc⟩:=HD.out.cellc hla
             obtain ⟨CL,hCL⟩ : ∃ CL,CL = CS.getD la []:=⟨_,rfl⟩
             rw [<- hCL] at hcell hkc
             obtain ⟨L,hL⟩ : ∃ L,L = CL.length:=⟨_,rfl⟩
             rw [<- hL] at hcell hkc
             have HCL:=Lib.hid (And.intro hCL hL)
             have HXG:=Lib.hid hXg
             have HLT:=Lib.hid hlt
             clear hCL hL hkc hrc hX hXr ht hq hXg
             rcases Nat.eq_zero_or_pos L with hL0 | hL0
             rotate_left
             focus
              have d3 : ((L : Int) == 0) = false:=by rw [beq_eq_false_iff_ne]; omega
              have hcq : logC q ≠ 0 /\ CS.getD la [] = a0S q:=by
               rcases HCS.out.2 la hla with h | h
               · have:=HCL.out; rw [h] at this; rw [this.1] at this; have h2:=this.2; simp at h2; omega
               · rw [<- HQ.out] at h; exact h
              have hlg : logC q = g:=by
               rcases HRC.out with h | h
               · unfold cellsOf at h; rw [if_neg hcq.1,a3i hcq.1] at h; have:=Nat.two_pow_pos (logC q); omega
               · omega
              have hM:=b7G HD.out HCS.out hla ht2 HT.out.2 HXG.out hcq.1 hlg hcq.2
              have HM:=Lib.hid hM
              have HLG:=Lib.hid (And.intro hcq.1 hlg)
              clear hcq hlg hM hL0
              go_wp2_with fail
              obtain ⟨wm,hwm⟩ : ∃ wm,wm = wr:=⟨_,rfl⟩
              rw [<- hwm] at HM ⊢
              clear hwm hcell hfr d3
             rotate_left
             focus
              have d3 : ((L : Int) == 0) = true:=by rw [hL0]; rfl
              obtain ⟨⟨m0,m1,m2⟩,_⟩:=cell3 (a0h HK.out HBW.out)
              clear hL0
              go_wp2_with fail
              have hAt:=a9J g one A c qs la wr (Kd.C_below HR.out HBW.out) HE0.out (a9K HE0.out) hla
              rw [<- HQ.out] at hAt
              refine hAt.mono ?_
              clear hAt
              rintro e w6 ⟨Bq,cq,rfl,hcq,hqC,hb6⟩
              have HB6:=Lib.hid hb6
              have HOf:=Lib.hid (c9E Bq cq q w6 hqC hcq)
              have hc6:=a0s hb6 hcell
              clear hcq hqC hb6 m0 m1 m2
              go_wp2_with fail
              refine HOf.out.mono ?_
              rintro e w7 ⟨v7,rfl,hv7,hb7⟩
              have HV7:=Lib.hid hv7
              have HB7:=Lib.hid (a0g HB6.out hb7)
              have hsz67:=HB6.out.size
              clear hv7 hb7
              by_cases hlq : logC q = 0
              · have HF3 : Hid (R = (13,[])):=Lib.hid (by
                  have h1:=HGO.out
                  rw [show N - i = (N - i - 1) + 1 by have:=HLT.out; omega,a9e (by rw [<- HQ.out]; unfold cellsOf; rw [if_pos hlq]; rfl)] at h1
                  exact h1.symm)
                rw [if_pos hlq]
                clear hlq
                go_wp2_with fail
                go_ret2
                rw [HF3.out]
                exact a4r 13 w _ (a0g HB.out (a0g HBW.out HB7.out))
              focus
               rw [if_neg hlq]
               have HLQ:=Lib.hid hlq
               have hD7:=HD.out.later HB7.out
               obtain ⟨Bd,cb3,hcell7,hfr7,_⟩:=hD7.cellc hla
               have hrcx:=HRC.out
               have hcs:=c9K HCS.out hla (by rw [<- HQ.out]; exact hlq)
               rw [<- HQ.out] at hcs
               have hlg : logC q = g:=by
                rcases HRC.out with h | h
                · unfold cellsOf at h; rw [if_neg hlq,a3i hlq] at h; have:=Nat.two_pow_pos (logC q); omega
                · omega
               have hv8 : kc.R 170 w7 wr.heap.size (λ _=>True) v7 (a0S q):=Kd.R_lower (HV7.out hlq) HB6.out.size
               have hM:=b7G (HD.out.setc HB7.out hla hv8) hcs.1 hla ht2 HT.out.2 HXG.out hlq hlg hcs.2
               have HM:=Lib.hid hM
               have HLG:=Lib.hid (And.intro hlq hlg)
               obtain ⟨A7,c7,rfl⟩:=Kd.R_slice hv8
               obtain ⟨n7,hn7⟩ : ∃ n7,n7 = (a0S q).length:=⟨_,rfl⟩
               rw [<- hn7] at HM ⊢
               clear hlq hD7 hrcx hcs hlg hv8 hM hcell hfr hc6 HV7 hn7
               go_wp2_with fail
               obtain ⟨wm,hwm⟩ : ∃ wm,wm = w7.setCell ⟨gx + 1,la,none⟩ (.slice A7 n7 c7):=⟨_,rfl⟩
               rw [<- hwm] at HM ⊢
               clear hwm hcell7 hfr7 HB6 HOf HB7 hsz67 d3
             all_goals
              obtain ⟨CSm,adm,cm,hDm,hCSm,f0,f1,f2,f3,f4⟩:=HM.out.ex
              have hok:=a6V HLG.out.1 X (by rw [HLG.out.2]; exact HXG.out)
              rw [HLG.out.2] at hok
              obtain ⟨sN,hsN⟩ : ∃ k : Nat,(a0Q q X).1 = k:=⟨(a0Q q X).1.toNat,by omega⟩
              obtain ⟨bN,hbN,hb12,hbe⟩:=hok.2.2.1
              obtain ⟨eN,heN⟩ : ∃ k : Nat,(a0Q q X).2.2 = k:=⟨(a0Q q X).2.2.toNat,by omega⟩
              have hs256 : sN < 256:=by omega
              rw [hsN] at f2
              rw [hbN] at f3
              rw [heN] at f4 hbe
              have HDm:=Lib.hid hDm
              have HCSm:=Lib.hid hCSm
              have HCE:=Lib.hid (show a0Q q X = ((sN : Int),(bN : Int),(eN : Int)) by rw [<- hsN,<- hbN,<- heN])
              have HBE:=Lib.hid hbe
              have he16 : eN <= 100000:=by have:=hok.2.2.2.2; rw [heN] at this; omega
              clear hok hsN hbN heN hbe hDm hCSm HM
              have HKP:=Lib.hid (show ∀ w' : World,Below wm.heap.size wm w' -> (Below wm.heap.size wm w' /\ w'.cell? ⟨gx + 1,la,none⟩ = some (.slice (some adm) (2 ^ g) cm) /\ w'.cell? ⟨gx,t,none⟩ = some (.int .i64 X) /\ w'.cell? (adm.add (X * 3)) = some (.int .u8 sN) /\ w'.cell? ⟨(adm.add (X * 3)).block,(adm.add (X * 3)).off + 1,none⟩ = some (.int .i64 bN) /\ w'.cell? ⟨(adm.add (X * 3)).block,(adm.add (X * 3)).off + 2,none⟩ = some (.int .i64 eN)) from λ w' h=>⟨h,a0s h f0,a0s h f1,a0s h f2,a0s h f3,a0s h f4⟩)
              obtain ⟨G2,hG2⟩ : ∃ G2,G2 = 2 ^ g:=⟨_,rfl⟩
              rw [<- hG2] at f0 HKP hXI
              have HG2:=Lib.hid hG2
              clear hG2
              go_cut [22] (λ s22 wx=>CellM sN bN eN wm s22 wx)
              case first=>
               go_region_held3 (λ w'=>Below wm.heap.size wm w' /\ w'.cell? ⟨gx + 1,la,none⟩ = some (.slice (some adm) G2 cm) /\ w'.cell? ⟨gx,t,none⟩ = some (.int .i64 X) /\ w'.cell? (adm.add (X * 3)) = some (.int .u8 sN) /\ w'.cell? ⟨(adm.add (X * 3)).block,(adm.add (X * 3)).off + 1,none⟩ = some (.int .i64 bN) /\ w'.cell? ⟨(adm.add (X * 3)).block,(adm.add (X * 3)).off + 2,none⟩ = some (.int .i64 eN))
                ((refine HKP.out _ ?_; (repeat' (first | assumption | exact Below.refl _ _ | refine a3H ?_ _ | refine a4R ?_ | refine b4Z ?_ ?_ _)) <;> first | omega | (simp; done) | (simp; omega)))
                (fail)
               all_goals
                go_wp2_with fail
                go_meet
                refine' c9J _ ?_ ?_ ?_
                · repeat' (with_reducible (first | exact a0i _ _ | exact a2i _ _ _ | refine a9C ?_ | refine a0o ?_ _))
                · repeat' (first | assumption | exact Below.refl _ _ | refine a3H ?_ _ | refine a4R ?_)
                all_goals first | omega | exact Nat.le_refl _ | (simp; done)
              case rest=>
               obtain ⟨mb,rfl,hmb,hblk,hbl⟩:=hcut
               have HMB:=Lib.hid (And.intro hmb hblk)
               have HDc:=Lib.hid (HDm.out.later hbl)
               have hDm0:=HDm.out
               obtain ⟨⟨c0,c1,c2⟩,_⟩:=cell3 hblk
               have hne1 : mb ≠ gx:=by have:=hDm0.ge.1.2; omega
               have HST:=Lib.hid (show (cellsOf (qs.getD (listI one (la : Int)) [])).length ≠ 0 /\ (cellsOf (qs.getD (listI one (la : Int)) [])).getD X z3 = ((sN : Int),(bN : Int),(eN : Int)) from by
                rw [<- HQ.out]
                have e : cellsOf q = a0S q:=by unfold cellsOf; rw [if_neg HLG.out.1]
                rw [e,a3i HLG.out.1,a4F HLG.out.1 X (by rw [HLG.out.2]; exact HXG.out),HCE.out]
                exact ⟨by have:=Nat.two_pow_pos (logC q); omega,rfl⟩)
               have HCt:=Lib.hid (b0W (Kd.C_below HC3.out.2.1 HDc.out.below) left (by have:=HBits.out.2; have:=HC3.out.1; omega))
               have HLL:=Lib.hid (show left <= c3 from by have:=HBits.out.2; have:=HC3.out.1; have:=HC3.out.2.2; omega)
               clear hmb hblk hbl f0 f1 f2 f3 f4 hDm0
               by_cases hbl : bN <= left
               · obtain ⟨hbt,hbv⟩:=b0V HBits.out.1 hbl
                 obtain ⟨v,hv⟩ : ∃ v,v = takeV ps left bN:=⟨_,rfl⟩
                 have hvb : v < 2 ^ bN:=by rw [hv]; exact a2b _ _ _
                 have hp12 : 2 ^ bN <= 2 ^ 12:=Nat.pow_le_pow_right (by omega) hb12
                 rw [<- hv] at hbv
                 obtain ⟨l2,hl2⟩ : ∃ l2,l2 = left - bN:=⟨_,rfl⟩
                 have HT1:=b0T A3 left c3 bN (B3.take left) wc HBits.out.1.len.symm HLL.out HCt.out (by omega) hbl (by omega)
                 rw [<- hl2] at HT1 hbt hbv
                 rw [hbv] at HT1
                 have HTK3:=Lib.hid HT1
                 have hv4 : v < 4096:=by omega
                 have hbt2 : BitsP ps l2 (B3.take l2):=by
                  have e : (B3.take left).take l2 = B3.take l2:=by rw [List.take_take,Nat.min_eq_left (by omega)]
                  rw [<- e]; exact hbt
                 have HN3:=Lib.hid (And.intro hbt2 (And.intro hv (And.intro hvb (And.intro hl2 hbl))))
                 clear hbt hbv hv hvb hp12 hl2 hbt2 HT1 hbl
                 go_wp2_with fail
                 refine HTK3.out.mono ?_
                 rintro e wt ⟨rfl,hbt⟩
                 have HDt:=Lib.hid (HDc.out.later hbt)
                 have c0t:=a0s hbt c0
                 have c1t:=a0s hbt c1
                 have c2t:=a0s hbt c2
                 have HMBt:=Lib.hid (a0h HMB.out.2 hbt)
                 obtain ⟨x0t,x0f⟩:=HDt.out.cellx ht2
                 have HDs:=Lib.hid (HDt.out.setx ht2 ((eN : Int) + (v : Int)))
                 have HSL:=Lib.hid (show (out.length + 1) * 1 <= 140737488355328 by have:=HOL.out; omega)
                 have HMs:=Lib.hid (a1r HMBt.out (p:=⟨gx,t,none⟩) hne1 (.int .i64 ((eN : Int) + (v : Int))))
                 have HNO:=Lib.hid (show some mb ≠ Value.ownBlock u18 from λ e=>by
                  obtain ⟨_,inner,ho,_⟩:=HDm.out.out
                  have:=a2V ho mb e.symm
                  have:=HMB.out.1; omega)
                 have HFIN:=Lib.hid (show ∀ (v2 : Value) (w2 : World),DR gx (gx + 1) w5 (set2 t x0 x1 ((eN : Int) + (v : Int))).1 (set2 t x0 x1 ((eN : Int) + (v : Int))).2 v2 (out ++ [(sN : Int)]) CSm w2 -> LRel g one qs ps N gx (gx + 1) w5 B3 R (i + 1) sN l2 v2 w2 from λ v2 w2 h=>by
                  refine ⟨_,_,_,CSm,h,⟨HN3.out.1,by have:=HBits.out.2; have:=HN3.out.2.2.2.1; omega⟩,HCSm.out,?_,?_,by rw [List.length_append,List.length_singleton,HOL.out]⟩
                  · have h1:=HGO.out
                    rw [show N - i = (N - (i + 1)) + 1 by have:=HLT.out; omega,a6X HST.out.1 (by rw [<- HT.out.1]; exact HT.out.2) HST.out.2 HN3.out.2.2.2.2,<- HT.out.1,<- HN3.out.2.1,<- HN3.out.2.2.2.1] at h1
                    exact h1
                  · refine a6Y HRNG.out.1 HRNG.out.2 ?_
                    have h1:=HBE.out
                    have h2:=HN3.out.2.2.1
                    have e1 : (2 : Int) ^ bN = ((2 ^ bN : Nat) : Int):=by simp
                    rw [e1] at h1
                    omega)
                 clear hbt c0 c1 c2
                 go_wp2_with (at_builtin; refine a6x .u8 (w0:=w5) (W:=wt.setCell ⟨gx,t,none⟩ (.int .i64 ((eN : Int) + (v : Int)))) rfl (.tmp 129) (.tmp 132) 22 5 1 rfl Tryz.underlying22 a0H (by decide) u18 _ (sN : Int) rfl (by simp [go_sem]) HDs.out.out HDs.out.below HSL.out ?_; intro v2 wa hr2 hb2 hg2 hat2; have hmb2:=a1e HMs.out hg2 HNO.out; have HRL:=Lib.hid (HFIN.out v2 wa (HDs.out.app hr2 hb2 hg2 hat2)); obtain ⟨⟨g0,g1,g2⟩,_⟩:=cell3 hmb2; clear hmb2 hr2 hb2 hg2 hat2)
                 go_roundw
                 case rel=>exact ⟨i + 1,sN,l2,by go_num,rfl,rfl,by omega,hs256,by have:=HN3.out.2.2.2.1; omega,HRL⟩
                 case measure=>first | (simp [intOf]; done) | (simp [intOf]; omega)
               · have HF3 : Hid (R = (3,[])):=Lib.hid (by
                   have h1:=HGO.out
                   rw [show N - i = (N - i - 1) + 1 by have:=HLT.out; omega,a9f HST.out.1 (by rw [<- HT.out.1]; exact HT.out.2) HST.out.2 hbl] at h1
                   exact h1.symm)
                 have HT1:=Lib.hid (a8g A3 left c3 bN wc (by omega) (by omega))
                 clear hbl
                 go_wp2_with fail
                 refine HT1.out.mono ?_
                 rintro e wt ⟨rfl,hbt⟩
                 have HBt:=Lib.hid (a0g (a0g HB5.out HDc.out.below) hbt)
                 clear hbt
                 go_wp2_with fail
                 go_ret2
                 rw [HF3.out]
                 exact a4r 3 w _ (a0g HB.out HBt.out)
           · obtain rfl : i = N:=by omega
             obtain ⟨q0,_⟩:=HD.out.cellx (t:=0) (by omega)
             obtain ⟨q1,_⟩:=HD.out.cellx (t:=1) (by omega)
             have p0 : wr.cell? ⟨gx,0,none⟩ = some (.int .i64 x0):=q0
             have p1 : wr.cell? ⟨gx,1,none⟩ = some (.int .i64 x1):=q1
             have HFR : Hid (R = if x0 = 0 /\ x1 = 0 /\ left = 0 then (0,out) else (14,[])):=Lib.hid (by
              have h1:=HGO.out
              rw [Nat.sub_self] at h1
              simp only [decGo] at h1
              exact h1.symm)
             clear q0 q1 hlt hi
             have fin : ∀ a b c : Bool,(x0 != 0) = a -> (x1 != 0) = b -> decide (0 < left) = c -> decide ((0 : Int) < (left : Int)) = c -> (a = false /\ b = false /\ c = false -> R = (0,out)) /\ (¬ (a = false /\ b = false /\ c = false) -> R = (14,[])):=by
              intro a b c ha hb hc _
              rw [HFR.out]
              constructor
              · rintro ⟨rfl,rfl,rfl⟩
                rw [bne_eq_false_iff_eq] at ha hb
                have:=of_decide_eq_false hc
                rw [if_pos ⟨ha,hb,by omega⟩]
              · intro h
                rw [if_neg (λ h2=>h ?_)]
                obtain ⟨h3,h4,h5⟩:=h2
                subst h3 h4 h5
                exact ⟨ha.symm,hb.symm,hc.symm⟩
             obtain ⟨a,ha⟩ : ∃ a,(x0 != 0) = a:=⟨_,rfl⟩
             obtain ⟨b,hb⟩ : ∃ a,(x1 != 0) = a:=⟨_,rfl⟩
             obtain ⟨d,hd⟩ : ∃ a,decide (0 < left) = a:=⟨_,rfl⟩
             have hd2 : decide ((0 : Int) < (left : Int)) = d:=by rw [<- hd,decide_eq_decide]; omega
             have HFN:=Lib.hid (fin a b d ha hb hd hd2)
             clear fin
             cases a <;> cases b <;> cases d
             · have HE:=Lib.hid (HFN.out.1 ⟨rfl,rfl,rfl⟩)
               clear HFN
               go_wp2_with fail
               go_ret2
               rw [HE.out]
               exact ⟨⟨u18,rfl,Kd.R_mono (Kd.R_lower HD.out.out (Nat.le_trans HS0.out HB5.out.size)) (λ _ _=>trivial)⟩,a0g HB.out HBW.out⟩
             all_goals
              have HE:=Lib.hid (HFN.out.2 (by decide))
              clear HFN
              go_wp2_with fail
              go_ret2
              rw [HE.out]
              exact a4r 14 w _ (a0g HB.out HBW.out)
  · have HG:=Lib.hid hgo
    have HF : Hid (R = (1,[])):=Lib.hid (by
     rw [HRR.out]; unfold decM
     rw [if_pos]
     have h0:=HE0.out
     have h1:=HE1.out
     have h2:=HE2.out
     by_cases g1 : n < 0
     · exact .inl g1
     · by_cases g2 : 131072 < n
       · exact .inr (.inl g2)
       · refine .inr (.inr ?_)
         rw [decide_eq_false g1] at h1
         rw [decide_eq_false g2] at h2
         cases d0
         · exact h0
         · exact absurd ⟨rfl,h1.symm,h2.symm⟩ HG.out)
    clear hgo
    cases d0 <;> cases d1 <;> cases d2 <;> first
     | (exact absurd ⟨rfl,rfl,rfl⟩ HG.out)
     | (clear HG
        go_wp2_with fail
        go_ret2
        rw [HF.out]
        exact a4r 1 w _ (a0g HB.out HB2.out))
 exact main _ _ _ rfl rfl rfl
end Go.Proofs.YtflfjpkmjnnodaaGreat
