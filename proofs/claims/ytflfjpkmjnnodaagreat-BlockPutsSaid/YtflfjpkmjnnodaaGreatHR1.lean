/- The references, as the kit's print reads them (laid by a program of this session; what is not named is left out). -/
import Derived.Test.YtflfjpkmjnnodaaGreatProg
import Derived.Below
import Derived.Deep.Draws
import Derived.Deep.AppendLies
import Derived.Maps.AppendAt
import Derived.OwnWalk
import Derived.Laws.BytesArg
import Derived.Laws.MakeOwn
import Derived.Laws.OwnMore
import Derived.Deep.OwnRows
import Derived.Tactics
import Derived.Lib.ConvBytes
import Derived.Laws.Slices
import Derived.WalkKit
import Derived.KernelRfl
import Derived.RowKit3
import Derived.Deep.LoopGhost
import Derived.Deep.QuietTactic
import Derived.BigQuiet
import Derived.WideLaws
import Derived.Deep.DeepCutAuto
import Derived.Deep.CutBlock
import Derived.Deep.RegionHeld3
import Derived.Laws.Rows
import Derived.Lib.AppendStr
import Derived.ArgAppend
import Derived.Laws.IdiomCopy
import Derived.OrdersHeld
import Derived.Laws.BitsLemmas
import Derived.RowKit
import Derived.Test.YtflfjpkmjnnodaaGreatHS1
namespace Go.Proofs.YtflfjpkmjnnodaaGreat.PRef
open Go.RowKit Go.Proofs.YtflfjpkmjnnodaaGreatW.PrintWords Go.Proofs.YtflfjpkmjnnodaaGreatW.PrintLast Go.Proofs.YtflfjpkmjnnodaaGreatW.PrintMore
attribute [local go_sem] a1Z a1Q a2a a1R a2p a2q a2r a2s   -- for this text's walks alone
set_option linter.unusedVariables false
set_option linter.unusedSimpArgs false
def errW : Option Int -> Value
 | none=>.nilIface
 | some c=>.iface 0 (.int .i64 c)
theorem a0l : errW none = .nilIface:=rfl
theorem a0m (c : Int) : errW (some c) = .iface 0 (.int .i64 c):=rfl
theorem info3 : (Tryz.prog.info? 3).map (λ i=>(i.zero,i.size,i.bytes)) = some (some (.int .i64 0),1,8):=by kernel_rfl
theorem info4 : (Tryz.prog.info? 4).map (λ i=>(i.zero,i.size,i.bytes)) = some (some (.bool false),1,1):=by kernel_rfl
theorem info5 : (Tryz.prog.info? 5).map (λ i=>(i.zero,i.size,i.bytes)) = some (some (.int .u8 0),1,1):=by kernel_rfl
def rd_L3 (xs : List (List Int)) (i : Int) : (List Int):=xs.getD i.toNat ([] : List Int)
theorem at_L3 {w : World} {A : Option Addr} {n : Nat} {xs : List (List Int)} (h : Kd.C (Kd.slice 3 (Kd.int .i64)) w A n xs) (i : Int) (h0 : 0 <= i) (h1 : i < n) : ∃ ad A0 c0,A = some ad /\ w.cell? (ad.add i.toNat) = some (.slice A0 (rd_L3 xs i).length c0) /\ (rd_L3 xs i).length <= c0 /\ (Kd.int .i64).C w A0 (rd_L3 xs i).length (rd_L3 xs i):=by
 obtain ⟨ad,c,e,_,hK,hc0⟩:=Kd.C_get h ([] : List Int) i h0 h1
 have hc : ∀ j u,c[j]? = some u -> w.cell? (ad.add (i.toNat * 1 + j)) = some u:=hc0
 obtain ⟨A0,c0,rfl,l0,g0⟩:=hK
 exact ⟨ad,A0,c0,e,by have hq:=hc 0 _ rfl; rwa [Nat.mul_one,Nat.add_zero] at hq,l0,g0⟩
end Go.Proofs.YtflfjpkmjnnodaaGreat.PRef
namespace Go.Proofs.YtflfjpkmjnnodaaGreat.PRef
open Go.RowKit Go.Proofs.YtflfjpkmjnnodaaGreatW.PrintWords Go.Proofs.YtflfjpkmjnnodaaGreatW.PrintLast Go.Proofs.YtflfjpkmjnnodaaGreatW.PrintMore
attribute [local go_sem] a1Z a1Q a2a a1R a2p a2q a2r a2s   -- for this text's walks alone
set_option linter.unusedVariables false
set_option linter.unusedSimpArgs false
def puncheonref05_Right.l0 : Nat -> List Int -> Int -> Int -> Option (Bool)
 | 0,_,_,_=>none
 | k + 1,x0,x3,x4=>if x4 < 256 then (if 0 <= x4 then (if x4 < (x0.length : Int) then (if (rd x0 x4) < 0 then (some false) else (if (rd x0 x4) > 1073741824 then (some false) else (puncheonref05_Right.l0 k x0 (wrap64 (x3 + (rd x0 x4))) (wrap64 (x4 + 1))))) else (none)) else (none)) else (some (decide (x3 <= 1073741824)))
def puncheonref05_Right.f (k : Nat) (l0 : List Int) : Option (Bool):=if (l0.length : Int) = 256 then (puncheonref05_Right.l0 k l0 0 0) else (some false)
theorem puncheonref05_Right.mono_l : ∀ k,(∀ y0 y1 y2,LeO (puncheonref05_Right.l0 k y0 y1 y2) (puncheonref05_Right.l0 (k + 1) y0 y1 y2))
 | 0=>λ _ _ _ r h=>by simp [puncheonref05_Right.l0] at h
 | k + 1=>by
  have ih0:=puncheonref05_Right.mono_l k
  · intro y0 y1 y2
    unfold puncheonref05_Right.l0
    repeat' first
    | (with_reducible exact ih0 _ _ _)
    | (with_reducible exact LeO.refl _)
    | (with_reducible exact LeO.none _)
    | (with_reducible refine LeO.ite ?_ ?_)
    | (with_reducible refine LeO.bind ?_ (λ _=>?_))
    | exact ih0 _ _ _
    | exact LeO.none _
    | refine LeO.ite ?_ ?_
    | refine LeO.bind ?_ (λ _=>?_)
theorem puncheonref05_Right.mono : ∀ a0 k,LeO (puncheonref05_Right.f k a0) (puncheonref05_Right.f (k + 1) a0):=by
 intro a0 k
 have ih0:=puncheonref05_Right.mono_l k
 unfold puncheonref05_Right.f
 repeat' first
     | (with_reducible exact ih0 _ _ _)
     | (with_reducible exact LeO.refl _)
     | (with_reducible exact LeO.none _)
     | (with_reducible refine LeO.ite ?_ ?_)
     | (with_reducible refine LeO.bind ?_ (λ _=>?_))
     | exact ih0 _ _ _
     | exact LeO.none _
     | refine LeO.ite ?_ ?_
     | refine LeO.bind ?_ (λ _=>?_)
set_option maxHeartbeats 8000000 in
set_option maxRecDepth 100000 in
theorem puncheonref05_Right.calls (k : Nat) (A0 : Option Addr) (c0 : Nat) (l0 : List Int) (r : Bool) (w : World) (hr0 : Kd.C (Kd.int .i64) w A0 l0.length l0) (hc0 : l0.length <= c0) (h : puncheonref05_Right.f k l0 = some r) :
    Calls Tryz.prog 242 #[.slice A0 l0.length c0] w λ e w'=>e = .returned (.bool r) /\ Drawn0 w w':=by
 have HR0:=Aside0.mk hr0
 have HC0:=Aside0.mk hc0
 clear hr0 hc0
 have H : (if (l0.length : Int) = 256 then (puncheonref05_Right.l0 k l0 0 0) else (some false)) = some r:=h
 clear h
 by_cases c2 : (l0.length : Int) = 256
 · rw [if_pos c2] at H
   have c2b0 : ((l0.length : Int) == 256) = true:=beq_iff_eq.mpr c2
   have c2b1 : ((l0.length : Int) != 256) = false:=bne_eq_false_iff_eq.mpr c2
   clear c2
   have H':=Aside0.mk H
   clear H
   go_enter Tryz.func242,Tryz.ntmps242
   go_wp2
   go_loopg [3,4] k (λ kq v3 v4 w'=>∃ (x3_1 : Int) (x4_1 : Int),v3 = .int .i64 x3_1 /\ v4 = .int .i64 x4_1 /\ Aside0 (puncheonref05_Right.l0 kq l0 x3_1 x4_1 = some r) /\ Aside0 (kq <= k) /\ Drawn0 w w')
   case atStart=>exact ⟨(0),(0),(by first | rfl | (simp; done) | (simp [*]; done)),(by first | rfl | (simp; done) | (simp [*]; done)),H',⟨Nat.le_refl _⟩,by repeat (first | exact Drawn0.refl _ | apply Drawn0.step)⟩
   case round=>
    clear H'
    try clear c2
    try clear c2b0
    try clear c2b1
    try clear p2
    obtain ⟨x3_1,x4_1,rfl,rfl,HA,HK1,⟨m1,rfl⟩⟩:=hrel
    cases gk with
    | zero=>exact absurd HA.out (by simp [puncheonref05_Right.l0])
    | succ k1=>
     have H:=HA.out
     clear HA
     simp only [puncheonref05_Right.l0] at H
     by_cases c3 : x4_1 < 256
     · rw [if_pos c3] at H
       have c3b0 : decide (x4_1 < 256) = true:=decide_eq_true c3
       clear c3
       by_cases c4 : 0 <= x4_1
       · rw [if_pos c4] at H
         have c4b0 : decide (0 <= x4_1) = true:=decide_eq_true c4
         clear c4
         by_cases c5 : x4_1 < (l0.length : Int)
         · rw [if_pos c5] at H
           have c5b0 : decide (x4_1 < (l0.length : Int)) = true:=decide_eq_true c5
           clear c5
           by_cases c6 : (rd l0 x4_1) < 0
           · rw [if_pos c6] at H
             have c6b0 : decide ((rd l0 x4_1) < 0) = true:=decide_eq_true c6
             clear c6
             obtain rfl:=Option.some.inj H
             have p116 : 0 <= (x4_1 : Int):=of_decide_eq_true (by first | (with_reducible assumption) | assumption)
             have q116 : x4_1 < (l0.length : Int):=of_decide_eq_true (by first | (with_reducible assumption) | assumption)
             obtain ⟨ad116,e116,hx116_0⟩:=Kd.at_int HR0.out x4_1 p116 q116
             cases e116
             replace p116:=eq_true p116
             replace q116:=eq_true q116
             go_wp2
             go_ret
             exact ⟨by first | rfl | (simp; done) | (simp [*]; done),by repeat (first | exact Drawn0.refl _ | apply Drawn0.step)⟩
           · rw [if_neg c6] at H
             have c6b0 : decide ((rd l0 x4_1) < 0) = false:=decide_eq_false c6
             clear c6
             by_cases c7 : (rd l0 x4_1) > 1073741824
             · rw [if_pos c7] at H
               have c7b0 : decide (1073741824 < (rd l0 x4_1)) = true:=decide_eq_true c7
               clear c7
               obtain rfl:=Option.some.inj H
               have p116 : 0 <= (x4_1 : Int):=of_decide_eq_true (by first | (with_reducible assumption) | assumption)
               have q116 : x4_1 < (l0.length : Int):=of_decide_eq_true (by first | (with_reducible assumption) | assumption)
               obtain ⟨ad116,e116,hx116_0⟩:=Kd.at_int HR0.out x4_1 p116 q116
               cases e116
               replace p116:=eq_true p116
               replace q116:=eq_true q116
               have p117 : 0 <= (x4_1 : Int):=of_decide_eq_true (by first | (with_reducible assumption) | assumption)
               have q117 : x4_1 < (l0.length : Int):=of_decide_eq_true (by first | (with_reducible assumption) | assumption)
               obtain ⟨ad117,e117,hx117_0⟩:=Kd.at_int HR0.out x4_1 p117 q117
               obtain rfl : ad116 = ad117:=(by injection e117)
               replace p117:=eq_true p117
               replace q117:=eq_true q117
               go_wp2
               go_ret
               exact ⟨by first | rfl | (simp; done) | (simp [*]; done),by repeat (first | exact Drawn0.refl _ | apply Drawn0.step)⟩
             · rw [if_neg c7] at H
               have c7b0 : decide (1073741824 < (rd l0 x4_1)) = false:=decide_eq_false c7
               clear c7
               have H':=Aside0.mk H
               clear H
               have p116 : 0 <= (x4_1 : Int):=of_decide_eq_true (by first | (with_reducible assumption) | assumption)
               have q116 : x4_1 < (l0.length : Int):=of_decide_eq_true (by first | (with_reducible assumption) | assumption)
               obtain ⟨ad116,e116,hx116_0⟩:=Kd.at_int HR0.out x4_1 p116 q116
               cases e116
               replace p116:=eq_true p116
               replace q116:=eq_true q116
               have p117 : 0 <= (x4_1 : Int):=of_decide_eq_true (by first | (with_reducible assumption) | assumption)
               have q117 : x4_1 < (l0.length : Int):=of_decide_eq_true (by first | (with_reducible assumption) | assumption)
               obtain ⟨ad117,e117,hx117_0⟩:=Kd.at_int HR0.out x4_1 p117 q117
               obtain rfl : ad116 = ad117:=(by injection e117)
               replace p117:=eq_true p117
               replace q117:=eq_true q117
               have p118 : 0 <= (x4_1 : Int):=of_decide_eq_true (by first | (with_reducible assumption) | assumption)
               have q118 : x4_1 < (l0.length : Int):=of_decide_eq_true (by first | (with_reducible assumption) | assumption)
               obtain ⟨ad118,e118,hx118_0⟩:=Kd.at_int HR0.out x4_1 p118 q118
               obtain rfl : ad116 = ad118:=(by injection e118)
               replace p118:=eq_true p118
               replace q118:=eq_true q118
               go_wp2
               go_roundg k1
               case measure=>have:=HK1.out; omega
               case rel=>exact ⟨(wrap64 (x3_1 + (rd l0 x4_1))),(wrap64 (x4_1 + 1)),(by first | rfl | (simp; done) | (simp [*]; done)),(by first | rfl | (simp; done) | (simp [*]; done)),H',⟨by have:=HK1.out; omega⟩,by repeat (first | exact Drawn0.refl _ | apply Drawn0.step)⟩
         · rw [if_neg c5] at H
           exact absurd H (by simp)
       · rw [if_neg c4] at H
         exact absurd H (by simp)
     · rw [if_neg c3] at H
       have c3b0 : decide (x4_1 < 256) = false:=decide_eq_false c3
       clear c3
       obtain rfl:=Option.some.inj H
       go_wp2
       go_ret
       exact ⟨by first | rfl | (simp; done) | (simp [*]; done),by repeat (first | exact Drawn0.refl _ | apply Drawn0.step)⟩
 · rw [if_neg c2] at H
   have c2b0 : ((l0.length : Int) == 256) = false:=beq_eq_false_iff_ne.mpr c2
   have c2b1 : ((l0.length : Int) != 256) = true:=bne_iff_ne.mpr c2
   obtain rfl:=Option.some.inj H
   go_enter Tryz.func242,Tryz.ntmps242
   go_wp2
   go_ret
   exact ⟨by first | rfl | (simp; done) | (simp [*]; done),by repeat (first | exact Drawn0.refl _ | apply Drawn0.step)⟩
def puncheonref05_Total.l0 : Nat -> List Int -> Int -> Bool -> Int -> Option (Int)
 | 0,_,_,_,_=>none
 | k + 1,x0,x3,x4,x5=>if x5 < (x0.length : Int) then (if x4 = true then (if 0 <= x5 then (puncheonref05_Total.l0 k x0 (wrap64 (x3 + (rd x0 x5))) x4 (wrap64 (x5 + 1))) else (none)) else (some x3)) else (some x3)
def puncheonref05_Total.f (k : Nat) (l0 : List Int) : Option (Int):=(puncheonref05_Right.f k l0).bind λ t119=>(puncheonref05_Total.l0 k l0 0 t119 0)
theorem puncheonref05_Total.mono_l : ∀ k,(∀ y0 y1 y2 y3,LeO (puncheonref05_Total.l0 k y0 y1 y2 y3) (puncheonref05_Total.l0 (k + 1) y0 y1 y2 y3))
 | 0=>λ _ _ _ _ r h=>by simp [puncheonref05_Total.l0] at h
 | k + 1=>by
  have ih0:=puncheonref05_Total.mono_l k
  · intro y0 y1 y2 y3
    unfold puncheonref05_Total.l0
    repeat' first
    | (with_reducible exact ih0 _ _ _ _)
    | (with_reducible exact puncheonref05_Right.mono _ _)
    | (with_reducible exact LeO.refl _)
    | (with_reducible exact LeO.none _)
    | (with_reducible refine LeO.ite ?_ ?_)
    | (with_reducible refine LeO.bind ?_ (λ _=>?_))
    | exact ih0 _ _ _ _
    | exact puncheonref05_Right.mono _ _
    | exact LeO.none _
    | refine LeO.ite ?_ ?_
    | refine LeO.bind ?_ (λ _=>?_)
theorem puncheonref05_Total.mono : ∀ a0 k,LeO (puncheonref05_Total.f k a0) (puncheonref05_Total.f (k + 1) a0):=by
 intro a0 k
 have ih0:=puncheonref05_Total.mono_l k
 unfold puncheonref05_Total.f
 repeat' first
     | (with_reducible exact ih0 _ _ _ _)
     | (with_reducible exact puncheonref05_Right.mono _ _)
     | (with_reducible exact LeO.refl _)
     | (with_reducible exact LeO.none _)
     | (with_reducible refine LeO.ite ?_ ?_)
     | (with_reducible refine LeO.bind ?_ (λ _=>?_))
     | exact ih0 _ _ _ _
     | exact puncheonref05_Right.mono _ _
     | exact LeO.none _
     | refine LeO.ite ?_ ?_
     | refine LeO.bind ?_ (λ _=>?_)
set_option maxHeartbeats 8000000 in
set_option maxRecDepth 100000 in
theorem puncheonref05_Total.calls (k : Nat) (A0 : Option Addr) (c0 : Nat) (l0 : List Int) (r : Int) (w : World) (hr0 : Kd.C (Kd.int .i64) w A0 l0.length l0) (hc0 : l0.length <= c0) (h : puncheonref05_Total.f k l0 = some r) :
    Calls Tryz.prog 218 #[.slice A0 l0.length c0] w λ e w'=>e = .returned (.int .i64 r) /\ Drawn0 w w':=by
 have HR0:=Aside0.mk hr0
 have HC0:=Aside0.mk hc0
 clear hr0 hc0
 have H : ((puncheonref05_Right.f k l0).bind λ t119=>(puncheonref05_Total.l0 k l0 0 t119 0)) = some r:=h
 clear h
 replace H:=Option.bind_eq_some_iff.mp H
 obtain ⟨t119,A20,H⟩:=H
 replace H : (puncheonref05_Total.l0 k l0 0 t119 0) = some r:=H
 have A2:=Aside0.mk A20
 clear A20
 have H':=Aside0.mk H
 clear H
 go_enter Tryz.func218,Tryz.ntmps218
 go_wp2_with (first | ((with_reducible refine a1l (f:=242) rfl ?_); refine a1k (some 7) rfl rfl Tryz.func242 (by kernel_rfl) rfl #[.slice A0 l0.length c0] rfl (by (try simp only [List.map_toArray,List.map_cons,List.map_nil]); first | done | rfl | (simp only [List.length_drop,List.length_take]; rfl)) ?_; (with_reducible refine (puncheonref05_Right.calls k _ _ l0 t119 _ ?side1 ?side2 A2.out).mono ?_); (case side1=>repeat (first | exact HR0.out | (with_reducible refine Kd.C_alloc ?_ _) | (with_reducible refine Kd.C_drewN ?_ _) | (with_reducible refine Kd.C_drew ?_))); (case side2=>exact HC0.out); rintro e w' ⟨rfl,⟨nd,rfl⟩⟩; refine ⟨_,rfl,?_⟩))
 go_loopg [3,5] k (λ kq v3 v5 w'=>∃ (x3_1 : Int) (x5_1 : Int),v3 = .int .i64 x3_1 /\ v5 = .int .i64 x5_1 /\ Aside0 (puncheonref05_Total.l0 kq l0 x3_1 t119 x5_1 = some r) /\ Aside0 (kq <= k) /\ Drawn0 w w')
 case atStart=>exact ⟨(0),(0),(by first | rfl | (simp; done) | (simp [*]; done)),(by first | rfl | (simp; done) | (simp [*]; done)),H',⟨Nat.le_refl _⟩,by repeat (first | exact Drawn0.refl _ | apply Drawn0.step)⟩
 case round=>
  clear H'
  try clear c2
  try clear p2
  obtain ⟨x3_1,x5_1,rfl,rfl,HA,HK1,⟨m1,rfl⟩⟩:=hrel
  cases gk with
  | zero=>exact absurd HA.out (by simp [puncheonref05_Total.l0])
  | succ k1=>
   have H:=HA.out
   clear HA
   simp only [puncheonref05_Total.l0] at H
   by_cases c3 : x5_1 < (l0.length : Int)
   · rw [if_pos c3] at H
     have c3b0 : decide (x5_1 < (l0.length : Int)) = true:=decide_eq_true c3
     clear c3
     by_cases c4 : t119 = true
     · subst c4
       have H1 : (if 0 <= x5_1 then (puncheonref05_Total.l0 k1 l0 (wrap64 (x3_1 + (rd l0 x5_1))) true (wrap64 (x5_1 + 1))) else (none)) = some r:=by rw [if_pos rfl] at H; exact H
       clear H
       have H:=H1
       clear H1
       by_cases c5 : 0 <= x5_1
       · rw [if_pos c5] at H
         have c5b0 : decide (0 <= x5_1) = true:=decide_eq_true c5
         clear c5
         have H':=Aside0.mk H
         clear H
         have p120 : 0 <= (x5_1 : Int):=of_decide_eq_true (by first | (with_reducible assumption) | assumption)
         have q120 : x5_1 < (l0.length : Int):=of_decide_eq_true (by first | (with_reducible assumption) | assumption)
         obtain ⟨ad120,e120,hx120_0⟩:=Kd.at_int HR0.out x5_1 p120 q120
         cases e120
         replace p120:=eq_true p120
         replace q120:=eq_true q120
         go_wp2
         go_roundg k1
         case measure=>have:=HK1.out; omega
         case rel=>exact ⟨(wrap64 (x3_1 + (rd l0 x5_1))),(wrap64 (x5_1 + 1)),(by first | rfl | (simp; done) | (simp [*]; done)),(by first | rfl | (simp; done) | (simp [*]; done)),H',⟨by have:=HK1.out; omega⟩,by repeat (first | exact Drawn0.refl _ | apply Drawn0.step)⟩
       · rw [if_neg c5] at H
         exact absurd H (by simp)
     · replace c4:=Bool.eq_false_iff.mpr c4
       subst c4
       have H1 : (some x3_1) = some r:=by rw [if_neg (show ¬ (false = true) by decide)] at H; exact H
       clear H
       have H:=H1
       clear H1
       obtain rfl:=Option.some.inj H
       go_wp2
       go_ret
       exact ⟨by first | rfl | (simp; done) | (simp [*]; done),by repeat (first | exact Drawn0.refl _ | apply Drawn0.step)⟩
   · rw [if_neg c3] at H
     have c3b0 : decide (x5_1 < (l0.length : Int)) = false:=decide_eq_false c3
     clear c3
     obtain rfl:=Option.some.inj H
     go_wp2
     go_ret
     exact ⟨by first | rfl | (simp; done) | (simp [*]; done),by repeat (first | exact Drawn0.refl _ | apply Drawn0.step)⟩
def puncheonref08_power.l0 : Nat -> Int -> Int -> Int -> Option (Int)
 | 0,_,_,_=>none
 | k + 1,x0,x3,x4=>if x4 < x0 then (puncheonref08_power.l0 k x0 (wrap64 (2 * x3)) (wrap64 (x4 + 1))) else (some x3)
def puncheonref08_power.f (k : Nat) (a0 : Int) : Option (Int):=puncheonref08_power.l0 k a0 1 0
theorem puncheonref08_power.mono_l : ∀ k,(∀ y0 y1 y2,LeO (puncheonref08_power.l0 k y0 y1 y2) (puncheonref08_power.l0 (k + 1) y0 y1 y2))
 | 0=>λ _ _ _ r h=>by simp [puncheonref08_power.l0] at h
 | k + 1=>by
  have ih0:=puncheonref08_power.mono_l k
  · intro y0 y1 y2
    unfold puncheonref08_power.l0
    repeat' first
    | (with_reducible exact ih0 _ _ _)
    | (with_reducible exact LeO.refl _)
    | (with_reducible exact LeO.none _)
    | (with_reducible refine LeO.ite ?_ ?_)
    | (with_reducible refine LeO.bind ?_ (λ _=>?_))
    | exact ih0 _ _ _
    | exact LeO.none _
    | refine LeO.ite ?_ ?_
    | refine LeO.bind ?_ (λ _=>?_)
theorem puncheonref08_power.mono : ∀ a0 k,LeO (puncheonref08_power.f k a0) (puncheonref08_power.f (k + 1) a0):=by
 intro a0 k
 have ih0:=puncheonref08_power.mono_l k
 unfold puncheonref08_power.f
 repeat' first
     | (with_reducible exact ih0 _ _ _)
     | (with_reducible exact LeO.refl _)
     | (with_reducible exact LeO.none _)
     | (with_reducible refine LeO.ite ?_ ?_)
     | (with_reducible refine LeO.bind ?_ (λ _=>?_))
     | exact ih0 _ _ _
     | exact LeO.none _
     | refine LeO.ite ?_ ?_
     | refine LeO.bind ?_ (λ _=>?_)
set_option maxHeartbeats 8000000 in
set_option maxRecDepth 100000 in
theorem puncheonref08_power.calls (k : Nat) (a0 : Int) (r : Int) (w : World) (h : puncheonref08_power.f k a0 = some r) :
    Calls Tryz.prog 219 #[.int .i64 a0] w λ e w'=>e = .returned (.int .i64 r) /\ Drawn0 w w':=by
 have H : (puncheonref08_power.l0 k a0 1 0) = some r:=h
 clear h
 have H':=Aside0.mk H
 clear H
 go_enter Tryz.func219,Tryz.ntmps219
 go_wp2
 go_loopg [3,4] k (λ kq v3 v4 w'=>∃ (x3_1 : Int) (x4_1 : Int),v3 = .int .i64 x3_1 /\ v4 = .int .i64 x4_1 /\ Aside0 (puncheonref08_power.l0 kq a0 x3_1 x4_1 = some r) /\ Aside0 (kq <= k) /\ Drawn0 w w')
 case atStart=>exact ⟨(1),(0),(by first | rfl | (simp; done) | (simp [*]; done)),(by first | rfl | (simp; done) | (simp [*]; done)),H',⟨Nat.le_refl _⟩,by repeat (first | exact Drawn0.refl _ | apply Drawn0.step)⟩
 case round=>
  clear H'
  obtain ⟨x3_1,x4_1,rfl,rfl,HA,HK1,⟨m1,rfl⟩⟩:=hrel
  cases gk with
  | zero=>exact absurd HA.out (by simp [puncheonref08_power.l0])
  | succ k1=>
   have H:=HA.out
   clear HA
   simp only [puncheonref08_power.l0] at H
   by_cases c2 : x4_1 < a0
   · rw [if_pos c2] at H
     have c2b0 : decide (x4_1 < a0) = true:=decide_eq_true c2
     clear c2
     have H':=Aside0.mk H
     clear H
     go_wp2
     go_roundg k1
     case measure=>have:=HK1.out; omega
     case rel=>exact ⟨(wrap64 (2 * x3_1)),(wrap64 (x4_1 + 1)),(by first | rfl | (simp; done) | (simp [*]; done)),(by first | rfl | (simp; done) | (simp [*]; done)),H',⟨by have:=HK1.out; omega⟩,by repeat (first | exact Drawn0.refl _ | apply Drawn0.step)⟩
   · rw [if_neg c2] at H
     have c2b0 : decide (x4_1 < a0) = false:=decide_eq_false c2
     clear c2
     obtain rfl:=Option.some.inj H
     go_wp2
     go_ret
     exact ⟨by first | rfl | (simp; done) | (simp [*]; done),by repeat (first | exact Drawn0.refl _ | apply Drawn0.step)⟩
end Go.Proofs.YtflfjpkmjnnodaaGreat.PRef
namespace Go.Proofs.YtflfjpkmjnnodaaGreat.PRef
open Go.RowKit Go.Proofs.YtflfjpkmjnnodaaGreatW.PrintWords Go.Proofs.YtflfjpkmjnnodaaGreatW.PrintLast Go.Proofs.YtflfjpkmjnnodaaGreatW.PrintMore
attribute [local go_sem] a1Z a1Q a2a a1R a2p a2q a2r a2s   -- for this text's walks alone
set_option linter.unusedVariables false
set_option linter.unusedSimpArgs false
def puncheonref08_Log.l0 : Nat -> Int -> Int -> Option (Int)
 | 0,_,_=>none
 | k + 1,x3,x4=>if x4 <= 12 then ((puncheonref08_power.f k x4).bind λ t122=>(if x3 = t122 then (some x4) else (puncheonref08_Log.l0 k x3 (wrap64 (x4 + 1))))) else (some 0)
def puncheonref08_Log.f (k : Nat) (l0 : List Int) : Option (Int):=(puncheonref05_Total.f k l0).bind λ t121=>(puncheonref08_Log.l0 k t121 1)
theorem puncheonref08_Log.mono_l : ∀ k,(∀ y0 y1,LeO (puncheonref08_Log.l0 k y0 y1) (puncheonref08_Log.l0 (k + 1) y0 y1))
 | 0=>λ _ _ r h=>by simp [puncheonref08_Log.l0] at h
 | k + 1=>by
  have ih0:=puncheonref08_Log.mono_l k
  · intro y0 y1
    unfold puncheonref08_Log.l0
    repeat' first
    | (with_reducible exact ih0 _ _)
    | (with_reducible exact puncheonref05_Total.mono _ _)
    | (with_reducible exact puncheonref08_power.mono _ _)
    | (with_reducible exact LeO.refl _)
    | (with_reducible exact LeO.none _)
    | (with_reducible refine LeO.ite ?_ ?_)
    | (with_reducible refine LeO.bind ?_ (λ _=>?_))
    | exact ih0 _ _
    | exact puncheonref05_Total.mono _ _
    | exact puncheonref08_power.mono _ _
    | exact LeO.none _
    | refine LeO.ite ?_ ?_
    | refine LeO.bind ?_ (λ _=>?_)
theorem puncheonref08_Log.mono : ∀ a0 k,LeO (puncheonref08_Log.f k a0) (puncheonref08_Log.f (k + 1) a0):=by
 intro a0 k
 have ih0:=puncheonref08_Log.mono_l k
 unfold puncheonref08_Log.f
 repeat' first
     | (with_reducible exact ih0 _ _)
     | (with_reducible exact puncheonref05_Total.mono _ _)
     | (with_reducible exact puncheonref08_power.mono _ _)
     | (with_reducible exact LeO.refl _)
     | (with_reducible exact LeO.none _)
     | (with_reducible refine LeO.ite ?_ ?_)
     | (with_reducible refine LeO.bind ?_ (λ _=>?_))
     | exact ih0 _ _
     | exact puncheonref05_Total.mono _ _
     | exact puncheonref08_power.mono _ _
     | exact LeO.none _
     | refine LeO.ite ?_ ?_
     | refine LeO.bind ?_ (λ _=>?_)
set_option maxHeartbeats 8000000 in
set_option maxRecDepth 100000 in
theorem puncheonref08_Log.calls (k : Nat) (A0 : Option Addr) (c0 : Nat) (l0 : List Int) (r : Int) (w : World) (hr0 : Kd.C (Kd.int .i64) w A0 l0.length l0) (hc0 : l0.length <= c0) (h : puncheonref08_Log.f k l0 = some r) :
    Calls Tryz.prog 172 #[.slice A0 l0.length c0] w λ e w'=>e = .returned (.int .i64 r) /\ Drawn0 w w':=by
 have HR0:=Aside0.mk hr0
 have HC0:=Aside0.mk hc0
 clear hr0 hc0
 have H : ((puncheonref05_Total.f k l0).bind λ t121=>(puncheonref08_Log.l0 k t121 1)) = some r:=h
 clear h
 replace H:=Option.bind_eq_some_iff.mp H
 obtain ⟨t121,A20,H⟩:=H
 replace H : (puncheonref08_Log.l0 k t121 1) = some r:=H
 have A2:=Aside0.mk A20
 clear A20
 have H':=Aside0.mk H
 clear H
 go_enter Tryz.func172,Tryz.ntmps172
 go_wp2_with (first | ((with_reducible refine a1l (f:=218) rfl ?_); refine a1k (some 6) rfl rfl Tryz.func218 (by kernel_rfl) rfl #[.slice A0 l0.length c0] rfl (by (try simp only [List.map_toArray,List.map_cons,List.map_nil]); first | done | rfl | (simp only [List.length_drop,List.length_take]; rfl)) ?_; (with_reducible refine (puncheonref05_Total.calls k _ _ l0 t121 _ ?side1 ?side2 A2.out).mono ?_); (case side1=>repeat (first | exact HR0.out | (with_reducible refine Kd.C_alloc ?_ _) | (with_reducible refine Kd.C_drewN ?_ _) | (with_reducible refine Kd.C_drew ?_))); (case side2=>exact HC0.out); rintro e w' ⟨rfl,⟨nd,rfl⟩⟩; refine ⟨_,rfl,?_⟩))
 go_loopg [4] k (λ kq v4 w'=>∃ (x4_1 : Int),v4 = .int .i64 x4_1 /\ Aside0 (puncheonref08_Log.l0 kq t121 x4_1 = some r) /\ Aside0 (kq <= k) /\ Drawn0 w w')
 case atStart=>exact ⟨(1),(by first | rfl | (simp; done) | (simp [*]; done)),H',⟨Nat.le_refl _⟩,by repeat (first | exact Drawn0.refl _ | apply Drawn0.step)⟩
 case round=>
  clear H'
  try clear c1
  try clear c2
  try clear p2
  obtain ⟨x4_1,rfl,HA,HK1,⟨m1,rfl⟩⟩:=hrel
  cases gk with
  | zero=>exact absurd HA.out (by simp [puncheonref08_Log.l0])
  | succ k1=>
   have H:=HA.out
   clear HA
   simp only [puncheonref08_Log.l0] at H
   by_cases c3 : x4_1 <= 12
   · rw [if_pos c3] at H
     have c3b0 : decide (x4_1 <= 12) = true:=decide_eq_true c3
     clear c3
     replace H:=Option.bind_eq_some_iff.mp H
     obtain ⟨t122,A40,H⟩:=H
     replace H : (if t121 = t122 then (some x4_1) else (puncheonref08_Log.l0 k1 t121 (wrap64 (x4_1 + 1)))) = some r:=H
     have A4:=Aside0.mk A40
     clear A40
     by_cases c5 : t121 = t122
     · rw [if_pos c5] at H
       have c5b0 : (t121 == t122) = true:=beq_iff_eq.mpr c5
       have c5b1 : (t121 != t122) = false:=bne_eq_false_iff_eq.mpr c5
       clear c5
       obtain rfl:=Option.some.inj H
       go_wp2_with (first | ((with_reducible refine a1l (f:=219) rfl ?_); refine a1k (some 13) rfl rfl Tryz.func219 (by kernel_rfl) rfl #[.int .i64 x4_1] rfl (by (try simp only [List.map_toArray,List.map_cons,List.map_nil]); first | done | rfl | (simp only [List.length_drop,List.length_take]; rfl)) ?_; (with_reducible refine (puncheonref08_power.calls k1 x4_1 t122 _ A4.out).mono ?_); rintro e w' ⟨rfl,⟨nd,rfl⟩⟩; refine ⟨_,rfl,?_⟩))
       go_ret
       exact ⟨by first | rfl | (simp; done) | (simp [*]; done),by repeat (first | exact Drawn0.refl _ | apply Drawn0.step)⟩
     · rw [if_neg c5] at H
       have c5b0 : (t121 == t122) = false:=beq_eq_false_iff_ne.mpr c5
       have c5b1 : (t121 != t122) = true:=bne_iff_ne.mpr c5
       have H':=Aside0.mk H
       clear H
       go_wp2_with (first | ((with_reducible refine a1l (f:=219) rfl ?_); refine a1k (some 13) rfl rfl Tryz.func219 (by kernel_rfl) rfl #[.int .i64 x4_1] rfl (by (try simp only [List.map_toArray,List.map_cons,List.map_nil]); first | done | rfl | (simp only [List.length_drop,List.length_take]; rfl)) ?_; (with_reducible refine (puncheonref08_power.calls k1 x4_1 t122 _ A4.out).mono ?_); rintro e w' ⟨rfl,⟨nd,rfl⟩⟩; refine ⟨_,rfl,?_⟩))
       go_roundg k1
       case measure=>have:=HK1.out; omega
       case rel=>exact ⟨(wrap64 (x4_1 + 1)),(by first | rfl | (simp; done) | (simp [*]; done)),H',⟨by have:=HK1.out; omega⟩,by repeat (first | exact Drawn0.refl _ | apply Drawn0.step)⟩
   · rw [if_neg c3] at H
     have c3b0 : decide (x4_1 <= 12) = false:=decide_eq_false c3
     clear c3
     obtain rfl:=Option.some.inj H
     go_wp2
     go_ret
     exact ⟨by first | rfl | (simp; done) | (simp [*]; done),by repeat (first | exact Drawn0.refl _ | apply Drawn0.step)⟩
def puncheonref10_less.l0 : Nat -> List Int -> Int -> Int -> Int -> Int -> Int -> Option (Int)
 | 0,_,_,_,_,_,_=>none
 | k + 1,x0,x1,x2,x3,x9,x10=>if 0 <= x1 then (if x1 < (x0.length : Int) then (if x10 < (wrap64 (2 * (rd x0 x1))) then (if 0 <= x2 then (if x2 < (x0.length : Int) then (if (wrap64 (x10 * (rd x0 x2))) < (wrap64 (x3 * (rd x0 x1))) then (puncheonref10_less.l0 k x0 x1 x2 x3 (wrap64 (x9 + 1)) (wrap64 (x10 + 1))) else (if (wrap64 (x10 * (rd x0 x2))) = (wrap64 (x3 * (rd x0 x1))) then (if x1 < x2 then (puncheonref10_less.l0 k x0 x1 x2 x3 (wrap64 (x9 + 1)) (wrap64 (x10 + 1))) else (puncheonref10_less.l0 k x0 x1 x2 x3 x9 (wrap64 (x10 + 1)))) else (puncheonref10_less.l0 k x0 x1 x2 x3 x9 (wrap64 (x10 + 1))))) else (none)) else (none)) else (some x9)) else (none)) else (none)
def puncheonref10_less.f (k : Nat) (l0 : List Int) (a1 : Int) (a2 : Int) (a3 : Int) : Option (Int):=if 0 <= a1 then (if a1 < (l0.length : Int) then (puncheonref10_less.l0 k l0 a1 a2 a3 0 (rd l0 a1)) else (none)) else (none)
theorem puncheonref10_less.mono_l : ∀ k,(∀ y0 y1 y2 y3 y4 y5,LeO (puncheonref10_less.l0 k y0 y1 y2 y3 y4 y5) (puncheonref10_less.l0 (k + 1) y0 y1 y2 y3 y4 y5))
 | 0=>λ _ _ _ _ _ _ r h=>by simp [puncheonref10_less.l0] at h
 | k + 1=>by
  have ih0:=puncheonref10_less.mono_l k
  · intro y0 y1 y2 y3 y4 y5
    unfold puncheonref10_less.l0
    repeat' first
    | (with_reducible exact ih0 _ _ _ _ _ _)
    | (with_reducible exact LeO.refl _)
    | (with_reducible exact LeO.none _)
    | (with_reducible refine LeO.ite ?_ ?_)
    | (with_reducible refine LeO.bind ?_ (λ _=>?_))
    | exact ih0 _ _ _ _ _ _
    | exact LeO.none _
    | refine LeO.ite ?_ ?_
    | refine LeO.bind ?_ (λ _=>?_)
theorem puncheonref10_less.mono : ∀ a0 a1 a2 a3 k,LeO (puncheonref10_less.f k a0 a1 a2 a3) (puncheonref10_less.f (k + 1) a0 a1 a2 a3):=by
 intro a0 a1 a2 a3 k
 have ih0:=puncheonref10_less.mono_l k
 unfold puncheonref10_less.f
 repeat' first
     | (with_reducible exact ih0 _ _ _ _ _ _)
     | (with_reducible exact LeO.refl _)
     | (with_reducible exact LeO.none _)
     | (with_reducible refine LeO.ite ?_ ?_)
     | (with_reducible refine LeO.bind ?_ (λ _=>?_))
     | exact ih0 _ _ _ _ _ _
     | exact LeO.none _
     | refine LeO.ite ?_ ?_
     | refine LeO.bind ?_ (λ _=>?_)
set_option maxHeartbeats 8000000 in
set_option maxRecDepth 100000 in
theorem puncheonref10_less.calls (k : Nat) (A0 : Option Addr) (c0 : Nat) (l0 : List Int) (a1 : Int) (a2 : Int) (a3 : Int) (r : Int) (w : World) (hr0 : Kd.C (Kd.int .i64) w A0 l0.length l0) (hc0 : l0.length <= c0) (h : puncheonref10_less.f k l0 a1 a2 a3 = some r) :
    Calls Tryz.prog 220 #[.slice A0 l0.length c0,.int .i64 a1,.int .i64 a2,.int .i64 a3] w λ e w'=>e = .returned (.int .i64 r) /\ Drawn0 w w':=by
 have HR0:=Aside0.mk hr0
 have HC0:=Aside0.mk hc0
 clear hr0 hc0
 have H : (if 0 <= a1 then (if a1 < (l0.length : Int) then (puncheonref10_less.l0 k l0 a1 a2 a3 0 (rd l0 a1)) else (none)) else (none)) = some r:=h
 clear h
 by_cases c5 : 0 <= a1
 · rw [if_pos c5] at H
   have c5b0 : decide (0 <= a1) = true:=decide_eq_true c5
   clear c5
   by_cases c6 : a1 < (l0.length : Int)
   · rw [if_pos c6] at H
     have c6b0 : decide (a1 < (l0.length : Int)) = true:=decide_eq_true c6
     clear c6
     have H':=Aside0.mk H
     clear H
     have p123 : 0 <= (a1 : Int):=of_decide_eq_true (by first | (with_reducible assumption) | assumption)
     have q123 : a1 < (l0.length : Int):=of_decide_eq_true (by first | (with_reducible assumption) | assumption)
     obtain ⟨ad123,e123,hx123_0⟩:=Kd.at_int HR0.out a1 p123 q123
     cases e123
     replace p123:=eq_true p123
     replace q123:=eq_true q123
     go_enter Tryz.func220,Tryz.ntmps220
     go_wp2
     repeat (go_quiet (fail); try go_wp2)
     go_loopg [9,10] k (λ kq v9 v10 w'=>∃ (x9_1 : Int) (x10_1 : Int),v9 = .int .i64 x9_1 /\ v10 = .int .i64 x10_1 /\ Aside0 (puncheonref10_less.l0 kq l0 a1 a2 a3 x9_1 x10_1 = some r) /\ Aside0 (kq <= k) /\ Drawn0 w w')
     case atStart=>exact ⟨(0),(rd l0 a1),(by first | rfl | (simp; done) | (simp [*]; done)),(by first | rfl | (simp; done) | (simp [*]; done)),H',⟨Nat.le_refl _⟩,by repeat (first | exact Drawn0.refl _ | apply Drawn0.step)⟩
     case round=>
      clear H'
      try clear p1
      try clear q1
      try clear hx1
      try clear c2
      try clear p2
      try clear c5
      try clear c5b0
      try clear c6
      try clear c6b0
      try clear hx123_0
      try clear p123
      try clear q123
      obtain ⟨x9_1,x10_1,rfl,rfl,HA,HK1,⟨m1,rfl⟩⟩:=hrel
      cases gk with
      | zero=>exact absurd HA.out (by simp [puncheonref10_less.l0])
      | succ k1=>
       have H:=HA.out
       clear HA
       simp only [puncheonref10_less.l0] at H
       by_cases c7 : 0 <= a1
       · rw [if_pos c7] at H
         have c7b0 : decide (0 <= a1) = true:=decide_eq_true c7
         clear c7
         by_cases c8 : a1 < (l0.length : Int)
         · rw [if_pos c8] at H
           have c8b0 : decide (a1 < (l0.length : Int)) = true:=decide_eq_true c8
           clear c8
           by_cases c9 : x10_1 < (wrap64 (2 * (rd l0 a1)))
           · rw [if_pos c9] at H
             have c9b0 : decide (x10_1 < (wrap64 (2 * (rd l0 a1)))) = true:=decide_eq_true c9
             clear c9
             by_cases c10 : 0 <= a2
             · rw [if_pos c10] at H
               have c10b0 : decide (0 <= a2) = true:=decide_eq_true c10
               clear c10
               by_cases c11 : a2 < (l0.length : Int)
               · rw [if_pos c11] at H
                 have c11b0 : decide (a2 < (l0.length : Int)) = true:=decide_eq_true c11
                 clear c11
                 by_cases c12 : (wrap64 (x10_1 * (rd l0 a2))) < (wrap64 (a3 * (rd l0 a1)))
                 · rw [if_pos c12] at H
                   have c12b0 : decide ((wrap64 (x10_1 * (rd l0 a2))) < (wrap64 (a3 * (rd l0 a1)))) = true:=decide_eq_true c12
                   clear c12
                   have H':=Aside0.mk H
                   clear H
                   have p124 : 0 <= (a1 : Int):=of_decide_eq_true (by first | (with_reducible assumption) | assumption)
                   have q124 : a1 < (l0.length : Int):=of_decide_eq_true (by first | (with_reducible assumption) | assumption)
                   obtain ⟨ad124,e124,hx124_0⟩:=Kd.at_int HR0.out a1 p124 q124
                   obtain rfl : ad123 = ad124:=(by injection e124)
                   replace p124:=eq_true p124
                   replace q124:=eq_true q124
                   have p125 : 0 <= (a2 : Int):=of_decide_eq_true (by first | (with_reducible assumption) | assumption)
                   have q125 : a2 < (l0.length : Int):=of_decide_eq_true (by first | (with_reducible assumption) | assumption)
                   obtain ⟨ad125,e125,hx125_0⟩:=Kd.at_int HR0.out a2 p125 q125
                   obtain rfl : ad123 = ad125:=(by injection e125)
                   replace p125:=eq_true p125
                   replace q125:=eq_true q125
                   have p126 : 0 <= (a1 : Int):=of_decide_eq_true (by first | (with_reducible assumption) | assumption)
                   have q126 : a1 < (l0.length : Int):=of_decide_eq_true (by first | (with_reducible assumption) | assumption)
                   obtain ⟨ad126,e126,hx126_0⟩:=Kd.at_int HR0.out a1 p126 q126
                   obtain rfl : ad123 = ad126:=(by injection e126)
                   replace p126:=eq_true p126
                   replace q126:=eq_true q126
                   go_wp2
                   repeat (go_quiet (fail); try go_wp2)
                   go_roundg k1
                   case measure=>have:=HK1.out; omega
                   case rel=>exact ⟨(wrap64 (x9_1 + 1)),(wrap64 (x10_1 + 1)),(by first | rfl | (simp; done) | (simp [*]; done)),(by first | rfl | (simp; done) | (simp [*]; done)),H',⟨by have:=HK1.out; omega⟩,by repeat (first | exact Drawn0.refl _ | apply Drawn0.step)⟩
                 · rw [if_neg c12] at H
                   have c12b0 : decide ((wrap64 (x10_1 * (rd l0 a2))) < (wrap64 (a3 * (rd l0 a1)))) = false:=decide_eq_false c12
                   clear c12
                   by_cases c13 : (wrap64 (x10_1 * (rd l0 a2))) = (wrap64 (a3 * (rd l0 a1)))
                   · rw [if_pos c13] at H
                     have c13b0 : ((wrap64 (x10_1 * (rd l0 a2))) == (wrap64 (a3 * (rd l0 a1)))) = true:=beq_iff_eq.mpr c13
                     have c13b1 : ((wrap64 (x10_1 * (rd l0 a2))) != (wrap64 (a3 * (rd l0 a1)))) = false:=bne_eq_false_iff_eq.mpr c13
                     clear c13
                     by_cases c14 : a1 < a2
                     · rw [if_pos c14] at H
                       have c14b0 : decide (a1 < a2) = true:=decide_eq_true c14
                       clear c14
                       have H':=Aside0.mk H
                       clear H
                       have p124 : 0 <= (a1 : Int):=of_decide_eq_true (by first | (with_reducible assumption) | assumption)
                       have q124 : a1 < (l0.length : Int):=of_decide_eq_true (by first | (with_reducible assumption) | assumption)
                       obtain ⟨ad124,e124,hx124_0⟩:=Kd.at_int HR0.out a1 p124 q124
                       obtain rfl : ad123 = ad124:=(by injection e124)
                       replace p124:=eq_true p124
                       replace q124:=eq_true q124
                       have p125 : 0 <= (a2 : Int):=of_decide_eq_true (by first | (with_reducible assumption) | assumption)
                       have q125 : a2 < (l0.length : Int):=of_decide_eq_true (by first | (with_reducible assumption) | assumption)
                       obtain ⟨ad125,e125,hx125_0⟩:=Kd.at_int HR0.out a2 p125 q125
                       obtain rfl : ad123 = ad125:=(by injection e125)
                       replace p125:=eq_true p125
                       replace q125:=eq_true q125
                       have p126 : 0 <= (a1 : Int):=of_decide_eq_true (by first | (with_reducible assumption) | assumption)
                       have q126 : a1 < (l0.length : Int):=of_decide_eq_true (by first | (with_reducible assumption) | assumption)
                       obtain ⟨ad126,e126,hx126_0⟩:=Kd.at_int HR0.out a1 p126 q126
                       obtain rfl : ad123 = ad126:=(by injection e126)
                       replace p126:=eq_true p126
                       replace q126:=eq_true q126
                       have p127 : 0 <= (a2 : Int):=of_decide_eq_true (by first | (with_reducible assumption) | assumption)
                       have q127 : a2 < (l0.length : Int):=of_decide_eq_true (by first | (with_reducible assumption) | assumption)
                       obtain ⟨ad127,e127,hx127_0⟩:=Kd.at_int HR0.out a2 p127 q127
                       obtain rfl : ad123 = ad127:=(by injection e127)
                       replace p127:=eq_true p127
                       replace q127:=eq_true q127
                       have p128 : 0 <= (a1 : Int):=of_decide_eq_true (by first | (with_reducible assumption) | assumption)
                       have q128 : a1 < (l0.length : Int):=of_decide_eq_true (by first | (with_reducible assumption) | assumption)
                       obtain ⟨ad128,e128,hx128_0⟩:=Kd.at_int HR0.out a1 p128 q128
                       obtain rfl : ad123 = ad128:=(by injection e128)
                       replace p128:=eq_true p128
                       replace q128:=eq_true q128
                       go_wp2
                       repeat (go_quiet (fail); try go_wp2)
                       go_roundg k1
                       case measure=>have:=HK1.out; omega
                       case rel=>exact ⟨(wrap64 (x9_1 + 1)),(wrap64 (x10_1 + 1)),(by first | rfl | (simp; done) | (simp [*]; done)),(by first | rfl | (simp; done) | (simp [*]; done)),H',⟨by have:=HK1.out; omega⟩,by repeat (first | exact Drawn0.refl _ | apply Drawn0.step)⟩
                     · rw [if_neg c14] at H
                       have c14b0 : decide (a1 < a2) = false:=decide_eq_false c14
                       clear c14
                       have H':=Aside0.mk H
                       clear H
                       have p124 : 0 <= (a1 : Int):=of_decide_eq_true (by first | (with_reducible assumption) | assumption)
                       have q124 : a1 < (l0.length : Int):=of_decide_eq_true (by first | (with_reducible assumption) | assumption)
                       obtain ⟨ad124,e124,hx124_0⟩:=Kd.at_int HR0.out a1 p124 q124
                       obtain rfl : ad123 = ad124:=(by injection e124)
                       replace p124:=eq_true p124
                       replace q124:=eq_true q124
                       have p125 : 0 <= (a2 : Int):=of_decide_eq_true (by first | (with_reducible assumption) | assumption)
                       have q125 : a2 < (l0.length : Int):=of_decide_eq_true (by first | (with_reducible assumption) | assumption)
                       obtain ⟨ad125,e125,hx125_0⟩:=Kd.at_int HR0.out a2 p125 q125
                       obtain rfl : ad123 = ad125:=(by injection e125)
                       replace p125:=eq_true p125
                       replace q125:=eq_true q125
                       have p126 : 0 <= (a1 : Int):=of_decide_eq_true (by first | (with_reducible assumption) | assumption)
                       have q126 : a1 < (l0.length : Int):=of_decide_eq_true (by first | (with_reducible assumption) | assumption)
                       obtain ⟨ad126,e126,hx126_0⟩:=Kd.at_int HR0.out a1 p126 q126
                       obtain rfl : ad123 = ad126:=(by injection e126)
                       replace p126:=eq_true p126
                       replace q126:=eq_true q126
                       have p127 : 0 <= (a2 : Int):=of_decide_eq_true (by first | (with_reducible assumption) | assumption)
                       have q127 : a2 < (l0.length : Int):=of_decide_eq_true (by first | (with_reducible assumption) | assumption)
                       obtain ⟨ad127,e127,hx127_0⟩:=Kd.at_int HR0.out a2 p127 q127
                       obtain rfl : ad123 = ad127:=(by injection e127)
                       replace p127:=eq_true p127
                       replace q127:=eq_true q127
                       have p128 : 0 <= (a1 : Int):=of_decide_eq_true (by first | (with_reducible assumption) | assumption)
                       have q128 : a1 < (l0.length : Int):=of_decide_eq_true (by first | (with_reducible assumption) | assumption)
                       obtain ⟨ad128,e128,hx128_0⟩:=Kd.at_int HR0.out a1 p128 q128
                       obtain rfl : ad123 = ad128:=(by injection e128)
                       replace p128:=eq_true p128
                       replace q128:=eq_true q128
                       go_wp2
                       repeat (go_quiet (fail); try go_wp2)
                       go_roundg k1
                       case measure=>have:=HK1.out; omega
                       case rel=>exact ⟨(x9_1),(wrap64 (x10_1 + 1)),(by first | rfl | (simp; done) | (simp [*]; done)),(by first | rfl | (simp; done) | (simp [*]; done)),H',⟨by have:=HK1.out; omega⟩,by repeat (first | exact Drawn0.refl _ | apply Drawn0.step)⟩
                   · rw [if_neg c13] at H
                     have c13b0 : ((wrap64 (x10_1 * (rd l0 a2))) == (wrap64 (a3 * (rd l0 a1)))) = false:=beq_eq_false_iff_ne.mpr c13
                     have c13b1 : ((wrap64 (x10_1 * (rd l0 a2))) != (wrap64 (a3 * (rd l0 a1)))) = true:=bne_iff_ne.mpr c13
                     have H':=Aside0.mk H
                     clear H
                     have p124 : 0 <= (a1 : Int):=of_decide_eq_true (by first | (with_reducible assumption) | assumption)
                     have q124 : a1 < (l0.length : Int):=of_decide_eq_true (by first | (with_reducible assumption) | assumption)
                     obtain ⟨ad124,e124,hx124_0⟩:=Kd.at_int HR0.out a1 p124 q124
                     obtain rfl : ad123 = ad124:=(by injection e124)
                     replace p124:=eq_true p124
                     replace q124:=eq_true q124
                     have p125 : 0 <= (a2 : Int):=of_decide_eq_true (by first | (with_reducible assumption) | assumption)
                     have q125 : a2 < (l0.length : Int):=of_decide_eq_true (by first | (with_reducible assumption) | assumption)
                     obtain ⟨ad125,e125,hx125_0⟩:=Kd.at_int HR0.out a2 p125 q125
                     obtain rfl : ad123 = ad125:=(by injection e125)
                     replace p125:=eq_true p125
                     replace q125:=eq_true q125
                     have p126 : 0 <= (a1 : Int):=of_decide_eq_true (by first | (with_reducible assumption) | assumption)
                     have q126 : a1 < (l0.length : Int):=of_decide_eq_true (by first | (with_reducible assumption) | assumption)
                     obtain ⟨ad126,e126,hx126_0⟩:=Kd.at_int HR0.out a1 p126 q126
                     obtain rfl : ad123 = ad126:=(by injection e126)
                     replace p126:=eq_true p126
                     replace q126:=eq_true q126
                     have p127 : 0 <= (a2 : Int):=of_decide_eq_true (by first | (with_reducible assumption) | assumption)
                     have q127 : a2 < (l0.length : Int):=of_decide_eq_true (by first | (with_reducible assumption) | assumption)
                     obtain ⟨ad127,e127,hx127_0⟩:=Kd.at_int HR0.out a2 p127 q127
                     obtain rfl : ad123 = ad127:=(by injection e127)
                     replace p127:=eq_true p127
                     replace q127:=eq_true q127
                     have p128 : 0 <= (a1 : Int):=of_decide_eq_true (by first | (with_reducible assumption) | assumption)
                     have q128 : a1 < (l0.length : Int):=of_decide_eq_true (by first | (with_reducible assumption) | assumption)
                     obtain ⟨ad128,e128,hx128_0⟩:=Kd.at_int HR0.out a1 p128 q128
                     obtain rfl : ad123 = ad128:=(by injection e128)
                     replace p128:=eq_true p128
                     replace q128:=eq_true q128
                     go_wp2
                     repeat (go_quiet (fail); try go_wp2)
                     go_roundg k1
                     case measure=>have:=HK1.out; omega
                     case rel=>exact ⟨(x9_1),(wrap64 (x10_1 + 1)),(by first | rfl | (simp; done) | (simp [*]; done)),(by first | rfl | (simp; done) | (simp [*]; done)),H',⟨by have:=HK1.out; omega⟩,by repeat (first | exact Drawn0.refl _ | apply Drawn0.step)⟩
               · rw [if_neg c11] at H
                 exact absurd H (by simp)
             · rw [if_neg c10] at H
               exact absurd H (by simp)
           · rw [if_neg c9] at H
             have c9b0 : decide (x10_1 < (wrap64 (2 * (rd l0 a1)))) = false:=decide_eq_false c9
             clear c9
             obtain rfl:=Option.some.inj H
             have p124 : 0 <= (a1 : Int):=of_decide_eq_true (by first | (with_reducible assumption) | assumption)
             have q124 : a1 < (l0.length : Int):=of_decide_eq_true (by first | (with_reducible assumption) | assumption)
             obtain ⟨ad124,e124,hx124_0⟩:=Kd.at_int HR0.out a1 p124 q124
             obtain rfl : ad123 = ad124:=(by injection e124)
             replace p124:=eq_true p124
             replace q124:=eq_true q124
             go_wp2
             repeat (go_quiet (fail); try go_wp2)
             go_ret
             exact ⟨by first | rfl | (simp; done) | (simp [*]; done),by repeat (first | exact Drawn0.refl _ | apply Drawn0.step)⟩
         · rw [if_neg c8] at H
           exact absurd H (by simp)
       · rw [if_neg c7] at H
         exact absurd H (by simp)
   · rw [if_neg c6] at H
     exact absurd H (by simp)
 · rw [if_neg c5] at H
   exact absurd H (by simp)
def puncheonref10_Place.l0 : Nat -> List Int -> Int -> Int -> Int -> Int -> Option (Int)
 | 0,_,_,_,_,_=>none
 | k + 1,x0,x1,x2,x7,x8=>if x8 < (x0.length : Int) then ((puncheonref10_less.f k x0 x8 x1 x2).bind λ t129=>(puncheonref10_Place.l0 k x0 x1 x2 (wrap64 (x7 + t129)) (wrap64 (x8 + 1)))) else (some x7)
def puncheonref10_Place.f (k : Nat) (l0 : List Int) (a1 : Int) (a2 : Int) : Option (Int):=puncheonref10_Place.l0 k l0 a1 a2 0 0
theorem puncheonref10_Place.mono_l : ∀ k,(∀ y0 y1 y2 y3 y4,LeO (puncheonref10_Place.l0 k y0 y1 y2 y3 y4) (puncheonref10_Place.l0 (k + 1) y0 y1 y2 y3 y4))
 | 0=>λ _ _ _ _ _ r h=>by simp [puncheonref10_Place.l0] at h
 | k + 1=>by
  have ih0:=puncheonref10_Place.mono_l k
  · intro y0 y1 y2 y3 y4
    unfold puncheonref10_Place.l0
    repeat' first
    | (with_reducible exact ih0 _ _ _ _ _)
    | (with_reducible exact puncheonref10_less.mono _ _ _ _ _)
    | (with_reducible exact LeO.refl _)
    | (with_reducible exact LeO.none _)
    | (with_reducible refine LeO.ite ?_ ?_)
    | (with_reducible refine LeO.bind ?_ (λ _=>?_))
    | exact ih0 _ _ _ _ _
    | exact puncheonref10_less.mono _ _ _ _ _
    | exact LeO.none _
    | refine LeO.ite ?_ ?_
    | refine LeO.bind ?_ (λ _=>?_)
theorem puncheonref10_Place.mono : ∀ a0 a1 a2 k,LeO (puncheonref10_Place.f k a0 a1 a2) (puncheonref10_Place.f (k + 1) a0 a1 a2):=by
 intro a0 a1 a2 k
 have ih0:=puncheonref10_Place.mono_l k
 unfold puncheonref10_Place.f
 repeat' first
     | (with_reducible exact ih0 _ _ _ _ _)
     | (with_reducible exact puncheonref10_less.mono _ _ _ _ _)
     | (with_reducible exact LeO.refl _)
     | (with_reducible exact LeO.none _)
     | (with_reducible refine LeO.ite ?_ ?_)
     | (with_reducible refine LeO.bind ?_ (λ _=>?_))
     | exact ih0 _ _ _ _ _
     | exact puncheonref10_less.mono _ _ _ _ _
     | exact LeO.none _
     | refine LeO.ite ?_ ?_
     | refine LeO.bind ?_ (λ _=>?_)
set_option maxHeartbeats 8000000 in
set_option maxRecDepth 100000 in
theorem puncheonref10_Place.calls (k : Nat) (A0 : Option Addr) (c0 : Nat) (l0 : List Int) (a1 : Int) (a2 : Int) (r : Int) (w : World) (hr0 : Kd.C (Kd.int .i64) w A0 l0.length l0) (hc0 : l0.length <= c0) (h : puncheonref10_Place.f k l0 a1 a2 = some r) :
    Calls Tryz.prog 175 #[.slice A0 l0.length c0,.int .i64 a1,.int .i64 a2] w λ e w'=>e = .returned (.int .i64 r) /\ Drawn0 w w':=by
 have HR0:=Aside0.mk hr0
 have HC0:=Aside0.mk hc0
 clear hr0 hc0
 have H : (puncheonref10_Place.l0 k l0 a1 a2 0 0) = some r:=h
 clear h
 have H':=Aside0.mk H
 clear H
 go_enter Tryz.func175,Tryz.ntmps175
 go_wp2
 go_loopg [7,8] k (λ kq v7 v8 w'=>∃ (x7_1 : Int) (x8_1 : Int),v7 = .int .i64 x7_1 /\ v8 = .int .i64 x8_1 /\ Aside0 (puncheonref10_Place.l0 kq l0 a1 a2 x7_1 x8_1 = some r) /\ Aside0 (kq <= k) /\ Drawn0 w w')
 case atStart=>exact ⟨(0),(0),(by first | rfl | (simp; done) | (simp [*]; done)),(by first | rfl | (simp; done) | (simp [*]; done)),H',⟨Nat.le_refl _⟩,by repeat (first | exact Drawn0.refl _ | apply Drawn0.step)⟩
 case round=>
  clear H'
  try clear c1
  try clear p2
  obtain ⟨x7_1,x8_1,rfl,rfl,HA,HK1,⟨m1,rfl⟩⟩:=hrel
  cases gk with
  | zero=>exact absurd HA.out (by simp [puncheonref10_Place.l0])
  | succ k1=>
   have H:=HA.out
   clear HA
   simp only [puncheonref10_Place.l0] at H
   by_cases c4 : x8_1 < (l0.length : Int)
   · rw [if_pos c4] at H
     have c4b0 : decide (x8_1 < (l0.length : Int)) = true:=decide_eq_true c4
     clear c4
     replace H:=Option.bind_eq_some_iff.mp H
     obtain ⟨t129,A50,H⟩:=H
     replace H : (puncheonref10_Place.l0 k1 l0 a1 a2 (wrap64 (x7_1 + t129)) (wrap64 (x8_1 + 1))) = some r:=H
     have A5:=Aside0.mk A50
     clear A50
     have H':=Aside0.mk H
     clear H
     go_wp2_with (first | ((with_reducible refine a1l (f:=220) rfl ?_); refine a1k (some 20) rfl rfl Tryz.func220 (by kernel_rfl) rfl #[.slice A0 l0.length c0,.int .i64 x8_1,.int .i64 a1,.int .i64 a2] rfl (by (try simp only [List.map_toArray,List.map_cons,List.map_nil]); first | done | rfl | (simp only [List.length_drop,List.length_take]; rfl)) ?_; (with_reducible refine (puncheonref10_less.calls k1 _ _ l0 x8_1 a1 a2 t129 _ ?side1 ?side2 A5.out).mono ?_); (case side1=>repeat (first | exact HR0.out | (with_reducible refine Kd.C_alloc ?_ _) | (with_reducible refine Kd.C_drewN ?_ _) | (with_reducible refine Kd.C_drew ?_))); (case side2=>exact HC0.out); rintro e w' ⟨rfl,⟨nd,rfl⟩⟩; refine ⟨_,rfl,?_⟩))
     go_roundg k1
     case measure=>have:=HK1.out; omega
     case rel=>exact ⟨(wrap64 (x7_1 + t129)),(wrap64 (x8_1 + 1)),(by first | rfl | (simp; done) | (simp [*]; done)),(by first | rfl | (simp; done) | (simp [*]; done)),H',⟨by have:=HK1.out; omega⟩,by repeat (first | exact Drawn0.refl _ | apply Drawn0.step)⟩
   · rw [if_neg c4] at H
     have c4b0 : decide (x8_1 < (l0.length : Int)) = false:=decide_eq_false c4
     clear c4
     obtain rfl:=Option.some.inj H
     go_wp2
     go_ret
     exact ⟨by first | rfl | (simp; done) | (simp [*]; done),by repeat (first | exact Drawn0.refl _ | apply Drawn0.step)⟩
mutual
def puncheonref12_Step.j0 : Nat -> List Int -> Int -> Int -> Int -> Bool -> Option (Int × Int × Int × Bool)
 | 0,_,_,_,_,_=>none
 | k + 1,x0,x1,x2,x10,x31=>if x31 = true then (some (0,0,0,false)) else (puncheonref12_Step.l0 k x0 x2 (wrap64 (x10 + x1)) 0 0 1)
def puncheonref12_Step.l0 : Nat -> List Int -> Int -> Int -> Int -> Int -> Int -> Option (Int × Int × Int × Bool)
 | 0,_,_,_,_,_,_=>none
 | k + 1,x0,x2,x11,x12,x13,x14=>if 0 <= x2 then (if x2 < (x0.length : Int) then (if x11 >= (wrap64 (2 * (rd x0 x2))) then (puncheonref12_Step.l0 k x0 x2 (wrap64 (Int.tdiv x11 2)) (wrap64 (x12 + 1)) (wrap64 (x13 + (wrap64 ((Int.tmod x11 2) * x14)))) (wrap64 (2 * x14))) else ((puncheonref10_Place.f k x0 x2 x11).bind λ t133=>(some (t133,x12,(x13) % 4294967296,true)))) else (none)) else (none)
end
def puncheonref12_Step.f (k : Nat) (l0 : List Int) (a1 : Int) (a2 : Int) : Option (Int × Int × Int × Bool):=(puncheonref08_Log.f k l0).bind λ t130=>(if 0 <= t130 then (if a1 < 0 then (puncheonref12_Step.j0 k l0 a1 a2 (shl .i64 1 t130) true) else (if a1 >= (shl .i64 1 t130) then (puncheonref12_Step.j0 k l0 a1 a2 (shl .i64 1 t130) true) else (if 0 <= a2 then (if a2 < (l0.length : Int) then (puncheonref12_Step.j0 k l0 a1 a2 (shl .i64 1 t130) ((rd l0 a2) == 0)) else (none)) else (none)))) else (none))
theorem puncheonref12_Step.mono_l : ∀ k,(∀ y0 y1 y2 y3 y4,LeO (puncheonref12_Step.j0 k y0 y1 y2 y3 y4) (puncheonref12_Step.j0 (k + 1) y0 y1 y2 y3 y4)) /\ (∀ y0 y1 y2 y3 y4 y5,LeO (puncheonref12_Step.l0 k y0 y1 y2 y3 y4 y5) (puncheonref12_Step.l0 (k + 1) y0 y1 y2 y3 y4 y5))
 | 0=>⟨λ _ _ _ _ _ r h=>by simp [puncheonref12_Step.j0] at h,λ _ _ _ _ _ _ r h=>by simp [puncheonref12_Step.l0] at h⟩
 | k + 1=>by
  obtain ⟨ih0,ih1⟩:=puncheonref12_Step.mono_l k
  refine ⟨?_,?_⟩
  · intro y0 y1 y2 y3 y4
    unfold puncheonref12_Step.j0
    repeat' first
    | (with_reducible exact ih0 _ _ _ _ _)
    | (with_reducible exact ih1 _ _ _ _ _ _)
    | (with_reducible exact puncheonref08_Log.mono _ _)
    | (with_reducible exact puncheonref10_Place.mono _ _ _ _)
    | (with_reducible exact LeO.refl _)
    | (with_reducible exact LeO.none _)
    | (with_reducible refine LeO.ite ?_ ?_)
    | (with_reducible refine LeO.bind ?_ (λ _=>?_))
    | exact ih0 _ _ _ _ _
    | exact ih1 _ _ _ _ _ _
    | exact puncheonref08_Log.mono _ _
    | exact puncheonref10_Place.mono _ _ _ _
    | exact LeO.none _
    | refine LeO.ite ?_ ?_
    | refine LeO.bind ?_ (λ _=>?_)
  · intro y0 y1 y2 y3 y4 y5
    unfold puncheonref12_Step.l0
    repeat' first
    | (with_reducible exact ih0 _ _ _ _ _)
    | (with_reducible exact ih1 _ _ _ _ _ _)
    | (with_reducible exact puncheonref08_Log.mono _ _)
    | (with_reducible exact puncheonref10_Place.mono _ _ _ _)
    | (with_reducible exact LeO.refl _)
    | (with_reducible exact LeO.none _)
    | (with_reducible refine LeO.ite ?_ ?_)
    | (with_reducible refine LeO.bind ?_ (λ _=>?_))
    | exact ih0 _ _ _ _ _
    | exact ih1 _ _ _ _ _ _
    | exact puncheonref08_Log.mono _ _
    | exact puncheonref10_Place.mono _ _ _ _
    | exact LeO.none _
    | refine LeO.ite ?_ ?_
    | refine LeO.bind ?_ (λ _=>?_)
theorem puncheonref12_Step.mono : ∀ a0 a1 a2 k,LeO (puncheonref12_Step.f k a0 a1 a2) (puncheonref12_Step.f (k + 1) a0 a1 a2):=by
 intro a0 a1 a2 k
 obtain ⟨ih0,ih1⟩:=puncheonref12_Step.mono_l k
 unfold puncheonref12_Step.f
 repeat' first
     | (with_reducible exact ih0 _ _ _ _ _)
     | (with_reducible exact ih1 _ _ _ _ _ _)
     | (with_reducible exact puncheonref08_Log.mono _ _)
     | (with_reducible exact puncheonref10_Place.mono _ _ _ _)
     | (with_reducible exact LeO.refl _)
     | (with_reducible exact LeO.none _)
     | (with_reducible refine LeO.ite ?_ ?_)
     | (with_reducible refine LeO.bind ?_ (λ _=>?_))
     | exact ih0 _ _ _ _ _
     | exact ih1 _ _ _ _ _ _
     | exact puncheonref08_Log.mono _ _
     | exact puncheonref10_Place.mono _ _ _ _
     | exact LeO.none _
     | refine LeO.ite ?_ ?_
     | refine LeO.bind ?_ (λ _=>?_)
set_option maxHeartbeats 8000000 in
set_option maxRecDepth 100000 in
theorem puncheonref12_Step.calls (k : Nat) (A0 : Option Addr) (c0 : Nat) (l0 : List Int) (a1 : Int) (a2 : Int) (r1 : Int) (r2 : Int) (r3 : Int) (r4 : Bool) (w : World) (hr0 : Kd.C (Kd.int .i64) w A0 l0.length l0) (hc0 : l0.length <= c0) (h : puncheonref12_Step.f k l0 a1 a2 = some (r1,r2,r3,r4)) :
    Calls Tryz.prog 270 #[.slice A0 l0.length c0,.int .i64 a1,.int .i64 a2] w λ e w'=>e = .returned (.tuple #[.int .i64 r1,.int .i64 r2,.int .u32 r3,.bool r4]) /\ Drawn0 w w':=by
 have HR0:=Aside0.mk hr0
 have HC0:=Aside0.mk hc0
 clear hr0 hc0
 have H : ((puncheonref08_Log.f k l0).bind λ t130=>(if 0 <= t130 then (if a1 < 0 then (puncheonref12_Step.j0 k l0 a1 a2 (shl .i64 1 t130) true) else (if a1 >= (shl .i64 1 t130) then (puncheonref12_Step.j0 k l0 a1 a2 (shl .i64 1 t130) true) else (if 0 <= a2 then (if a2 < (l0.length : Int) then (puncheonref12_Step.j0 k l0 a1 a2 (shl .i64 1 t130) ((rd l0 a2) == 0)) else (none)) else (none)))) else (none))) = some (r1,r2,r3,r4):=h
 clear h
 replace H:=Option.bind_eq_some_iff.mp H
 obtain ⟨t130,A40,H⟩:=H
 replace H : (if 0 <= t130 then (if a1 < 0 then (puncheonref12_Step.j0 k l0 a1 a2 (shl .i64 1 t130) true) else (if a1 >= (shl .i64 1 t130) then (puncheonref12_Step.j0 k l0 a1 a2 (shl .i64 1 t130) true) else (if 0 <= a2 then (if a2 < (l0.length : Int) then (puncheonref12_Step.j0 k l0 a1 a2 (shl .i64 1 t130) ((rd l0 a2) == 0)) else (none)) else (none)))) else (none)) = some (r1,r2,r3,r4):=H
 have A4:=Aside0.mk A40
 clear A40
 by_cases c5 : 0 <= t130
 · rw [if_pos c5] at H
   have c5b0:=eq_true c5
   have c5b1 : decide (0 <= t130) = true:=decide_eq_true c5
   clear c5
   obtain ⟨ji6,hji6⟩ : ∃ j_ : Int,(shl .i64 1 t130) = j_:=⟨_,rfl⟩
   replace H : (if a1 < 0 then (puncheonref12_Step.j0 k l0 a1 a2 ji6 true) else (if a1 >= (ji6) then (puncheonref12_Step.j0 k l0 a1 a2 ji6 true) else (if 0 <= a2 then (if a2 < (l0.length : Int) then (puncheonref12_Step.j0 k l0 a1 a2 ji6 ((rd l0 a2) == 0)) else (none)) else (none)))) = some (r1,r2,r3,r4):=by first | (rw [hji6] at H; exact H) | (simp only [hji6] at H ⊢; exact H)
   (try rw [hji6] at A4)
   have hji6_ : (IntKind.i64.wrap (1 * 2 ^ min t130.toNat 64)) = ji6:=hji6
   have hji6z : t130 <= 64 -> (IntKind.i64.wrap (1 * 2 ^ t130.toNat)) = ji6:=a5l hji6
   have hji6u : (IntKind.i64.wrap (2 ^ min t130.toNat 64)) = ji6:=by have h_:=hji6_; rw [Int.one_mul] at h_; exact h_
   have hji6v : t130 <= 64 -> (IntKind.i64.wrap (2 ^ t130.toNat)) = ji6:=λ hle_=>by have h_:=hji6z hle_; rw [Int.one_mul] at h_; exact h_
   have hji6y : (wrap64 (1 * 2 ^ min t130.toNat 64)) = ji6:=(i64_w _).symm.trans hji6_
   have hji6x : t130 <= 64 -> (wrap64 (1 * 2 ^ t130.toNat)) = ji6:=λ h_=>(i64_w _).symm.trans (hji6z h_)
   have HC7:=Aside0.mk H
   clear H
   go_enter Tryz.func270,Tryz.ntmps270
   go_upto_region 2 with (first | ((with_reducible refine a1l (f:=172) rfl ?_); refine a1k (some 16) rfl rfl Tryz.func172 (by kernel_rfl) rfl #[.slice A0 l0.length c0] rfl (by (try simp only [List.map_toArray,List.map_cons,List.map_nil]); first | done | rfl | (simp only [List.length_drop,List.length_take]; rfl)) ?_; (with_reducible refine (puncheonref08_Log.calls k _ _ l0 t130 _ ?side1 ?side2 A4.out).mono ?_); (case side1=>repeat (first | exact HR0.out | (with_reducible refine Kd.C_alloc ?_ _) | (with_reducible refine Kd.C_drewN ?_ _) | (with_reducible refine Kd.C_drew ?_))); (case side2=>exact HC0.out); rintro e w' ⟨rfl,⟨nd,rfl⟩⟩; refine ⟨_,rfl,?_⟩))
   (try simp only [Act.put,List.setIfInBounds_toArray,List.set_cons_zero,List.set_cons_succ])
   go_cut [31] (λ v31 wc=>∃ (kq : Nat) (x31_6 : Bool),v31 = .bool x31_6 /\ Aside0 (puncheonref12_Step.j0 kq l0 a1 a2 ji6 x31_6 = some (r1,r2,r3,r4)) /\ Aside0 (kq <= k) /\ Drawn0 w wc)
   case first=>
    have H:=HC7.out
    clear HC7
    by_cases c8 : a1 < 0
    · rw [if_pos c8] at H
      have c8b0 : decide (a1 < 0) = true:=decide_eq_true c8
      clear c8
      (first | rw [c8b0] | (simp only [i64_w,i32_w]; rw [c8b0]) | skip)
      have H':=Aside0.mk H
      clear H
      go_wp2
      go_meet
      case rel=>exact ⟨_,(true),(by first | rfl | (simp; done) | (simp [*]; done)),H',⟨by first | omega | exact Nat.le_refl _⟩,by repeat (first | exact Drawn0.refl _ | apply Drawn0.step)⟩
    · rw [if_neg c8] at H
      have c8b0 : decide (a1 < 0) = false:=decide_eq_false c8
      clear c8
      (first | rw [c8b0] | (simp only [i64_w,i32_w]; rw [c8b0]) | skip)
      by_cases c9 : a1 >= (ji6)
      · rw [if_pos c9] at H
        have c9b0 : decide ((ji6) <= a1) = true:=decide_eq_true c9
        clear c9
        have H':=Aside0.mk H
        clear H
        go_wp2
        go_meet
        case rel=>exact ⟨_,(true),(by first | rfl | (simp; done) | (simp [*]; done)),H',⟨by first | omega | exact Nat.le_refl _⟩,by repeat (first | exact Drawn0.refl _ | apply Drawn0.step)⟩
      · rw [if_neg c9] at H
        have c9b0 : decide ((ji6) <= a1) = false:=decide_eq_false c9
        clear c9
        by_cases c10 : 0 <= a2
        · rw [if_pos c10] at H
          have c10b0 : decide (0 <= a2) = true:=decide_eq_true c10
          clear c10
          by_cases c11 : a2 < (l0.length : Int)
          · rw [if_pos c11] at H
            have c11b0 : decide (a2 < (l0.length : Int)) = true:=decide_eq_true c11
            clear c11
            have H':=Aside0.mk H
            clear H
            have p131 : 0 <= (a2 : Int):=of_decide_eq_true (by first | (with_reducible assumption) | assumption)
            have q131 : a2 < (l0.length : Int):=of_decide_eq_true (by first | (with_reducible assumption) | assumption)
            obtain ⟨ad131,e131,hx131_0⟩:=Kd.at_int HR0.out a2 p131 q131
            cases e131
            replace p131:=eq_true p131
            replace q131:=eq_true q131
            go_wp2
            go_meet
            case rel=>exact ⟨_,(((rd l0 a2) == 0)),(by first | rfl | (simp; done) | (simp [*]; done)),H',⟨by first | omega | exact Nat.le_refl _⟩,by repeat (first | exact Drawn0.refl _ | apply Drawn0.step)⟩
          · rw [if_neg c11] at H
            exact absurd H (by simp)
        · rw [if_neg c10] at H
          exact absurd H (by simp)
   case rest=>
    clear HC7
    try clear c1
    try clear p1
    try clear q1
    try clear hx1
    try clear c2
    try clear p2
    try clear c5
    try clear c5b0
    try clear c5b1
    try clear p6
    try clear c8
    try clear c8b0
    try clear c9
    try clear c9b0
    try clear c10
    try clear c10b0
    try clear c11
    try clear c11b0
    try clear hx131_0
    try clear p131
    try clear q131
    obtain ⟨kq,x31_6,rfl,HA,HJ6,⟨mc6,rfl⟩⟩:=hcut
    cases kq with
    | zero=>exact absurd HA.out (by simp [puncheonref12_Step.j0])
    | succ kj6=>
     have H:=HA.out
     clear HA
     simp only [puncheonref12_Step.j0] at H
     by_cases c12 : x31_6 = true
     · subst c12
       have H1 : (some (0,0,0,false)) = some (r1,r2,r3,r4):=by rw [if_pos rfl] at H; exact H
       clear H
       have H:=H1
       clear H1
       simp only [Option.some.injEq,Prod.mk.injEq] at H
       obtain ⟨rfl,rfl,rfl,rfl⟩:=H
       go_wp2
       refine bodyPost_ret (b1A (rs:=[.tmp 6,.tmp 7,.tmp 8,.tmp 9]) rfl (by simp) (.tmp (.tmp (.tmp (.tmp .nil))))) rfl ?_
       exact ⟨by first | rfl | (simp; done) | (simp only [<- hji6] <;> (first | rfl | simp)) | (simp [*]; done),by repeat (first | exact Drawn0.refl _ | apply Drawn0.step)⟩
     · replace c12:=Bool.eq_false_iff.mpr c12
       subst c12
       have H1 : (puncheonref12_Step.l0 kj6 l0 a2 (wrap64 (ji6 + a1)) 0 0 1) = some (r1,r2,r3,r4):=by rw [if_neg (show ¬ (false = true) by decide)] at H; exact H
       clear H
       have H:=H1
       clear H1
       have H':=Aside0.mk H
       clear H
       go_wp2
       go_loopg [11,12,13,14] kj6 (λ kq v11 v12 v13 v14 w'=>∃ (x11_2 : Int) (x12_2 : Int) (x13_2 : Int) (x14_2 : Int),v11 = .int .i64 x11_2 /\ v12 = .int .i64 x12_2 /\ v13 = .int .i64 x13_2 /\ v14 = .int .i64 x14_2 /\ Aside0 (puncheonref12_Step.l0 kq l0 a2 x11_2 x12_2 x13_2 x14_2 = some (r1,r2,r3,r4)) /\ Aside0 (kq <= kj6) /\ Drawn0 w w')
       case atStart=>exact ⟨(wrap64 (ji6 + a1)),(0),(0),(1),(by first | rfl | (simp; done) | (simp only [<- hji6] <;> (first | rfl | simp)) | (simp [*]; done)),(by first | rfl | (simp; done) | (simp [*]; done)),(by first | rfl | (simp; done) | (simp [*]; done)),(by first | rfl | (simp; done) | (simp [*]; done)),H',⟨Nat.le_refl _⟩,by repeat (first | exact Drawn0.refl _ | apply Drawn0.step)⟩
       case round=>
        clear H'
        try clear c1
        try clear p1
        try clear q1
        try clear hx1
        try clear c2
        try clear p2
        try clear c5
        try clear c5b0
        try clear c5b1
        try clear c6
        try clear p6
        try clear c8
        try clear c8b0
        try clear c9
        try clear c9b0
        try clear c10
        try clear c10b0
        try clear c11
        try clear c11b0
        try clear c12
        try clear hx131_0
        try clear p1
        try clear p131
        try clear p2
        try clear p6
        try clear q1
        try clear q131
        obtain ⟨x11_2,x12_2,x13_2,x14_2,rfl,rfl,rfl,rfl,HA,HK2,⟨m2,rfl⟩⟩:=hrel
        cases gk with
        | zero=>exact absurd HA.out (by simp [puncheonref12_Step.l0])
        | succ k2=>
         have H:=HA.out
         clear HA
         simp only [puncheonref12_Step.l0] at H
         by_cases c13 : 0 <= a2
         · rw [if_pos c13] at H
           have c13b0 : decide (0 <= a2) = true:=decide_eq_true c13
           clear c13
           by_cases c14 : a2 < (l0.length : Int)
           · rw [if_pos c14] at H
             have c14b0 : decide (a2 < (l0.length : Int)) = true:=decide_eq_true c14
             clear c14
             by_cases c15 : x11_2 >= (wrap64 (2 * (rd l0 a2)))
             · rw [if_pos c15] at H
               have c15b0 : decide ((wrap64 (2 * (rd l0 a2))) <= x11_2) = true:=decide_eq_true c15
               clear c15
               have H':=Aside0.mk H
               clear H
               have p132 : 0 <= (a2 : Int):=of_decide_eq_true (by first | (with_reducible assumption) | assumption)
               have q132 : a2 < (l0.length : Int):=of_decide_eq_true (by first | (with_reducible assumption) | assumption)
               obtain ⟨ad132,e132,hx132_0⟩:=Kd.at_int HR0.out a2 p132 q132
               cases e132
               replace p132:=eq_true p132
               replace q132:=eq_true q132
               go_wp2
               go_roundg k2
               case measure=>have:=HJ6.out; have:=HK2.out; omega
               case rel=>exact ⟨(wrap64 (Int.tdiv x11_2 2)),(wrap64 (x12_2 + 1)),(wrap64 (x13_2 + (wrap64 ((Int.tmod x11_2 2) * x14_2)))),(wrap64 (2 * x14_2)),(by first | rfl | (simp; done) | (simp [*]; done)),(by first | rfl | (simp; done) | (simp [*]; done)),(by first | rfl | (simp; done) | (simp [*]; done)),(by first | rfl | (simp; done) | (simp [*]; done)),H',⟨by have:=HJ6.out; have:=HK2.out; omega⟩,by repeat (first | exact Drawn0.refl _ | apply Drawn0.step)⟩
             · rw [if_neg c15] at H
               have c15b0 : decide ((wrap64 (2 * (rd l0 a2))) <= x11_2) = false:=decide_eq_false c15
               clear c15
               replace H:=Option.bind_eq_some_iff.mp H
               obtain ⟨t133,A160,H⟩:=H
               replace H : (some (t133,x12_2,(x13_2) % 4294967296,true)) = some (r1,r2,r3,r4):=H
               have A16:=Aside0.mk A160
               clear A160
               simp only [Option.some.injEq,Prod.mk.injEq] at H
               obtain ⟨rfl,rfl,rfl,rfl⟩:=H
               have p132 : 0 <= (a2 : Int):=of_decide_eq_true (by first | (with_reducible assumption) | assumption)
               have q132 : a2 < (l0.length : Int):=of_decide_eq_true (by first | (with_reducible assumption) | assumption)
               obtain ⟨ad132,e132,hx132_0⟩:=Kd.at_int HR0.out a2 p132 q132
               cases e132
               replace p132:=eq_true p132
               replace q132:=eq_true q132
               go_wp2_with (first | ((with_reducible refine a1l (f:=175) rfl ?_); refine a1k (some 57) rfl rfl Tryz.func175 (by kernel_rfl) rfl #[.slice (some ad132) l0.length c0,.int .i64 a2,.int .i64 x11_2] rfl (by (try simp only [List.map_toArray,List.map_cons,List.map_nil]); first | done | rfl | (simp only [List.length_drop,List.length_take]; rfl)) ?_; (with_reducible refine (puncheonref10_Place.calls k2 _ _ l0 a2 x11_2 t133 _ ?side1 ?side2 A16.out).mono ?_); (case side1=>repeat (first | exact HR0.out | (with_reducible refine Kd.C_alloc ?_ _) | (with_reducible refine Kd.C_drewN ?_ _) | (with_reducible refine Kd.C_drew ?_))); (case side2=>exact HC0.out); rintro e w' ⟨rfl,⟨nd,rfl⟩⟩; refine ⟨_,rfl,?_⟩))
               refine bodyPost_ret (b1A (rs:=[.tmp 6,.tmp 7,.tmp 8,.tmp 9]) rfl (by simp) (.tmp (.tmp (.tmp (.tmp .nil))))) rfl ?_
               exact ⟨by first | rfl | (simp; done) | (simp only [<- hji6] <;> (first | rfl | simp)) | (simp [*]; done),by repeat (first | exact Drawn0.refl _ | apply Drawn0.step)⟩
           · rw [if_neg c14] at H
             exact absurd H (by simp)
         · rw [if_neg c13] at H
           exact absurd H (by simp)
 · rw [if_neg c5] at H
   exact absurd H (by simp)
def puncheonref01_Put.l0 : Nat -> Int -> Int -> List Bool -> Int -> Option (List Bool)
 | 0,_,_,_,_=>none
 | k + 1,x1,x2,x7,x8=>if x8 < x2 then (if x7.length < 140737488355328 then (puncheonref01_Put.l0 k ((Int.tdiv x1 2) % 4294967296) x2 (x7 ++ [((Int.tmod x1 2) == 1)]) (wrap64 (x8 + 1))) else (none)) else (some x7)
def puncheonref01_Put.f (k : Nat) (l0 : List Bool) (a1 : Int) (a2 : Int) : Option (List Bool):=(some (([] : List Bool) : List Bool)).bind λ y134=>(if y134.length + l0.length < 140737488355328 then (puncheonref01_Put.l0 k a1 a2 (y134 ++ l0) 0) else (none))
set_option maxHeartbeats 8000000 in
set_option maxRecDepth 100000 in
theorem puncheonref01_Put.calls (k : Nat) (A0 : Option Addr) (c0 : Nat) (l0 : List Bool) (a1 : Int) (a2 : Int) (r : List Bool) (w : World) (hr0 : Kd.C Kd.bool w A0 l0.length l0) (hc0 : l0.length <= c0) (h : puncheonref01_Put.f k l0 a1 a2 = some r) :
    Calls Tryz.prog 226 #[.slice A0 l0.length c0,.int .u32 a1,.int .i64 a2] w λ e w'=>∃ v0_ : Value,e = .returned (v0_) /\ Kd.R Kd.bool 4 w' w.heap.size (λ _=>True) v0_ r /\ Below w.heap.size w w':=by
 have HR0:=Aside0.mk hr0
 have HC0:=Aside0.mk hc0
 clear hr0 hc0
 have HB:=Aside0.mk (Below.refl w.heap.size w)
 have H : ((some (([] : List Bool) : List Bool)).bind λ y134=>(if y134.length + l0.length < 140737488355328 then (puncheonref01_Put.l0 k a1 a2 (y134 ++ l0) 0) else (none))) = some r:=h
 clear h
 obtain ⟨y134,hy134⟩ : ∃ y_ : List Bool,y_ = (([] : List Bool)):=⟨_,rfl⟩
 replace H : (if y134.length + l0.length < 140737488355328 then (puncheonref01_Put.l0 k a1 a2 (y134 ++ l0) 0) else (none)) = some r:=by first | (rw [hy134]; with_reducible exact H) | (have H2_:=(Option.bind_some _ _).symm.trans H; rw [hy134]; with_reducible exact H2_) | (have H2_:=(Option.bind_some _ _).symm.trans H; with_reducible exact H2_) | with_reducible exact H | (rw [hy134]; exact H) | exact H
 have Ny134:=Aside0.mk hy134
 clear hy134
 by_cases c4 : y134.length + l0.length < 140737488355328
 · rw [if_pos c4] at H
   have LMc4:=Aside0.mk c4
   clear c4
   obtain ⟨y137,hy137⟩ : ∃ y_ : List Bool,y_ = (y134 ++ l0):=⟨_,rfl⟩
   replace H : (puncheonref01_Put.l0 k a1 a2 y137 0) = some r:=by first | (rw [hy137]; with_reducible exact H) | (have H2_:=(Option.bind_some _ _).symm.trans H; rw [hy137]; with_reducible exact H2_) | (have H2_:=(Option.bind_some _ _).symm.trans H; with_reducible exact H2_) | with_reducible exact H | (rw [hy137]; exact H) | exact H
   have Ny137:=Aside0.mk hy137
   clear hy137
   have H':=Aside0.mk H
   clear H
   go_enter Tryz.func226,Tryz.ntmps226
   go_wp2_with (first | ((with_reducible refine a1E (N:=9) rfl ?_); refine Kd.R_lit Kd.bool _ 4 ?hg (N:=9) ?hd (xs:=([] : List Bool)) (inner:=[]) (ok:=λ _=>True) (okp:=λ _=>True) ?hr ?hp (λ _ hk=>hk) trivial (Below.refl _ _) (Nat.le_refl _) (by simp) ?_; (case hd=>rfl); (case hg=>rfl); (case hr=>first | (go_simp; done) | (go_simp; rfl)); (case hp=>exact (Reps.none _ _)); intro v135 w5 ho6 hb hg_ hnew_; clear hg_ hnew_; (first | rw [<- Ny134.out] at ho6 | (simp only [Int.reduceToNat] at ho6; rw [<- Ny134.out] at ho6)); have n0_:=Aside0.mk (Kd.R_lower ho6 (a0N (by repeat (first | (with_reducible first | exact HB.out | apply a0c | apply a0b | apply a0d) | exact HB.out)))); have n1_:=Aside0.mk (a1j (by repeat (first | (with_reducible first | exact HB.out | apply a0c | apply a0b | apply a0d) | exact HB.out)) hb); clear HB; have HO136:=n0_; have HB:=n1_; clear n0_ n1_; clear hb ho6) | ((with_reducible refine a3Z (b:=.append) (xs:=#[.tmp 9,.tmp 10]) rfl ?_); at_builtin; refine Kd.R_append_rows Kd.bool (w0:=w) w.heap.size rfl (.tmp 9) (.tmp 10) 142 4 (.bool false) 1 rfl Tryz.underlying142 info4 rfl (by decide) (by omega) v135 y134 l0 _ _ _ (λ _=>True) (λ _=>False) rfl rfl ?aO ?aR (λ _ _ h=>h) (λ _ h=>h.elim) ?aF ?aB ?aS ?aL ?_; (case aR=>repeat (first | exact (Kd.C_below HR0.out HB.out) | (with_reducible refine Kd.C_alloc ?_ _) | (with_reducible refine Kd.C_drewN ?_ _) | (with_reducible refine Kd.C_drew ?_))); (case aB=>exact (by repeat (first | (with_reducible first | exact HB.out | apply a0c | apply a0b | apply a0d) | exact HB.out))); (case aF=>exact (λ _ _=>trivial)); (case aO=>exact (by (with_reducible repeat (first | apply Kd.R_alloc | apply Kd.R_drewN | apply Kd.R_drew)); exact HO136.out)); (case aS=>exact (a0N (by repeat (first | (with_reducible first | exact HB.out | apply a0c | apply a0b | apply a0d) | exact HB.out)))); (case aL=>have:=LMc4.out; omega); intro v138 w7 ho hb hg hat; rw [<- Ny137.out] at ho; have n0_:=Aside0.mk (hb); have n1_:=Aside0.mk (ho); clear HB; clear HO136; have HB:=n0_; have HO139:=n1_; clear n0_ n1_; clear ho hb hg hat))
   go_loopg [1,7,8] k (λ kq v1 v7 v8 w'=>∃ (x1_1 : Int) (x7_1 : List Bool) (x8_1 : Int),v1 = .int .u32 x1_1 /\ v8 = .int .i64 x8_1 /\ Aside0 (puncheonref01_Put.l0 kq x1_1 a2 x7_1 x8_1 = some r) /\ Aside0 (kq <= k) /\ Aside0 (Kd.R Kd.bool 4 w' w.heap.size (λ _=>True) v7 x7_1) /\ Aside0 (Below w.heap.size w w'))
   case atStart=>exact ⟨(a1),(y137),(0),(by first | rfl | (simp; done) | (simp [*]; done)),(by first | rfl | (simp; done) | (simp [*]; done)),H',⟨Nat.le_refl _⟩,⟨by (with_reducible repeat (first | apply Kd.R_alloc | apply Kd.R_drewN | apply Kd.R_drew)); exact HO139.out⟩,⟨by repeat (first | (with_reducible first | exact HB.out | apply a0c | apply a0b | apply a0d) | exact HB.out)⟩⟩
   case round=>
    clear H'
    try clear c2
    try clear p2
    try clear c4
    obtain ⟨x1_1,x7_1,x8_1,rfl,rfl,HA,HK1,HO_7,HB⟩:=hrel
    cases gk with
    | zero=>exact absurd HA.out (by simp [puncheonref01_Put.l0])
    | succ k1=>
     have H:=HA.out
     clear HA
     simp only [puncheonref01_Put.l0] at H
     by_cases c8 : x8_1 < a2
     · rw [if_pos c8] at H
       have c8b0 : decide (x8_1 < a2) = true:=decide_eq_true c8
       clear c8
       by_cases c9 : x7_1.length < 140737488355328
       · rw [if_pos c9] at H
         have LMc9:=Aside0.mk c9
         clear c9
         obtain ⟨y140,hy140⟩ : ∃ y_ : List Bool,y_ = (x7_1 ++ [((Int.tmod x1_1 2) == 1)]):=⟨_,rfl⟩
         replace H : (puncheonref01_Put.l0 k1 ((Int.tdiv x1_1 2) % 4294967296) a2 y140 (wrap64 (x8_1 + 1))) = some r:=by first | (rw [hy140]; with_reducible exact H) | (have H2_:=(Option.bind_some _ _).symm.trans H; rw [hy140]; with_reducible exact H2_) | (have H2_:=(Option.bind_some _ _).symm.trans H; with_reducible exact H2_) | with_reducible exact H | (rw [hy140]; exact H) | exact H
         have Ny140:=Aside0.mk hy140
         clear hy140
         have H':=Aside0.mk H
         clear H
         go_wp2_with (first | ((with_reducible refine a3Z (b:=.append) (xs:=#[.tmp 17,.tmp 21]) rfl ?_); at_builtin; refine Kd.R_append Kd.bool (w0:=w) w.heap.size rfl (.tmp 17) (.tmp 21) 142 4 (.bool false) 1 rfl Tryz.underlying142 info4 rfl (by decide) (by omega) u7 x7_1 ((Int.tmod x1_1 2) == 1) [.bool ((Int.tmod x1_1 2) == 1)] (λ _=>True) (λ _=>False) rfl rfl ?aP (λ _ hk=>hk.elim) ?aF ?aO ?aB ?aS ?aL ?_; (case aP=>exact rfl); (case aB=>exact (by repeat (first | (with_reducible first | exact HB.out | apply a0c | apply a0b | apply a0d) | exact HB.out))); (case aF=>exact (λ _ _=>trivial)); (case aO=>exact (by (with_reducible repeat (first | apply Kd.R_alloc | apply Kd.R_drewN | apply Kd.R_drew)); exact HO_7.out)); (case aS=>exact (a0N (by repeat (first | (with_reducible first | exact HB.out | apply a0c | apply a0b | apply a0d) | exact HB.out)))); (case aL=>have:=LMc9.out; omega); intro v141 w10 ho hb hg hat; rw [<- Ny140.out] at ho; have n0_:=Aside0.mk (hb); have n1_:=Aside0.mk (ho); clear HB; clear HO_7; have HB:=n0_; have HO142:=n1_; clear n0_ n1_; clear ho hb hg hat))
         go_roundg k1
         case measure=>have:=HK1.out; omega
         case rel=>exact ⟨((Int.tdiv x1_1 2) % 4294967296),(y140),(wrap64 (x8_1 + 1)),(by first | rfl | (simp; done) | (simp [*]; done)),(by first | rfl | (simp; done) | (simp [*]; done)),H',⟨by have:=HK1.out; omega⟩,⟨by (with_reducible repeat (first | apply Kd.R_alloc | apply Kd.R_drewN | apply Kd.R_drew)); exact HO142.out⟩,⟨by repeat (first | (with_reducible first | exact HB.out | apply a0c | apply a0b | apply a0d) | exact HB.out)⟩⟩
       · rw [if_neg c9] at H
         exact absurd H (by simp)
     · rw [if_neg c8] at H
       have c8b0 : decide (x8_1 < a2) = false:=decide_eq_false c8
       clear c8
       obtain rfl:=Option.some.inj H
       go_wp2
       go_ret
       exact ⟨_,by first | rfl | (simp [a0l,a0m] <;> rfl) | (simp [*,a0l,a0m] <;> rfl),by (with_reducible repeat (first | apply Kd.R_alloc | apply Kd.R_drewN | apply Kd.R_drew)); exact HO_7.out,by repeat (first | (with_reducible first | exact HB.out | apply a0c | apply a0b | apply a0d) | exact HB.out)⟩
 · rw [if_neg c4] at H
   exact absurd H (by simp)
end Go.Proofs.YtflfjpkmjnnodaaGreat.PRef
namespace Go.Proofs.YtflfjpkmjnnodaaGreat.PRef
open Go.RowKit Go.Proofs.YtflfjpkmjnnodaaGreatW.PrintWords Go.Proofs.YtflfjpkmjnnodaaGreatW.PrintLast Go.Proofs.YtflfjpkmjnnodaaGreatW.PrintMore
attribute [local go_sem] a1Z a1Q a2a a1R a2p a2q a2r a2s   -- for this text's walks alone
set_option linter.unusedVariables false
set_option linter.unusedSimpArgs false
def puncheonref01_Bytes.l0 : Nat -> List Bool -> List Int -> Int -> Option (List Int)
 | 0,_,_,_=>none
 | k + 1,x0,x3,x4=>if x4 < (x0.length : Int) then (if 0 <= x4 then (if rdOf false x0 x4 = true then (if 0 <= (wrap64 (Int.tdiv x4 8)) then (if (wrap64 (Int.tdiv x4 8)) < (x3.length : Int) then (if 0 <= (Int.tmod x4 8) then (puncheonref01_Bytes.l0 k x0 (x3.set ((wrap64 (Int.tdiv x4 8)) : Int).toNat (((rd x3 (wrap64 (Int.tdiv x4 8))) + (shl .u8 1 (Int.tmod x4 8))) % 256)) (wrap64 (x4 + 1))) else (none)) else (none)) else (none)) else (puncheonref01_Bytes.l0 k x0 x3 (wrap64 (x4 + 1)))) else (none)) else (some x3)
def puncheonref01_Bytes.f (k : Nat) (l0 : List Bool) : Option (List Int):=if 0 <= (wrap64 (Int.tdiv (wrap64 ((l0.length : Int) + 7)) 8)) then (if (wrap64 (Int.tdiv (wrap64 ((l0.length : Int) + 7)) 8) : Int).toNat <= 281474976710656 then (puncheonref01_Bytes.l0 k l0 (List.replicate (wrap64 (Int.tdiv (wrap64 ((l0.length : Int) + 7)) 8) : Int).toNat 0) 0) else (none)) else (none)
theorem puncheonref01_Bytes.mono_l : ∀ k,(∀ y0 y1 y2,LeO (puncheonref01_Bytes.l0 k y0 y1 y2) (puncheonref01_Bytes.l0 (k + 1) y0 y1 y2))
 | 0=>λ _ _ _ r h=>by simp [puncheonref01_Bytes.l0] at h
 | k + 1=>by
  have ih0:=puncheonref01_Bytes.mono_l k
  · intro y0 y1 y2
    unfold puncheonref01_Bytes.l0
    repeat' first
    | (with_reducible exact ih0 _ _ _)
    | (with_reducible exact LeO.refl _)
    | (with_reducible exact LeO.none _)
    | (with_reducible refine LeO.ite ?_ ?_)
    | (with_reducible refine LeO.bind ?_ (λ _=>?_))
    | exact ih0 _ _ _
    | exact LeO.none _
    | refine LeO.ite ?_ ?_
    | refine LeO.bind ?_ (λ _=>?_)
theorem puncheonref01_Bytes.mono : ∀ a0 k,LeO (puncheonref01_Bytes.f k a0) (puncheonref01_Bytes.f (k + 1) a0):=by
 intro a0 k
 have ih0:=puncheonref01_Bytes.mono_l k
 unfold puncheonref01_Bytes.f
 repeat' first
     | (with_reducible exact ih0 _ _ _)
     | (with_reducible exact LeO.refl _)
     | (with_reducible exact LeO.none _)
     | (with_reducible refine LeO.ite ?_ ?_)
     | (with_reducible refine LeO.bind ?_ (λ _=>?_))
     | exact ih0 _ _ _
     | exact LeO.none _
     | refine LeO.ite ?_ ?_
     | refine LeO.bind ?_ (λ _=>?_)
def puncheonref01_Bytes.T6 : Bool × List (List Nat × List Nat):=(true,[([],[]),([],[]),([1],[1]),([],[]),([],[]),([4],[4]),([3,5],[3,5]),([6],[6]),([],[]),([8],[8]),([9],[9]),([7,10],[7,10]),([0,2,0,1,2,3,4,5,6,7,8,9,10,11],[0,2]),([12,11,0,1,2,3,4,5,6,7,8,9,10,11],[11,12])])
def puncheonref01_Bytes.B6 : List Nat:=[0,0,2,0,0,16,56,120,0,256,768,2040,4095,8191]
theorem puncheonref01_Bytes.tab6 : rtab .any (opsOf Tryz.f114 6) = puncheonref01_Bytes.T6:=by kernel_rfl
theorem puncheonref01_Bytes.bits6 : a2t puncheonref01_Bytes.T6.2 puncheonref01_Bytes.B6 = true:=by kernel_rfl
set_option maxHeartbeats 8000000 in
set_option maxRecDepth 100000 in
theorem puncheonref01_Bytes.calls (k : Nat) (A0 : Option Addr) (c0 : Nat) (l0 : List Bool) (r : List Int) (w : World) (hr0 : Kd.C Kd.bool w A0 l0.length l0) (hc0 : l0.length <= c0) (h : puncheonref01_Bytes.f k l0 = some r) :
    Calls Tryz.prog 114 #[.slice A0 l0.length c0] w λ e w'=>∃ v0_ : Value,e = .returned (v0_) /\ Kd.R (Kd.int .u8) 5 w' w.heap.size (λ _=>True) v0_ r /\ Below w.heap.size w w':=by
 have HR0:=Aside0.mk hr0
 have HC0:=Aside0.mk hc0
 clear hr0 hc0
 have HB:=Aside0.mk (Below.refl w.heap.size w)
 have H : (if 0 <= (wrap64 (Int.tdiv (wrap64 ((l0.length : Int) + 7)) 8)) then (if (wrap64 (Int.tdiv (wrap64 ((l0.length : Int) + 7)) 8) : Int).toNat <= 281474976710656 then (puncheonref01_Bytes.l0 k l0 (List.replicate (wrap64 (Int.tdiv (wrap64 ((l0.length : Int) + 7)) 8) : Int).toNat 0) 0) else (none)) else (none)) = some r:=h
 clear h
 obtain ⟨ji2,hji2⟩ : ∃ j_ : Int,(wrap64 (Int.tdiv (wrap64 ((l0.length : Int) + 7)) 8)) = j_:=⟨_,rfl⟩
 replace H : (if 0 <= (ji2) then (if (ji2 : Int).toNat <= 281474976710656 then (puncheonref01_Bytes.l0 k l0 (List.replicate (ji2 : Int).toNat 0) 0) else (none)) else (none)) = some r:=by first | (rw [hji2] at H; exact H) | (simp only [hji2] at H ⊢; exact H)
 have hji2w : (IntKind.i64.wrap (Int.tdiv (wrap64 ((l0.length : Int) + 7)) 8)) = ji2:=(i64_w _).trans hji2
 by_cases c3 : 0 <= (ji2)
 · rw [if_pos c3] at H
   have c3b0:=eq_true c3
   have c3b1 : decide (0 <= (ji2)) = true:=decide_eq_true c3
   clear c3
   by_cases c4 : (ji2 : Int).toNat <= 281474976710656
   · rw [if_pos c4] at H
     have c4b0:=eq_true c4
     have c4b1 : decide ((ji2 : Int).toNat <= 281474976710656) = true:=decide_eq_true c4
     clear c4
     obtain ⟨y143,hy143⟩ : ∃ y_ : List Int,y_ = (List.replicate (ji2 : Int).toNat 0):=⟨_,rfl⟩
     replace H : (puncheonref01_Bytes.l0 k l0 y143 0) = some r:=by first | (rw [hy143]; with_reducible exact H) | (have H2_:=(Option.bind_some _ _).symm.trans H; rw [hy143]; with_reducible exact H2_) | (have H2_:=(Option.bind_some _ _).symm.trans H; with_reducible exact H2_) | with_reducible exact H | (rw [hy143]; exact H) | exact H
     have Ny143:=Aside0.mk hy143
     clear hy143
     have H':=Aside0.mk H
     clear H
     go_enter Tryz.func114,Tryz.ntmps114
     go_wp2_with (first | ((with_reducible refine a1E (N:=9) rfl ?_); refine Kd.R_make (Kd.int .u8) _ 5 rfl (N:=9) rfl 22 _ _ rfl ji2 rfl rfl Tryz.underlying22 (.int .u8 0) 1 info5 rfl (by decide) (by omega) 0 (ok:=λ _=>True) (okp:=λ _=>True) rfl (λ _ hk=>hk) trivial (of_decide_eq_true (by first | (with_reducible assumption) | assumption)) (Nat.le_trans (Nat.mul_le_mul_right _ (of_decide_eq_true (by first | (with_reducible assumption) | assumption) : ji2.toNat <= 281474976710656)) (by omega)) (Below.refl _ _) (Nat.le_refl _) ?_; intro v144 w5 ho6 hb hg_ hnew_; clear hg_ hnew_; (first | rw [<- Ny143.out] at ho6 | (simp only [Int.reduceToNat] at ho6; rw [<- Ny143.out] at ho6)); have n0_:=Aside0.mk (Kd.R_lower ho6 (a0N (by repeat (first | (with_reducible first | exact HB.out | apply a0c | apply a0b | apply a0d) | exact HB.out)))); have n1_:=Aside0.mk (a1j (by repeat (first | (with_reducible first | exact HB.out | apply a0c | apply a0b | apply a0d) | exact HB.out)) hb); clear HB; have HO145:=n0_; have HB:=n1_; clear n0_ n1_; clear hb ho6))
     go_loopg [4] k (λ kq v4 w'=>∃ (x3_1 : List Int) (x4_1 : Int),v4 = .int .i64 x4_1 /\ Aside0 (puncheonref01_Bytes.l0 kq l0 x3_1 x4_1 = some r) /\ Aside0 (kq <= k) /\ Aside0 (Kd.R (Kd.int .u8) 5 w' w.heap.size (λ _=>True) v144 x3_1) /\ Aside0 (Below w.heap.size w w'))
     case atStart=>exact ⟨(y143),(0),(by first | rfl | (simp; done) | (simp [*]; done)),H',⟨Nat.le_refl _⟩,⟨by (with_reducible repeat (first | apply Kd.R_alloc | apply Kd.R_drewN | apply Kd.R_drew)); exact HO145.out⟩,⟨by repeat (first | (with_reducible first | exact HB.out | apply a0c | apply a0b | apply a0d) | exact HB.out)⟩⟩
     case round=>
      clear H'
      try clear c1
      try clear p2
      try clear c3
      try clear c3b0
      try clear c3b1
      try clear c4
      try clear c4b0
      try clear c4b1
      try clear p6
      obtain ⟨x3_1,x4_1,rfl,HA,HK1,HO_3,HB⟩:=hrel
      cases gk with
      | zero=>exact absurd HA.out (by simp [puncheonref01_Bytes.l0])
      | succ k1=>
       have H:=HA.out
       clear HA
       simp only [puncheonref01_Bytes.l0] at H
       by_cases c7 : x4_1 < (l0.length : Int)
       · rw [if_pos c7] at H
         have c7b0 : decide (x4_1 < (l0.length : Int)) = true:=decide_eq_true c7
         clear c7
         by_cases c8 : 0 <= x4_1
         · rw [if_pos c8] at H
           have c8b0 : decide (0 <= x4_1) = true:=decide_eq_true c8
           clear c8
           obtain ⟨bq9,hbq9⟩ : ∃ b_ : Bool,b_ = (rdOf false l0 x4_1):=⟨_,rfl⟩
           replace H : (if bq9 = true then (if 0 <= (wrap64 (Int.tdiv x4_1 8)) then (if (wrap64 (Int.tdiv x4_1 8)) < (x3_1.length : Int) then (if 0 <= (Int.tmod x4_1 8) then (puncheonref01_Bytes.l0 k1 l0 (x3_1.set ((wrap64 (Int.tdiv x4_1 8)) : Int).toNat (((rd x3_1 (wrap64 (Int.tdiv x4_1 8))) + (shl .u8 1 (Int.tmod x4_1 8))) % 256)) (wrap64 (x4_1 + 1))) else (none)) else (none)) else (none)) else (puncheonref01_Bytes.l0 k1 l0 x3_1 (wrap64 (x4_1 + 1)))) = some r:=by rw [<- hbq9] at H; exact H
           have Nbq9:=Aside0.mk hbq9
           clear hbq9
           by_cases c10 : bq9 = true
           · subst c10
             have H1 : (if 0 <= (wrap64 (Int.tdiv x4_1 8)) then (if (wrap64 (Int.tdiv x4_1 8)) < (x3_1.length : Int) then (if 0 <= (Int.tmod x4_1 8) then (puncheonref01_Bytes.l0 k1 l0 (x3_1.set ((wrap64 (Int.tdiv x4_1 8)) : Int).toNat (((rd x3_1 (wrap64 (Int.tdiv x4_1 8))) + (shl .u8 1 (Int.tmod x4_1 8))) % 256)) (wrap64 (x4_1 + 1))) else (none)) else (none)) else (none)) = some r:=by rw [if_pos rfl] at H; exact H
             clear H
             have H:=H1
             clear H1
             obtain ⟨ji11,hji11⟩ : ∃ j_ : Int,(wrap64 (Int.tdiv x4_1 8)) = j_:=⟨_,rfl⟩
             replace H : (if 0 <= (ji11) then (if (ji11) < (x3_1.length : Int) then (if 0 <= (Int.tmod x4_1 8) then (puncheonref01_Bytes.l0 k1 l0 (x3_1.set ((ji11) : Int).toNat (((rd x3_1 (ji11)) + (shl .u8 1 (Int.tmod x4_1 8))) % 256)) (wrap64 (x4_1 + 1))) else (none)) else (none)) else (none)) = some r:=by first | (rw [hji11] at H; exact H) | (simp only [hji11] at H ⊢; exact H)
             have hji11w : (IntKind.i64.wrap (Int.tdiv x4_1 8)) = ji11:=(i64_w _).trans hji11
             by_cases c12 : 0 <= (ji11)
             · rw [if_pos c12] at H
               have c12b0 : decide (0 <= (ji11)) = true:=decide_eq_true c12
               clear c12
               by_cases c13 : (ji11) < (x3_1.length : Int)
               · rw [if_pos c13] at H
                 have c13b0 : decide ((ji11) < (x3_1.length : Int)) = true:=decide_eq_true c13
                 clear c13
                 obtain ⟨ji14,hji14⟩ : ∃ j_ : Int,(Int.tmod x4_1 8) = j_:=⟨_,rfl⟩
                 replace H : (if 0 <= (ji14) then (puncheonref01_Bytes.l0 k1 l0 (x3_1.set ((ji11) : Int).toNat (((rd x3_1 (ji11)) + (shl .u8 1 (ji14))) % 256)) (wrap64 (x4_1 + 1))) else (none)) = some r:=by first | (rw [hji14] at H; exact H) | (simp only [hji14] at H ⊢; exact H)
                 by_cases c15 : 0 <= (ji14)
                 · rw [if_pos c15] at H
                   have c15b0:=eq_true c15
                   have c15b1 : decide (0 <= (ji14)) = true:=decide_eq_true c15
                   clear c15
                   obtain ⟨ji16,hji16⟩ : ∃ j_ : Int,(shl .u8 1 (ji14)) = j_:=⟨_,rfl⟩
                   replace H : (puncheonref01_Bytes.l0 k1 l0 (x3_1.set ((ji11) : Int).toNat (((rd x3_1 (ji11)) + (ji16)) % 256)) (wrap64 (x4_1 + 1))) = some r:=by first | (rw [hji16] at H; exact H) | (simp only [hji16] at H ⊢; exact H)
                   have hji16_ : (IntKind.u8.wrap (1 * 2 ^ min (ji14).toNat 8)) = ji16:=hji16
                   have hji16z : (ji14) <= 8 -> (IntKind.u8.wrap (1 * 2 ^ (ji14).toNat)) = ji16:=a5l hji16
                   have hji16u : (IntKind.u8.wrap (2 ^ min (ji14).toNat 8)) = ji16:=by have h_:=hji16_; rw [Int.one_mul] at h_; exact h_
                   have hji16v : (ji14) <= 8 -> (IntKind.u8.wrap (2 ^ (ji14).toNat)) = ji16:=λ hle_=>by have h_:=hji16z hle_; rw [Int.one_mul] at h_; exact h_
                   obtain ⟨y148,hy148⟩ : ∃ y_ : List Int,y_ = (x3_1.set ((ji11) : Int).toNat (((rd x3_1 (ji11)) + (ji16)) % 256)):=⟨_,rfl⟩
                   replace H : (puncheonref01_Bytes.l0 k1 l0 y148 (wrap64 (x4_1 + 1))) = some r:=by first | (rw [hy148]; with_reducible exact H) | (have H2_:=(Option.bind_some _ _).symm.trans H; rw [hy148]; with_reducible exact H2_) | (have H2_:=(Option.bind_some _ _).symm.trans H; with_reducible exact H2_) | with_reducible exact H | (rw [hy148]; exact H) | exact H
                   have Ny148:=Aside0.mk hy148
                   clear hy148
                   have H':=Aside0.mk H
                   clear H
                   have p146 : 0 <= (x4_1 : Int):=of_decide_eq_true (by first | (with_reducible assumption) | assumption)
                   have q146 : x4_1 < (l0.length : Int):=of_decide_eq_true (by first | (with_reducible assumption) | assumption)
                   obtain ⟨ad146,e146,hx146_0⟩:=Kd.at_bool HR0.out x4_1 p146 q146
                   (try rw [<- Nbq9.out] at hx146_0)
                   cases e146
                   replace hx146_0:=(HB.out.cell (World.block_lt_of_cell? w _ hx146_0)).trans hx146_0
                   replace p146:=eq_true p146
                   replace q146:=eq_true q146
                   try go_wp2
                   have n0_:=Aside0.mk (Kd.R_drew HO_3.out)
                   have n1_:=Aside0.mk (a0d HB.out)
                   clear HO_3
                   clear HB
                   have HO_3:=n0_
                   have HB:=n1_
                   clear n0_ n1_
                   obtain ⟨Ao19,co19,eo19⟩:=Kd.R_slice HO_3.out
                   (first | subst eo19 | (injection eo19 with f1_ f2_ f3_; have f4_:=f1_.symm; have f5_:=f3_.symm; clear f1_ f2_ f3_; subst f4_; subst f5_))
                   have p147 : 0 <= ((ji11) : Int):=of_decide_eq_true (by first | (with_reducible assumption) | assumption)
                   have q147 : (ji11) < (x3_1.length : Int):=of_decide_eq_true (by first | (with_reducible assumption) | assumption)
                   obtain ⟨ad147,e147,hx147_0⟩:=Kd.at_int (Kd.R_reads' HO_3.out).2.2 (ji11) p147 q147
                   cases e147
                   replace p147:=eq_true p147
                   replace q147:=eq_true q147
                   have p17 : 0 <= ((ji11) : Int):=of_decide_eq_true (by first | (with_reducible assumption) | assumption)
                   have q17 : ((ji11) : Int) < ((x3_1.length : Int) : Int):=of_decide_eq_true (by first | (with_reducible assumption) | assumption)
                   obtain ⟨go17,co17,eo17,gb17,gl17,cl17,HG17⟩:=Kd.R_form HO_3.out (by omega)
                   (first | cases eo17 | (injection eo17 with ea_ en_ ec_; (first | subst ea_ | (injection ea_ with ea_; subst ea_)); subst ec_; clear en_))
                   have GB17:=Aside0.mk gb17
                   have GG17:=Aside0.mk HG17
                   clear gb17 gl17 HG17
                   (first | simp only [a2l] at hx147_0 | skip)
                   obtain ⟨hx17_0,hf17_0⟩:=Kd.R_celln 0 HO_3.out ((ji11) : Int) p17 q17
                   replace p17:=eq_true p17
                   replace q17:=eq_true q17
                   have HP20:=Kd.R_putn HO_3.out ((ji11) : Int) (((rd x3_1 (ji11)) + (ji16)) % 256)
                   rw [<- Ny148.out] at HP20
                   have HQ20:=Aside0.mk HP20
                   clear HP20
                   refine b1G (n:=14) (S:=λ w'=>w'.cell? ⟨go17,((ji11)).toNat,none⟩ = some (.int .u8 (rd x3_1 (ji11)))) (ds:=[13]) #[false,false,false,false,false,false,false,false,false,false,false,false,false,false] (by kernel_rfl) rfl rfl (hx147_0) (λ hHeld=>?_); refine b2m puncheonref01_Bytes.tab6 puncheonref01_Bytes.bits6 (λ HT_ HW_=>?_)
                   generalize wr.drew = w18 at HO_3 HB GG17 HQ20 hf17_0 hx147_0 hx17_0 hHeld ⊢
                   refine pure_ (i:=0) (N:=some 20) (v:=?_) (a':=?_) #[true,false,false,false,false,false,false,false,false,false,false,false,false,false] rfl rfl (a1c HT_.out (by kernel_rfl)) (λ _ _ _ h=>h) (Or.inl ⟨by rfl,?_⟩) ?_ ?_
                   rotate_left
                   · intro w'
                     go_simp
                     with_reducible rfl
                   rotate_left
                   · simp only [Act.put,List.setIfInBounds_toArray,List.set_cons_zero,List.set_cons_succ,i64_w,i32_w]
                     rfl
                   refine pure_ (i:=1) (N:=some 21) (v:=?_) (a':=?_) #[true,true,false,false,false,false,false,false,false,false,false,false,false,false] rfl rfl (a1c HT_.out (by kernel_rfl)) (λ _ _ _ h=>h) (Or.inl ⟨by rfl,?_⟩) ?_ ?_
                   rotate_left
                   · intro w'
                     go_simp
                     with_reducible rfl
                   rotate_left
                   · simp only [Act.put,List.setIfInBounds_toArray,List.set_cons_zero,List.set_cons_succ,i64_w,i32_w]
                     rfl
                   refine pure_ (i:=2) (N:=some 22) (v:=?_) (a':=?_) #[true,true,true,false,false,false,false,false,false,false,false,false,false,false] rfl rfl (a1c HT_.out (by kernel_rfl)) (λ _ _ _ h=>h) (Or.inl ⟨by rfl,?_⟩) ?_ ?_
                   rotate_left
                   · intro w'
                     go_simp
                     with_reducible rfl
                   rotate_left
                   · simp only [Act.put,List.setIfInBounds_toArray,List.set_cons_zero,List.set_cons_succ,i64_w,i32_w]
                     rfl
                   refine pure_ (i:=3) (N:=some 23) (v:=?_) (a':=?_) #[true,true,true,true,false,false,false,false,false,false,false,false,false,false] rfl rfl (a1c HT_.out (by kernel_rfl)) (λ _ _ _ h=>h) (Or.inl ⟨by rfl,?_⟩) ?_ ?_
                   rotate_left
                   · intro w'
                     go_simp
                     with_reducible rfl
                   rotate_left
                   · simp only [Act.put,List.setIfInBounds_toArray,List.set_cons_zero,List.set_cons_succ,i64_w,i32_w]
                     rfl
                   refine pure_ (i:=4) (N:=some 24) (v:=?_) (a':=?_) #[true,true,true,true,true,false,false,false,false,false,false,false,false,false] rfl rfl (a1c HT_.out (by kernel_rfl)) (λ _ _ _ h=>h) (Or.inl ⟨by rfl,?_⟩) ?_ ?_
                   rotate_left
                   · intro w'
                     go_simp
                     with_reducible rfl
                   rotate_left
                   · simp only [Act.put,List.setIfInBounds_toArray,List.set_cons_zero,List.set_cons_succ,i64_w,i32_w]
                     rfl
                   refine pure_ (i:=5) (N:=some 25) (v:=?_) (a':=?_) #[true,true,true,true,true,true,false,false,false,false,false,false,false,false] rfl rfl (a1c HT_.out (by kernel_rfl)) (λ _ _ _ h=>h) (Or.inl ⟨by rfl,?_⟩) ?_ ?_
                   rotate_left
                   · intro w'
                     go_simp
                     with_reducible rfl
                   rotate_left
                   · simp only [Act.put,List.setIfInBounds_toArray,List.set_cons_zero,List.set_cons_succ,i64_w,i32_w]
                     rfl
                   refine pure_ (i:=6) (N:=some 26) (v:=?_) (a':=?_) #[true,true,true,true,true,true,true,false,false,false,false,false,false,false] rfl rfl (a1c HT_.out (by kernel_rfl)) (λ _ _ _ h=>h) (Or.inl ⟨by rfl,?_⟩) ?_ ?_
                   rotate_left
                   · intro w'
                     go_simp
                     with_reducible rfl
                   rotate_left
                   · simp only [Act.put,List.setIfInBounds_toArray,List.set_cons_zero,List.set_cons_succ,i64_w,i32_w]
                     rfl
                   refine pure_ (i:=8) (N:=some 28) (v:=?_) (a':=?_) #[true,true,true,true,true,true,true,false,true,false,false,false,false,false] rfl rfl (a1c HT_.out (by kernel_rfl)) (λ _ _ _ h=>h) (Or.inl ⟨by rfl,?_⟩) ?_ ?_
                   rotate_left
                   · intro w'
                     go_simp
                     with_reducible rfl
                   rotate_left
                   · simp only [Act.put,List.setIfInBounds_toArray,List.set_cons_zero,List.set_cons_succ,i64_w,i32_w]
                     rfl
                   refine pure_ (i:=9) (N:=some 29) (v:=?_) (a':=?_) #[true,true,true,true,true,true,true,false,true,true,false,false,false,false] rfl rfl (a1c HT_.out (by kernel_rfl)) (λ _ _ _ h=>h) (Or.inl ⟨by rfl,?_⟩) ?_ ?_
                   rotate_left
                   · intro w'
                     go_simp
                     with_reducible rfl
                   rotate_left
                   · simp only [Act.put,List.setIfInBounds_toArray,List.set_cons_zero,List.set_cons_succ,i64_w,i32_w]
                     rfl
                   refine pure_ (i:=10) (N:=some 30) (v:=?_) (a':=?_) #[true,true,true,true,true,true,true,false,true,true,true,false,false,false] rfl rfl (a1c HT_.out (by kernel_rfl)) (λ _ _ _ h=>h) (Or.inl ⟨by rfl,?_⟩) ?_ ?_
                   rotate_left
                   · intro w'
                     go_simp
                     with_reducible rfl
                   rotate_left
                   · simp only [Act.put,List.setIfInBounds_toArray,List.set_cons_zero,List.set_cons_succ,i64_w,i32_w]
                     rfl
                   refine take_ (i:=7) (N:=some 27) (v:=?_) (a':=?_) #[true,true,true,true,true,true,true,true,true,true,true,false,false,false] rfl rfl (b9w HT_.out HW_.out (by kernel_rfl)) (λ _ _ _ h=>h) (Or.inl ⟨by rfl,?_⟩) hHeld ?_ ?_
                   rotate_left
                   · intro w' s0
                     go_simp
                     with_reducible rfl
                   rotate_left
                   · simp only [Act.put,List.setIfInBounds_toArray,List.set_cons_zero,List.set_cons_succ,i64_w,i32_w]
                     rfl
                   refine pure_ (i:=11) (N:=some 31) (v:=?_) (a':=?_) #[true,true,true,true,true,true,true,true,true,true,true,true,false,false] rfl rfl (a1c HT_.out (by kernel_rfl)) (λ _ _ _ h=>h) (Or.inl ⟨by rfl,?_⟩) ?_ ?_
                   rotate_left
                   · intro w'
                     go_simp
                     with_reducible rfl
                   rotate_left
                   · simp only [Act.put,List.setIfInBounds_toArray,List.set_cons_zero,List.set_cons_succ,i64_w,i32_w]
                     rfl
                   refine pure_ (i:=12) (N:=some 32) (v:=?_) (a':=?_) #[true,true,true,true,true,true,true,true,true,true,true,true,true,false] rfl rfl (a1c HT_.out (by kernel_rfl)) (λ _ _ _ h=>h) (Or.inl ⟨by rfl,?_⟩) ?_ ?_
                   rotate_left
                   · intro w'
                     go_simp
                     with_reducible rfl
                   rotate_left
                   · simp only [Act.put,List.setIfInBounds_toArray,List.set_cons_zero,List.set_cons_succ,i64_w,i32_w]
                     rfl
                   refine last_ (i:=13) (N:=none) #[true,true,true,true,true,true,true,true,true,true,true,true,true,true] rfl rfl (a8u HT_.out (by kernel_rfl)) (by decide) (λ K hK=>?_)
                   refine skip_ (w1:=?_) (by rfl) rfl ?_ ?_
                   rotate_left
                   · go_simp
                     rfl
                   refine hK.out _ _ ?_
                   clear hK K
                   refine done_ (b2k HT_.out (by kernel_rfl)) ?_
                   try go_wp2
                   go_roundg k1
                   case measure=>have:=HK1.out; omega
                   case rel=>exact ⟨(y148),(wrap64 (x4_1 + 1)),(by first | rfl | (simp; done) | (simp [*]; done)),H',⟨by have:=HK1.out; omega⟩,⟨by (with_reducible repeat (first | apply Kd.R_alloc | apply Kd.R_drewN | apply Kd.R_drew)); exact HQ20.out⟩,⟨by repeat (first | (with_reducible first | exact HB.out | apply a0c | apply a0b | apply a0d | refine a0h ?_ GB17.out) | exact HB.out)⟩⟩
                 · rw [if_neg c15] at H
                   exact absurd H (by simp)
               · rw [if_neg c13] at H
                 exact absurd H (by simp)
             · rw [if_neg c12] at H
               exact absurd H (by simp)
           · replace c10:=Bool.eq_false_iff.mpr c10
             subst c10
             have H1 : (puncheonref01_Bytes.l0 k1 l0 x3_1 (wrap64 (x4_1 + 1))) = some r:=by rw [if_neg (show ¬ (false = true) by decide)] at H; exact H
             clear H
             have H:=H1
             clear H1
             have H':=Aside0.mk H
             clear H
             have p146 : 0 <= (x4_1 : Int):=of_decide_eq_true (by first | (with_reducible assumption) | assumption)
             have q146 : x4_1 < (l0.length : Int):=of_decide_eq_true (by first | (with_reducible assumption) | assumption)
             obtain ⟨ad146,e146,hx146_0⟩:=Kd.at_bool HR0.out x4_1 p146 q146
             (try rw [<- Nbq9.out] at hx146_0)
             cases e146
             replace hx146_0:=(HB.out.cell (World.block_lt_of_cell? w _ hx146_0)).trans hx146_0
             replace p146:=eq_true p146
             replace q146:=eq_true q146
             go_wp2
             go_roundg k1
             case measure=>have:=HK1.out; omega
             case rel=>exact ⟨(x3_1),(wrap64 (x4_1 + 1)),(by first | rfl | (simp; done) | (simp [*]; done)),H',⟨by have:=HK1.out; omega⟩,⟨by (with_reducible repeat (first | apply Kd.R_alloc | apply Kd.R_drewN | apply Kd.R_drew)); exact HO_3.out⟩,⟨by repeat (first | (with_reducible first | exact HB.out | apply a0c | apply a0b | apply a0d) | exact HB.out)⟩⟩
         · rw [if_neg c8] at H
           exact absurd H (by simp)
       · rw [if_neg c7] at H
         have c7b0 : decide (x4_1 < (l0.length : Int)) = false:=decide_eq_false c7
         clear c7
         obtain rfl:=Option.some.inj H
         go_wp2
         go_ret
         exact ⟨_,by first | rfl | (simp [a0l,a0m] <;> rfl) | (simp only [<- hji2]; first | rfl | (simp [a0l,a0m] <;> rfl)) | (simp [*,a0l,a0m] <;> rfl),by (with_reducible repeat (first | apply Kd.R_alloc | apply Kd.R_drewN | apply Kd.R_drew)); exact HO_3.out,by repeat (first | (with_reducible first | exact HB.out | apply a0c | apply a0b | apply a0d) | exact HB.out)⟩
   · rw [if_neg c4] at H
     exact absurd H (by simp)
 · rw [if_neg c3] at H
   exact absurd H (by simp)
def puncheonref01_Close.f (k : Nat) (l0 : List Bool) : Option (List Int):=(some (([] : List Bool) : List Bool)).bind λ y149=>(if y149.length + l0.length < 140737488355328 then ((some (y149 ++ l0 : List Bool)).bind λ y152=>(if y152.length < 140737488355328 then ((puncheonref01_Bytes.f k (y152 ++ [true])).bind λ t158=>(some t158)) else (none))) else (none))
theorem puncheonref01_Close.mono : ∀ a0 k,LeO (puncheonref01_Close.f k a0) (puncheonref01_Close.f (k + 1) a0):=by
 intro a0 k
 unfold puncheonref01_Close.f
 repeat' first
     | (with_reducible exact puncheonref01_Bytes.mono _ _)
     | (with_reducible exact LeO.refl _)
     | (with_reducible exact LeO.none _)
     | (with_reducible refine LeO.ite ?_ ?_)
     | (with_reducible refine LeO.bind ?_ (λ _=>?_))
     | exact puncheonref01_Bytes.mono _ _
     | exact LeO.none _
     | refine LeO.ite ?_ ?_
     | refine LeO.bind ?_ (λ _=>?_)
set_option maxHeartbeats 8000000 in
set_option maxRecDepth 100000 in
theorem puncheonref01_Close.calls (k : Nat) (A0 : Option Addr) (c0 : Nat) (l0 : List Bool) (r : List Int) (w : World) (hr0 : Kd.C Kd.bool w A0 l0.length l0) (hc0 : l0.length <= c0) (h : puncheonref01_Close.f k l0 = some r) :
    Calls Tryz.prog 252 #[.slice A0 l0.length c0] w λ e w'=>∃ v0_ : Value,e = .returned (v0_) /\ Kd.R (Kd.int .u8) 5 w' w.heap.size (λ _=>True) v0_ r /\ Below w.heap.size w w':=by
 have HR0:=Aside0.mk hr0
 have HC0:=Aside0.mk hc0
 clear hr0 hc0
 have HB:=Aside0.mk (Below.refl w.heap.size w)
 have H : ((some (([] : List Bool) : List Bool)).bind λ y149=>(if y149.length + l0.length < 140737488355328 then ((some (y149 ++ l0 : List Bool)).bind λ y152=>(if y152.length < 140737488355328 then ((puncheonref01_Bytes.f k (y152 ++ [true])).bind λ t158=>(some t158)) else (none))) else (none))) = some r:=h
 clear h
 obtain ⟨y149,hy149⟩ : ∃ y_ : List Bool,y_ = (([] : List Bool)):=⟨_,rfl⟩
 replace H : (if y149.length + l0.length < 140737488355328 then ((some (y149 ++ l0 : List Bool)).bind λ y152=>(if y152.length < 140737488355328 then ((puncheonref01_Bytes.f k (y152 ++ [true])).bind λ t158=>(some t158)) else (none))) else (none)) = some r:=by first | (rw [hy149]; with_reducible exact H) | (have H2_:=(Option.bind_some _ _).symm.trans H; rw [hy149]; with_reducible exact H2_) | (have H2_:=(Option.bind_some _ _).symm.trans H; with_reducible exact H2_) | with_reducible exact H | (rw [hy149]; exact H) | exact H
 have Ny149:=Aside0.mk hy149
 clear hy149
 by_cases c2 : y149.length + l0.length < 140737488355328
 · rw [if_pos c2] at H
   have LMc2:=Aside0.mk c2
   clear c2
   obtain ⟨y152,hy152⟩ : ∃ y_ : List Bool,y_ = (y149 ++ l0):=⟨_,rfl⟩
   replace H : (if y152.length < 140737488355328 then ((puncheonref01_Bytes.f k (y152 ++ [true])).bind λ t158=>(some t158)) else (none)) = some r:=by first | (rw [hy152]; with_reducible exact H) | (have H2_:=(Option.bind_some _ _).symm.trans H; rw [hy152]; with_reducible exact H2_) | (have H2_:=(Option.bind_some _ _).symm.trans H; with_reducible exact H2_) | with_reducible exact H | (rw [hy152]; exact H) | exact H
   have Ny152:=Aside0.mk hy152
   clear hy152
   by_cases c3 : y152.length < 140737488355328
   · rw [if_pos c3] at H
     have LMc3:=Aside0.mk c3
     clear c3
     obtain ⟨y155,hy155⟩ : ∃ y_ : List Bool,y_ = (y152 ++ [true]):=⟨_,rfl⟩
     replace H : ((puncheonref01_Bytes.f k y155).bind λ t158=>(some t158)) = some r:=by first | (rw [hy155]; with_reducible exact H) | (have H2_:=(Option.bind_some _ _).symm.trans H; rw [hy155]; with_reducible exact H2_) | (have H2_:=(Option.bind_some _ _).symm.trans H; with_reducible exact H2_) | with_reducible exact H | (rw [hy155]; exact H) | exact H
     have Ny155:=Aside0.mk hy155
     clear hy155
     replace H:=Option.bind_eq_some_iff.mp H
     obtain ⟨t158,A40,H⟩:=H
     replace H : (some t158) = some r:=H
     have A4:=Aside0.mk A40
     clear A40
     obtain rfl:=Option.some.inj H
     go_enter Tryz.func252,Tryz.ntmps252
     go_wp2_with (first | ((with_reducible refine a1E (N:=3) rfl ?_); refine Kd.R_lit Kd.bool _ 4 ?hg (N:=3) ?hd (xs:=([] : List Bool)) (inner:=[]) (ok:=λ _=>True) (okp:=λ _=>True) ?hr ?hp (λ _ hk=>hk) trivial (Below.refl _ _) (Nat.le_refl _) (by simp) ?_; (case hd=>rfl); (case hg=>rfl); (case hr=>first | (go_simp; done) | (go_simp; rfl)); (case hp=>exact (Reps.none _ _)); intro v150 w5 ho6 hb hg_ hnew_; clear hg_ hnew_; (first | rw [<- Ny149.out] at ho6 | (simp only [Int.reduceToNat] at ho6; rw [<- Ny149.out] at ho6)); have n0_:=Aside0.mk (Kd.R_lower ho6 (a0N (by repeat (first | (with_reducible first | exact HB.out | apply a0c | apply a0b | apply a0d) | exact HB.out)))); have n1_:=Aside0.mk (a1j (by repeat (first | (with_reducible first | exact HB.out | apply a0c | apply a0b | apply a0d) | exact HB.out)) hb); clear HB; have HO151:=n0_; have HB:=n1_; clear n0_ n1_; clear hb ho6) | ((with_reducible refine a3Z (b:=.append) (xs:=#[.tmp 3,.tmp 4]) rfl ?_); at_builtin; refine Kd.R_append_rows Kd.bool (w0:=w) w.heap.size rfl (.tmp 3) (.tmp 4) 142 4 (.bool false) 1 rfl Tryz.underlying142 info4 rfl (by decide) (by omega) v150 y149 l0 _ _ _ (λ _=>True) (λ _=>False) rfl rfl ?aO ?aR (λ _ _ h=>h) (λ _ h=>h.elim) ?aF ?aB ?aS ?aL ?_; (case aR=>repeat (first | exact (Kd.C_below HR0.out HB.out) | (with_reducible refine Kd.C_alloc ?_ _) | (with_reducible refine Kd.C_drewN ?_ _) | (with_reducible refine Kd.C_drew ?_))); (case aB=>exact (by repeat (first | (with_reducible first | exact HB.out | apply a0c | apply a0b | apply a0d) | exact HB.out))); (case aF=>exact (λ _ _=>trivial)); (case aO=>exact (by (with_reducible repeat (first | apply Kd.R_alloc | apply Kd.R_drewN | apply Kd.R_drew)); exact HO151.out)); (case aS=>exact (a0N (by repeat (first | (with_reducible first | exact HB.out | apply a0c | apply a0b | apply a0d) | exact HB.out)))); (case aL=>have:=LMc2.out; omega); intro v153 w7 ho hb hg hat; rw [<- Ny152.out] at ho; have n0_:=Aside0.mk (hb); have n1_:=Aside0.mk (ho); clear HB; clear HO151; have HB:=n0_; have HO154:=n1_; clear n0_ n1_; clear ho hb hg hat) | ((with_reducible refine a3Z (b:=.append) (xs:=#[.tmp 5,.tmp 6]) rfl ?_); at_builtin; refine Kd.R_append Kd.bool (w0:=w) w.heap.size rfl (.tmp 5) (.tmp 6) 142 4 (.bool false) 1 rfl Tryz.underlying142 info4 rfl (by decide) (by omega) v153 y152 true [.bool true] (λ _=>True) (λ _=>False) rfl rfl ?aP (λ _ hk=>hk.elim) ?aF ?aO ?aB ?aS ?aL ?_; (case aP=>exact rfl); (case aB=>exact (by repeat (first | (with_reducible first | exact HB.out | apply a0c | apply a0b | apply a0d) | exact HB.out))); (case aF=>exact (λ _ _=>trivial)); (case aO=>exact (by (with_reducible repeat (first | apply Kd.R_alloc | apply Kd.R_drewN | apply Kd.R_drew)); exact HO154.out)); (case aS=>exact (a0N (by repeat (first | (with_reducible first | exact HB.out | apply a0c | apply a0b | apply a0d) | exact HB.out)))); (case aL=>have:=LMc3.out; omega); intro v156 w8 ho hb hg hat; rw [<- Ny155.out] at ho; have n0_:=Aside0.mk (hb); have n1_:=Aside0.mk (ho); clear HB; clear HO154; have HB:=n0_; have HO157:=n1_; clear n0_ n1_; clear ho hb hg hat; obtain ⟨Ao9,co9,eo9⟩:=Kd.R_slice HO157.out; subst eo9) | ((with_reducible refine a1l (f:=114) rfl ?_); refine a1k (some 8) rfl rfl Tryz.func114 (by kernel_rfl) rfl #[.slice Ao9 y155.length co9] rfl (by (try simp only [List.map_toArray,List.map_cons,List.map_nil]); first | done | rfl | (simp only [List.length_drop,List.length_take]; rfl)) ?_; (with_reducible refine (puncheonref01_Bytes.calls k _ _ y155 t158 _ ?side1 ?side2 A4.out).mono ?_); (case side1=>repeat (first | exact (Kd.R_reads' HO157.out).2.2 | (with_reducible refine Kd.C_alloc ?_ _) | (with_reducible refine Kd.C_drewN ?_ _) | (with_reducible refine Kd.C_drew ?_))); (case side2=>exact (Kd.R_reads' HO157.out).2.1); rintro e w10 ⟨v159,rfl,ho0,hb⟩; refine ⟨_,rfl,?_⟩; have n0_:=Aside0.mk (Kd.R_below (by (with_reducible repeat (first | apply Kd.R_alloc | apply Kd.R_drewN | apply Kd.R_drew)); exact HO157.out) hb); have n1_:=Aside0.mk (Kd.R_lower ho0 (a0N (by repeat (first | (with_reducible first | exact HB.out | apply a0c | apply a0b | apply a0d) | exact HB.out)))); have n2_:=Aside0.mk (a1j (by repeat (first | (with_reducible first | exact HB.out | apply a0c | apply a0b | apply a0d) | exact HB.out)) hb); clear HO157; clear HB; have HO157:=n0_; have HO160:=n1_; have HB:=n2_; clear n0_ n1_ n2_; (try clear hb); (try clear hb2); (try clear hk); (try clear hi); (try clear ho0)))
     go_ret
     exact ⟨_,by first | rfl | (simp [a0l,a0m] <;> rfl) | (simp [*,a0l,a0m] <;> rfl),by (with_reducible repeat (first | apply Kd.R_alloc | apply Kd.R_drewN | apply Kd.R_drew)); exact HO160.out,by repeat (first | (with_reducible first | exact HB.out | apply a0c | apply a0b | apply a0d) | exact HB.out)⟩
   · rw [if_neg c3] at H
     exact absurd H (by simp)
 · rw [if_neg c2] at H
   exact absurd H (by simp)
end Go.Proofs.YtflfjpkmjnnodaaGreat.PRef
namespace Go.Proofs.YtflfjpkmjnnodaaGreat.PRef
open Go.RowKit Go.Proofs.YtflfjpkmjnnodaaGreatW.PrintWords Go.Proofs.YtflfjpkmjnnodaaGreatW.PrintLast Go.Proofs.YtflfjpkmjnnodaaGreatW.PrintMore
attribute [local go_sem] a1Z a1Q a2a a1R a2p a2q a2r a2s   -- for this text's walks alone
set_option linter.unusedVariables false
set_option linter.unusedSimpArgs false
def puncheonref07_Floor.l0 : Nat -> Int -> Int -> Int -> Option (Int)
 | 0,_,_,_=>none
 | k + 1,x0,x3,x4=>if x4 <= x0 then (if x3 < 60 then (puncheonref07_Floor.l0 k x0 (wrap64 (x3 + 1)) (wrap64 (2 * x4))) else (some x3)) else (some x3)
def puncheonref07_Floor.f (k : Nat) (a0 : Int) : Option (Int):=puncheonref07_Floor.l0 k a0 0 2
theorem puncheonref07_Floor.mono_l : ∀ k,(∀ y0 y1 y2,LeO (puncheonref07_Floor.l0 k y0 y1 y2) (puncheonref07_Floor.l0 (k + 1) y0 y1 y2))
 | 0=>λ _ _ _ r h=>by simp [puncheonref07_Floor.l0] at h
 | k + 1=>by
  have ih0:=puncheonref07_Floor.mono_l k
  · intro y0 y1 y2
    unfold puncheonref07_Floor.l0
    repeat' first
    | (with_reducible exact ih0 _ _ _)
    | (with_reducible exact LeO.refl _)
    | (with_reducible exact LeO.none _)
    | (with_reducible refine LeO.ite ?_ ?_)
    | (with_reducible refine LeO.bind ?_ (λ _=>?_))
    | exact ih0 _ _ _
    | exact LeO.none _
    | refine LeO.ite ?_ ?_
    | refine LeO.bind ?_ (λ _=>?_)
theorem puncheonref07_Floor.mono : ∀ a0 k,LeO (puncheonref07_Floor.f k a0) (puncheonref07_Floor.f (k + 1) a0):=by
 intro a0 k
 have ih0:=puncheonref07_Floor.mono_l k
 unfold puncheonref07_Floor.f
 repeat' first
     | (with_reducible exact ih0 _ _ _)
     | (with_reducible exact LeO.refl _)
     | (with_reducible exact LeO.none _)
     | (with_reducible refine LeO.ite ?_ ?_)
     | (with_reducible refine LeO.bind ?_ (λ _=>?_))
     | exact ih0 _ _ _
     | exact LeO.none _
     | refine LeO.ite ?_ ?_
     | refine LeO.bind ?_ (λ _=>?_)
set_option maxHeartbeats 8000000 in
set_option maxRecDepth 100000 in
theorem puncheonref07_Floor.calls (k : Nat) (a0 : Int) (r : Int) (w : World) (h : puncheonref07_Floor.f k a0 = some r) :
    Calls Tryz.prog 174 #[.int .i64 a0] w λ e w'=>e = .returned (.int .i64 r) /\ Drawn0 w w':=by
 have H : (puncheonref07_Floor.l0 k a0 0 2) = some r:=h
 clear h
 have H':=Aside0.mk H
 clear H
 go_enter Tryz.func174,Tryz.ntmps174
 go_wp2
 go_loopg [3,4] k (λ kq v3 v4 w'=>∃ (x3_1 : Int) (x4_1 : Int),v3 = .int .i64 x3_1 /\ v4 = .int .i64 x4_1 /\ Aside0 (puncheonref07_Floor.l0 kq a0 x3_1 x4_1 = some r) /\ Aside0 (kq <= k) /\ Drawn0 w w')
 case atStart=>exact ⟨(0),(2),(by first | rfl | (simp; done) | (simp [*]; done)),(by first | rfl | (simp; done) | (simp [*]; done)),H',⟨Nat.le_refl _⟩,by repeat (first | exact Drawn0.refl _ | apply Drawn0.step)⟩
 case round=>
  clear H'
  try clear c1
  obtain ⟨x3_1,x4_1,rfl,rfl,HA,HK1,⟨m1,rfl⟩⟩:=hrel
  cases gk with
  | zero=>exact absurd HA.out (by simp [puncheonref07_Floor.l0])
  | succ k1=>
   have H:=HA.out
   clear HA
   simp only [puncheonref07_Floor.l0] at H
   by_cases c2 : x4_1 <= a0
   · rw [if_pos c2] at H
     have c2b0 : decide (x4_1 <= a0) = true:=decide_eq_true c2
     clear c2
     by_cases c3 : x3_1 < 60
     · rw [if_pos c3] at H
       have c3b0 : decide (x3_1 < 60) = true:=decide_eq_true c3
       clear c3
       have H':=Aside0.mk H
       clear H
       go_wp2
       go_roundg k1
       case measure=>have:=HK1.out; omega
       case rel=>exact ⟨(wrap64 (x3_1 + 1)),(wrap64 (2 * x4_1)),(by first | rfl | (simp; done) | (simp [*]; done)),(by first | rfl | (simp; done) | (simp [*]; done)),H',⟨by have:=HK1.out; omega⟩,by repeat (first | exact Drawn0.refl _ | apply Drawn0.step)⟩
     · rw [if_neg c3] at H
       have c3b0 : decide (x3_1 < 60) = false:=decide_eq_false c3
       clear c3
       obtain rfl:=Option.some.inj H
       go_wp2
       go_ret
       exact ⟨by first | rfl | (simp; done) | (simp [*]; done),by repeat (first | exact Drawn0.refl _ | apply Drawn0.step)⟩
   · rw [if_neg c2] at H
     have c2b0 : decide (x4_1 <= a0) = false:=decide_eq_false c2
     clear c2
     obtain rfl:=Option.some.inj H
     go_wp2
     go_ret
     exact ⟨by first | rfl | (simp; done) | (simp [*]; done),by repeat (first | exact Drawn0.refl _ | apply Drawn0.step)⟩
def puncheonref07_Ceil.l0 : Nat -> Int -> Int -> Int -> Option (Int)
 | 0,_,_,_=>none
 | k + 1,x0,x3,x4=>if x4 < x0 then (if x3 < 60 then (puncheonref07_Ceil.l0 k x0 (wrap64 (x3 + 1)) (wrap64 (2 * x4))) else (some x3)) else (some x3)
def puncheonref07_Ceil.f (k : Nat) (a0 : Int) : Option (Int):=puncheonref07_Ceil.l0 k a0 0 1
theorem puncheonref07_Ceil.mono_l : ∀ k,(∀ y0 y1 y2,LeO (puncheonref07_Ceil.l0 k y0 y1 y2) (puncheonref07_Ceil.l0 (k + 1) y0 y1 y2))
 | 0=>λ _ _ _ r h=>by simp [puncheonref07_Ceil.l0] at h
 | k + 1=>by
  have ih0:=puncheonref07_Ceil.mono_l k
  · intro y0 y1 y2
    unfold puncheonref07_Ceil.l0
    repeat' first
    | (with_reducible exact ih0 _ _ _)
    | (with_reducible exact LeO.refl _)
    | (with_reducible exact LeO.none _)
    | (with_reducible refine LeO.ite ?_ ?_)
    | (with_reducible refine LeO.bind ?_ (λ _=>?_))
    | exact ih0 _ _ _
    | exact LeO.none _
    | refine LeO.ite ?_ ?_
    | refine LeO.bind ?_ (λ _=>?_)
theorem puncheonref07_Ceil.mono : ∀ a0 k,LeO (puncheonref07_Ceil.f k a0) (puncheonref07_Ceil.f (k + 1) a0):=by
 intro a0 k
 have ih0:=puncheonref07_Ceil.mono_l k
 unfold puncheonref07_Ceil.f
 repeat' first
     | (with_reducible exact ih0 _ _ _)
     | (with_reducible exact LeO.refl _)
     | (with_reducible exact LeO.none _)
     | (with_reducible refine LeO.ite ?_ ?_)
     | (with_reducible refine LeO.bind ?_ (λ _=>?_))
     | exact ih0 _ _ _
     | exact LeO.none _
     | refine LeO.ite ?_ ?_
     | refine LeO.bind ?_ (λ _=>?_)
set_option maxHeartbeats 8000000 in
set_option maxRecDepth 100000 in
theorem puncheonref07_Ceil.calls (k : Nat) (a0 : Int) (r : Int) (w : World) (h : puncheonref07_Ceil.f k a0 = some r) :
    Calls Tryz.prog 265 #[.int .i64 a0] w λ e w'=>e = .returned (.int .i64 r) /\ Drawn0 w w':=by
 have H : (puncheonref07_Ceil.l0 k a0 0 1) = some r:=h
 clear h
 have H':=Aside0.mk H
 clear H
 go_enter Tryz.func265,Tryz.ntmps265
 go_wp2
 go_loopg [3,4] k (λ kq v3 v4 w'=>∃ (x3_1 : Int) (x4_1 : Int),v3 = .int .i64 x3_1 /\ v4 = .int .i64 x4_1 /\ Aside0 (puncheonref07_Ceil.l0 kq a0 x3_1 x4_1 = some r) /\ Aside0 (kq <= k) /\ Drawn0 w w')
 case atStart=>exact ⟨(0),(1),(by first | rfl | (simp; done) | (simp [*]; done)),(by first | rfl | (simp; done) | (simp [*]; done)),H',⟨Nat.le_refl _⟩,by repeat (first | exact Drawn0.refl _ | apply Drawn0.step)⟩
 case round=>
  clear H'
  obtain ⟨x3_1,x4_1,rfl,rfl,HA,HK1,⟨m1,rfl⟩⟩:=hrel
  cases gk with
  | zero=>exact absurd HA.out (by simp [puncheonref07_Ceil.l0])
  | succ k1=>
   have H:=HA.out
   clear HA
   simp only [puncheonref07_Ceil.l0] at H
   by_cases c2 : x4_1 < a0
   · rw [if_pos c2] at H
     have c2b0 : decide (x4_1 < a0) = true:=decide_eq_true c2
     clear c2
     by_cases c3 : x3_1 < 60
     · rw [if_pos c3] at H
       have c3b0 : decide (x3_1 < 60) = true:=decide_eq_true c3
       clear c3
       have H':=Aside0.mk H
       clear H
       go_wp2
       go_roundg k1
       case measure=>have:=HK1.out; omega
       case rel=>exact ⟨(wrap64 (x3_1 + 1)),(wrap64 (2 * x4_1)),(by first | rfl | (simp; done) | (simp [*]; done)),(by first | rfl | (simp; done) | (simp [*]; done)),H',⟨by have:=HK1.out; omega⟩,by repeat (first | exact Drawn0.refl _ | apply Drawn0.step)⟩
     · rw [if_neg c3] at H
       have c3b0 : decide (x3_1 < 60) = false:=decide_eq_false c3
       clear c3
       obtain rfl:=Option.some.inj H
       go_wp2
       go_ret
       exact ⟨by first | rfl | (simp; done) | (simp [*]; done),by repeat (first | exact Drawn0.refl _ | apply Drawn0.step)⟩
   · rw [if_neg c2] at H
     have c2b0 : decide (x4_1 < a0) = false:=decide_eq_false c2
     clear c2
     obtain rfl:=Option.some.inj H
     go_wp2
     go_ret
     exact ⟨by first | rfl | (simp; done) | (simp [*]; done),by repeat (first | exact Drawn0.refl _ | apply Drawn0.step)⟩
def puncheonref07_Pick.f (k : Nat) (a0 : Int) (a1 : Int) (a2 : Int) : Option (Int):=(puncheonref07_Floor.f k a0).bind λ t173=>((puncheonref07_Ceil.f k a1).bind λ t174=>(some (mx (mx (mn (wrap64 (t173 - 2)) a2) 5) t174)))
theorem puncheonref07_Pick.mono : ∀ a0 a1 a2 k,LeO (puncheonref07_Pick.f k a0 a1 a2) (puncheonref07_Pick.f (k + 1) a0 a1 a2):=by
 intro a0 a1 a2 k
 unfold puncheonref07_Pick.f
 repeat' first
     | (with_reducible exact puncheonref07_Ceil.mono _ _)
     | (with_reducible exact puncheonref07_Floor.mono _ _)
     | (with_reducible exact LeO.refl _)
     | (with_reducible exact LeO.none _)
     | (with_reducible refine LeO.ite ?_ ?_)
     | (with_reducible refine LeO.bind ?_ (λ _=>?_))
     | exact puncheonref07_Ceil.mono _ _
     | exact puncheonref07_Floor.mono _ _
     | exact LeO.none _
     | refine LeO.ite ?_ ?_
     | refine LeO.bind ?_ (λ _=>?_)
set_option maxHeartbeats 8000000 in
set_option maxRecDepth 100000 in
theorem puncheonref07_Pick.calls (k : Nat) (a0 : Int) (a1 : Int) (a2 : Int) (r : Int) (w : World) (h : puncheonref07_Pick.f k a0 a1 a2 = some r) :
    Calls Tryz.prog 246 #[.int .i64 a0,.int .i64 a1,.int .i64 a2] w λ e w'=>e = .returned (.int .i64 r) /\ Below w.heap.size w w':=by
 have HB:=Aside0.mk (Below.refl w.heap.size w)
 have H : ((puncheonref07_Floor.f k a0).bind λ t173=>((puncheonref07_Ceil.f k a1).bind λ t174=>(some (mx (mx (mn (wrap64 (t173 - 2)) a2) 5) t174)))) = some r:=h
 clear h
 replace H:=Option.bind_eq_some_iff.mp H
 obtain ⟨t173,A40,H⟩:=H
 replace H : ((puncheonref07_Ceil.f k a1).bind λ t174=>(some (mx (mx (mn (wrap64 (t173 - 2)) a2) 5) t174))) = some r:=H
 have A4:=Aside0.mk A40
 clear A40
 obtain ⟨ji5,hji5⟩ : ∃ j_ : Int,(mn (wrap64 (t173 - 2)) a2) = j_:=⟨_,rfl⟩
 replace H : ((puncheonref07_Ceil.f k a1).bind λ t174=>(some (mx (mx (ji5) 5) t174))) = some r:=by first | (rw [hji5] at H; exact H) | (simp only [hji5] at H ⊢; exact H)
 (try rw [hji5] at A4)
 have hji5_ : (if a2 < (wrap64 (t173 - 2)) then a2 else (wrap64 (t173 - 2))) = ji5:=hji5
 replace H:=Option.bind_eq_some_iff.mp H
 obtain ⟨t174,A60,H⟩:=H
 replace H : (some (mx (mx (ji5) 5) t174)) = some r:=H
 have A6:=Aside0.mk A60
 clear A60
 obtain ⟨ji7,hji7⟩ : ∃ j_ : Int,(mx (ji5) 5) = j_:=⟨_,rfl⟩
 replace H : (some (mx (ji7) t174)) = some r:=by first | (rw [hji7] at H; exact H) | (simp only [hji7] at H ⊢; exact H)
 (try rw [hji7] at A4)
 (try rw [hji7] at A6)
 have hji7_ : (if (ji5) < 5 then 5 else (ji5)) = ji7:=hji7
 obtain ⟨ji8,hji8⟩ : ∃ j_ : Int,(mx (ji7) t174) = j_:=⟨_,rfl⟩
 replace H : (some ji8) = some r:=by first | (rw [hji8] at H; exact H) | (simp only [hji8] at H ⊢; exact H)
 (try rw [hji8] at A4)
 (try rw [hji8] at A6)
 have hji8_ : (if (ji7) < t174 then t174 else (ji7)) = ji8:=hji8
 obtain rfl:=Option.some.inj H
 go_enter Tryz.func246,Tryz.ntmps246
 go_wp2_with (first | ((with_reducible refine a1l (f:=174) rfl ?_); refine a1k (some 9) rfl rfl Tryz.func174 (by kernel_rfl) rfl #[.int .i64 a0] rfl (by (try simp only [List.map_toArray,List.map_cons,List.map_nil]); first | done | rfl | (simp only [List.length_drop,List.length_take]; rfl)) ?_; (with_reducible refine (puncheonref07_Floor.calls k a0 t173 _ A4.out).mono ?_); rintro e w' ⟨rfl,⟨nd,rfl⟩⟩; refine ⟨_,rfl,?_⟩) | ((with_reducible refine a1l (f:=265) rfl ?_); refine a1k (some 15) rfl rfl Tryz.func265 (by kernel_rfl) rfl #[.int .i64 a1] rfl (by (try simp only [List.map_toArray,List.map_cons,List.map_nil]); first | done | rfl | (simp only [List.length_drop,List.length_take]; rfl)) ?_; (with_reducible refine (puncheonref07_Ceil.calls k a1 t174 _ A6.out).mono ?_); rintro e w' ⟨rfl,⟨nd,rfl⟩⟩; refine ⟨_,rfl,?_⟩))
 go_ret
 exact ⟨by first | rfl | (simp [a0l,a0m] <;> rfl) | (simp only [<- hji5,<- hji7,<- hji8]; first | rfl | (simp [a0l,a0m] <;> rfl)) | (simp [*,a0l,a0m] <;> rfl),by repeat (first | (with_reducible first | exact HB.out | apply a0c | apply a0b | apply a0d) | exact HB.out)⟩
mutual
def puncheonref05_Of.l0 : Nat -> List Int -> List Int -> Int -> Option (List Int)
 | 0,_,_,_=>none
 | k + 1,x0,x3,x4=>if x4 < 256 then (puncheonref05_Of.l1 k x0 x3 x4 0) else (some x3)
def puncheonref05_Of.l1 : Nat -> List Int -> List Int -> Int -> Int -> Option (List Int)
 | 0,_,_,_,_=>none
 | k + 1,x0,x3,x4,x5=>if x5 < (x0.length : Int) then (if 0 <= x5 then (if (wrap64 (rd x0 x5)) = x4 then (if 0 <= x4 then (if x4 < (x3.length : Int) then (puncheonref05_Of.l1 k x0 (x3.set (x4 : Int).toNat (wrap64 ((rd x3 x4) + 1))) x4 (wrap64 (x5 + 1))) else (none)) else (none)) else (puncheonref05_Of.l1 k x0 x3 x4 (wrap64 (x5 + 1)))) else (none)) else (puncheonref05_Of.l0 k x0 x3 (wrap64 (x4 + 1)))
end
def puncheonref05_Of.f (k : Nat) (l0 : List Int) : Option (List Int):=if 256 <= 35184372088832 then (puncheonref05_Of.l0 k l0 (List.replicate 256 0) 0) else (none)
set_option maxHeartbeats 8000000 in
set_option maxRecDepth 100000 in
theorem puncheonref05_Of.calls (k : Nat) (A0 : Option Addr) (c0 : Nat) (l0 : List Int) (r : List Int) (w : World) (hr0 : Kd.C (Kd.int .u8) w A0 l0.length l0) (hc0 : l0.length <= c0) (h : puncheonref05_Of.f k l0 = some r) :
    Calls Tryz.prog 245 #[.slice A0 l0.length c0] w λ e w'=>∃ v0_ : Value,e = .returned (v0_) /\ Kd.R (Kd.int .i64) 3 w' w.heap.size (λ _=>True) v0_ r /\ Below w.heap.size w w':=by
 have HR0:=Aside0.mk hr0
 have HC0:=Aside0.mk hc0
 clear hr0 hc0
 have HB:=Aside0.mk (Below.refl w.heap.size w)
 have H : (if 256 <= 35184372088832 then (puncheonref05_Of.l0 k l0 (List.replicate 256 0) 0) else (none)) = some r:=h
 clear h
 by_cases c2 : 256 <= 35184372088832
 · rw [if_pos c2] at H
   have c2b0:=eq_true c2
   have c2b1 : decide (256 <= 35184372088832) = true:=decide_eq_true c2
   clear c2
   obtain ⟨y175,hy175⟩ : ∃ y_ : List Int,y_ = (List.replicate 256 0):=⟨_,rfl⟩
   replace H : (puncheonref05_Of.l0 k l0 y175 0) = some r:=by first | (rw [hy175]; with_reducible exact H) | (have H2_:=(Option.bind_some _ _).symm.trans H; rw [hy175]; with_reducible exact H2_) | (have H2_:=(Option.bind_some _ _).symm.trans H; with_reducible exact H2_) | with_reducible exact H | (rw [hy175]; exact H) | exact H
   have Ny175:=Aside0.mk hy175
   clear hy175
   have H':=Aside0.mk H
   clear H
   go_enter Tryz.func245,Tryz.ntmps245
   go_wp2_with (first | ((with_reducible refine a1E (N:=6) rfl ?_); refine Kd.R_make (Kd.int .i64) _ 3 rfl (N:=6) rfl 84 _ _ rfl 256 rfl rfl Tryz.underlying84 (.int .i64 0) 8 info3 rfl (by decide) (by omega) 0 (ok:=λ _=>True) (okp:=λ _=>True) rfl (λ _ hk=>hk) trivial (by omega) (by omega) (Below.refl _ _) (Nat.le_refl _) ?_; intro v176 w3 ho4 hb hg_ hnew_; clear hg_ hnew_; (first | rw [<- Ny175.out] at ho4 | (simp only [Int.reduceToNat] at ho4; rw [<- Ny175.out] at ho4)); have n0_:=Aside0.mk (Kd.R_lower ho4 (a0N (by repeat (first | (with_reducible first | exact HB.out | apply a0c | apply a0b | apply a0d) | exact HB.out)))); have n1_:=Aside0.mk (a1j (by repeat (first | (with_reducible first | exact HB.out | apply a0c | apply a0b | apply a0d) | exact HB.out)) hb); clear HB; have HO177:=n0_; have HB:=n1_; clear n0_ n1_; clear hb ho4))
   go_loopg [4] k (λ kq v4 w'=>∃ (x3_1 : List Int) (x4_1 : Int),v4 = .int .i64 x4_1 /\ Aside0 (puncheonref05_Of.l0 kq l0 x3_1 x4_1 = some r) /\ Aside0 (kq <= k) /\ Aside0 (Kd.R (Kd.int .i64) 3 w' w.heap.size (λ _=>True) v176 x3_1) /\ Aside0 (Below w.heap.size w w'))
   case atStart=>exact ⟨(y175),(0),(by first | rfl | (simp; done) | (simp [*]; done)),H',⟨Nat.le_refl _⟩,⟨by (with_reducible repeat (first | apply Kd.R_alloc | apply Kd.R_drewN | apply Kd.R_drew)); exact HO177.out⟩,⟨by repeat (first | (with_reducible first | exact HB.out | apply a0c | apply a0b | apply a0d) | exact HB.out)⟩⟩
   case round=>
    clear H'
    try clear c2
    try clear c2b0
    try clear c2b1
    try clear p2
    obtain ⟨x3_1,x4_1,rfl,HA,HK1,HO_3,HB⟩:=hrel
    cases gk with
    | zero=>exact absurd HA.out (by simp [puncheonref05_Of.l0])
    | succ k1=>
     have H:=HA.out
     clear HA
     simp only [puncheonref05_Of.l0] at H
     by_cases c5 : x4_1 < 256
     · rw [if_pos c5] at H
       have c5b0 : decide (x4_1 < 256) = true:=decide_eq_true c5
       clear c5
       have H':=Aside0.mk H
       clear H
       go_wp2
       go_loopg [5] k1 (λ kq v5 w'=>∃ (x3_2 : List Int) (x5_2 : Int),v5 = .int .i64 x5_2 /\ Aside0 (puncheonref05_Of.l1 kq l0 x3_2 x4_1 x5_2 = some r) /\ Aside0 (kq <= k1) /\ Aside0 (Kd.R (Kd.int .i64) 3 w' w.heap.size (λ _=>True) v176 x3_2) /\ Aside0 (Below w.heap.size w w'))
       case atStart=>exact ⟨(x3_1),(0),(by first | rfl | (simp; done) | (simp [*]; done)),H',⟨Nat.le_refl _⟩,⟨by (with_reducible repeat (first | apply Kd.R_alloc | apply Kd.R_drewN | apply Kd.R_drew)); exact HO_3.out⟩,⟨by repeat (first | (with_reducible first | exact HB.out | apply a0c | apply a0b | apply a0d) | exact HB.out)⟩⟩
       case round=>
        clear H'
        try clear c2
        try clear c2b0
        try clear c2b1
        try clear p2
        try clear c5
        try clear c5b0
        try clear p2
        obtain ⟨x3_2,x5_2,rfl,HA,HK2,HO_3,HB⟩:=hrel
        cases gk with
        | zero=>exact absurd HA.out (by simp [puncheonref05_Of.l1])
        | succ k2=>
         have H:=HA.out
         clear HA
         simp only [puncheonref05_Of.l1] at H
         by_cases c6 : x5_2 < (l0.length : Int)
         · rw [if_pos c6] at H
           have c6b0 : decide (x5_2 < (l0.length : Int)) = true:=decide_eq_true c6
           clear c6
           by_cases c7 : 0 <= x5_2
           · rw [if_pos c7] at H
             have c7b0 : decide (0 <= x5_2) = true:=decide_eq_true c7
             clear c7
             by_cases c8 : (wrap64 (rd l0 x5_2)) = x4_1
             · rw [if_pos c8] at H
               have c8b0 : ((wrap64 (rd l0 x5_2)) == x4_1) = true:=beq_iff_eq.mpr c8
               have c8b1 : ((wrap64 (rd l0 x5_2)) != x4_1) = false:=bne_eq_false_iff_eq.mpr c8
               clear c8
               by_cases c9 : 0 <= x4_1
               · rw [if_pos c9] at H
                 have c9b0 : decide (0 <= x4_1) = true:=decide_eq_true c9
                 clear c9
                 by_cases c10 : x4_1 < (x3_2.length : Int)
                 · rw [if_pos c10] at H
                   have c10b0 : decide (x4_1 < (x3_2.length : Int)) = true:=decide_eq_true c10
                   clear c10
                   obtain ⟨y180,hy180⟩ : ∃ y_ : List Int,y_ = (x3_2.set (x4_1 : Int).toNat (wrap64 ((rd x3_2 x4_1) + 1))):=⟨_,rfl⟩
                   replace H : (puncheonref05_Of.l1 k2 l0 y180 x4_1 (wrap64 (x5_2 + 1))) = some r:=by first | (rw [hy180]; with_reducible exact H) | (have H2_:=(Option.bind_some _ _).symm.trans H; rw [hy180]; with_reducible exact H2_) | (have H2_:=(Option.bind_some _ _).symm.trans H; with_reducible exact H2_) | with_reducible exact H | (rw [hy180]; exact H) | exact H
                   have Ny180:=Aside0.mk hy180
                   clear hy180
                   have H':=Aside0.mk H
                   clear H
                   have p178 : 0 <= (x5_2 : Int):=of_decide_eq_true (by first | (with_reducible assumption) | assumption)
                   have q178 : x5_2 < (l0.length : Int):=of_decide_eq_true (by first | (with_reducible assumption) | assumption)
                   obtain ⟨ad178,e178,hx178_0⟩:=Kd.at_int HR0.out x5_2 p178 q178
                   cases e178
                   replace hx178_0:=(HB.out.cell (World.block_lt_of_cell? w _ hx178_0)).trans hx178_0
                   replace p178:=eq_true p178
                   replace q178:=eq_true q178
                   obtain ⟨Ao12,co12,eo12⟩:=Kd.R_slice HO_3.out
                   subst eo12
                   have p179 : 0 <= (x4_1 : Int):=of_decide_eq_true (by first | (with_reducible assumption) | assumption)
                   have q179 : x4_1 < (x3_2.length : Int):=of_decide_eq_true (by first | (with_reducible assumption) | assumption)
                   obtain ⟨ad179,e179,hx179_0⟩:=Kd.at_int (Kd.R_reads' HO_3.out).2.2 x4_1 p179 q179
                   cases e179
                   replace p179:=eq_true p179
                   replace q179:=eq_true q179
                   have p11 : 0 <= (x4_1 : Int):=of_decide_eq_true (by first | (with_reducible assumption) | assumption)
                   have q11 : (x4_1 : Int) < ((x3_2.length : Int) : Int):=of_decide_eq_true (by first | (with_reducible assumption) | assumption)
                   obtain ⟨go11,co11,eo11,gb11,gl11,cl11,HG11⟩:=Kd.R_form HO_3.out (by omega)
                   (first | cases eo11 | (injection eo11 with ea_ en_ ec_; (first | subst ea_ | (injection ea_ with ea_; subst ea_)); subst ec_; clear en_))
                   have GB11:=Aside0.mk gb11
                   have GG11:=Aside0.mk HG11
                   clear gb11 gl11 HG11
                   (first | simp only [a2l] at hx179_0 | skip)
                   obtain ⟨hx11_0,hf11_0⟩:=Kd.R_celln 0 HO_3.out (x4_1 : Int) p11 q11
                   replace p11:=eq_true p11
                   replace q11:=eq_true q11
                   have HP13:=Kd.R_putg HO_3.out (x4_1 : Int) (wrap64 ((rd x3_2 x4_1) + 1))
                   go_wp2_with (first | ((with_reducible refine b1w (t:=3) (p:=29) rfl ?_); refine b1v (t:=3) (p:=29) (v:=?vo_w14) (w1:=(wr.setCell ⟨go11,(x4_1 : Int).toNat,none⟩ (.int .i64 (wrap64 ((rd x3_2 x4_1) + 1))))) ?hg ?ho ?hn ?hr ?_; (case ho=>rfl); (case hg=>rfl); (case hn=>rfl); (case hr=>first | (go_simp; done) | (go_simp; rfl)); intro w14 hw; have hg : wr.grownBy w14 (some go11):=(by rw [hw]; exact HP13.2); have hp_ : Kd.R (Kd.int .i64) 3 w14 w.heap.size (λ _=>True) (.slice (some ⟨go11,0,none⟩) x3_2.length co12) y180:=(by rw [hw,Ny180.out]; exact HP13.1); clear HP13; have n0_:=Aside0.mk (hp_); have n1_:=Aside0.mk ((by rw [hw]; exact a0h (HB.out) GB11.out : Below w.heap.size w w14)); clear HO_3; clear HB; have HO_3:=n0_; have HB:=n1_; clear n0_ n1_; clear hg hw hp_))
                   go_roundg k2
                   case measure=>have:=HK1.out; have:=HK2.out; omega
                   case rel=>exact ⟨(y180),(wrap64 (x5_2 + 1)),(by first | rfl | (simp; done) | (simp [*]; done)),H',⟨by have:=HK1.out; have:=HK2.out; omega⟩,⟨by (with_reducible repeat (first | apply Kd.R_alloc | apply Kd.R_drewN | apply Kd.R_drew)); exact HO_3.out⟩,⟨by repeat (first | (with_reducible first | exact HB.out | apply a0c | apply a0b | apply a0d) | exact HB.out)⟩⟩
                 · rw [if_neg c10] at H
                   exact absurd H (by simp)
               · rw [if_neg c9] at H
                 exact absurd H (by simp)
             · rw [if_neg c8] at H
               have c8b0 : ((wrap64 (rd l0 x5_2)) == x4_1) = false:=beq_eq_false_iff_ne.mpr c8
               have c8b1 : ((wrap64 (rd l0 x5_2)) != x4_1) = true:=bne_iff_ne.mpr c8
               have H':=Aside0.mk H
               clear H
               have p178 : 0 <= (x5_2 : Int):=of_decide_eq_true (by first | (with_reducible assumption) | assumption)
               have q178 : x5_2 < (l0.length : Int):=of_decide_eq_true (by first | (with_reducible assumption) | assumption)
               obtain ⟨ad178,e178,hx178_0⟩:=Kd.at_int HR0.out x5_2 p178 q178
               cases e178
               replace hx178_0:=(HB.out.cell (World.block_lt_of_cell? w _ hx178_0)).trans hx178_0
               replace p178:=eq_true p178
               replace q178:=eq_true q178
               go_wp2
               go_roundg k2
               case measure=>have:=HK1.out; have:=HK2.out; omega
               case rel=>exact ⟨(x3_2),(wrap64 (x5_2 + 1)),(by first | rfl | (simp; done) | (simp [*]; done)),H',⟨by have:=HK1.out; have:=HK2.out; omega⟩,⟨by (with_reducible repeat (first | apply Kd.R_alloc | apply Kd.R_drewN | apply Kd.R_drew)); exact HO_3.out⟩,⟨by repeat (first | (with_reducible first | exact HB.out | apply a0c | apply a0b | apply a0d) | exact HB.out)⟩⟩
           · rw [if_neg c7] at H
             exact absurd H (by simp)
         · rw [if_neg c6] at H
           have c6b0 : decide (x5_2 < (l0.length : Int)) = false:=decide_eq_false c6
           clear c6
           have H':=Aside0.mk H
           clear H
           go_wp2
           go_roundg k2
           case measure=>have:=HK1.out; have:=HK2.out; omega
           case rel=>exact ⟨(x3_2),(wrap64 (x4_1 + 1)),(by first | rfl | (simp; done) | (simp [*]; done)),H',⟨by have:=HK1.out; have:=HK2.out; omega⟩,⟨by (with_reducible repeat (first | apply Kd.R_alloc | apply Kd.R_drewN | apply Kd.R_drew)); exact HO_3.out⟩,⟨by repeat (first | (with_reducible first | exact HB.out | apply a0c | apply a0b | apply a0d) | exact HB.out)⟩⟩
     · rw [if_neg c5] at H
       have c5b0 : decide (x4_1 < 256) = false:=decide_eq_false c5
       clear c5
       obtain rfl:=Option.some.inj H
       go_wp2
       go_ret
       exact ⟨_,by first | rfl | (simp [a0l,a0m] <;> rfl) | (simp [*,a0l,a0m] <;> rfl),by (with_reducible repeat (first | apply Kd.R_alloc | apply Kd.R_drewN | apply Kd.R_drew)); exact HO_3.out,by repeat (first | (with_reducible first | exact HB.out | apply a0c | apply a0b | apply a0d) | exact HB.out)⟩
 · rw [if_neg c2] at H
   exact absurd H (by simp)
mutual
def puncheonref05_Many.l0 : Nat -> List Int -> Int -> Bool -> Int -> Option (Int)
 | 0,_,_,_,_=>none
 | k + 1,x0,x3,x4,x5=>if x5 < (x0.length : Int) then (puncheonref05_Many.j1 k x0 x3 x4 x5 x4) else (puncheonref05_Many.j1 k x0 x3 x4 x5 false)
def puncheonref05_Many.j1 : Nat -> List Int -> Int -> Bool -> Int -> Bool -> Option (Int)
 | 0,_,_,_,_,_=>none
 | k + 1,x0,x3,x4,x5,x14=>if x14 = true then (if 0 <= x5 then (if x5 < (x0.length : Int) then (if (rd x0 x5) > 0 then (puncheonref05_Many.l0 k x0 (wrap64 (x3 + 1)) x4 (wrap64 (x5 + 1))) else (puncheonref05_Many.l0 k x0 x3 x4 (wrap64 (x5 + 1)))) else (none)) else (none)) else (some x3)
end
def puncheonref05_Many.f (k : Nat) (l0 : List Int) : Option (Int):=(puncheonref05_Right.f k l0).bind λ t181=>(puncheonref05_Many.l0 k l0 0 t181 0)
theorem puncheonref05_Many.mono_l : ∀ k,(∀ y0 y1 y2 y3,LeO (puncheonref05_Many.l0 k y0 y1 y2 y3) (puncheonref05_Many.l0 (k + 1) y0 y1 y2 y3)) /\ (∀ y0 y1 y2 y3 y4,LeO (puncheonref05_Many.j1 k y0 y1 y2 y3 y4) (puncheonref05_Many.j1 (k + 1) y0 y1 y2 y3 y4))
 | 0=>⟨λ _ _ _ _ r h=>by simp [puncheonref05_Many.l0] at h,λ _ _ _ _ _ r h=>by simp [puncheonref05_Many.j1] at h⟩
 | k + 1=>by
  obtain ⟨ih0,ih1⟩:=puncheonref05_Many.mono_l k
  refine ⟨?_,?_⟩
  · intro y0 y1 y2 y3
    unfold puncheonref05_Many.l0
    repeat' first
    | (with_reducible exact ih0 _ _ _ _)
    | (with_reducible exact ih1 _ _ _ _ _)
    | (with_reducible exact puncheonref05_Right.mono _ _)
    | (with_reducible exact LeO.refl _)
    | (with_reducible exact LeO.none _)
    | (with_reducible refine LeO.ite ?_ ?_)
    | (with_reducible refine LeO.bind ?_ (λ _=>?_))
    | exact ih0 _ _ _ _
    | exact ih1 _ _ _ _ _
    | exact puncheonref05_Right.mono _ _
    | exact LeO.none _
    | refine LeO.ite ?_ ?_
    | refine LeO.bind ?_ (λ _=>?_)
  · intro y0 y1 y2 y3 y4
    unfold puncheonref05_Many.j1
    repeat' first
    | (with_reducible exact ih0 _ _ _ _)
    | (with_reducible exact ih1 _ _ _ _ _)
    | (with_reducible exact puncheonref05_Right.mono _ _)
    | (with_reducible exact LeO.refl _)
    | (with_reducible exact LeO.none _)
    | (with_reducible refine LeO.ite ?_ ?_)
    | (with_reducible refine LeO.bind ?_ (λ _=>?_))
    | exact ih0 _ _ _ _
    | exact ih1 _ _ _ _ _
    | exact puncheonref05_Right.mono _ _
    | exact LeO.none _
    | refine LeO.ite ?_ ?_
    | refine LeO.bind ?_ (λ _=>?_)
theorem puncheonref05_Many.mono : ∀ a0 k,LeO (puncheonref05_Many.f k a0) (puncheonref05_Many.f (k + 1) a0):=by
 intro a0 k
 obtain ⟨ih0,ih1⟩:=puncheonref05_Many.mono_l k
 unfold puncheonref05_Many.f
 repeat' first
     | (with_reducible exact ih0 _ _ _ _)
     | (with_reducible exact ih1 _ _ _ _ _)
     | (with_reducible exact puncheonref05_Right.mono _ _)
     | (with_reducible exact LeO.refl _)
     | (with_reducible exact LeO.none _)
     | (with_reducible refine LeO.ite ?_ ?_)
     | (with_reducible refine LeO.bind ?_ (λ _=>?_))
     | exact ih0 _ _ _ _
     | exact ih1 _ _ _ _ _
     | exact puncheonref05_Right.mono _ _
     | exact LeO.none _
     | refine LeO.ite ?_ ?_
     | refine LeO.bind ?_ (λ _=>?_)
set_option maxHeartbeats 8000000 in
set_option maxRecDepth 100000 in
theorem puncheonref05_Many.calls (k : Nat) (A0 : Option Addr) (c0 : Nat) (l0 : List Int) (r : Int) (w : World) (hr0 : Kd.C (Kd.int .i64) w A0 l0.length l0) (hc0 : l0.length <= c0) (h : puncheonref05_Many.f k l0 = some r) :
    Calls Tryz.prog 247 #[.slice A0 l0.length c0] w λ e w'=>e = .returned (.int .i64 r) /\ Drawn0 w w':=by
 have HR0:=Aside0.mk hr0
 have HC0:=Aside0.mk hc0
 clear hr0 hc0
 have H : ((puncheonref05_Right.f k l0).bind λ t181=>(puncheonref05_Many.l0 k l0 0 t181 0)) = some r:=h
 clear h
 replace H:=Option.bind_eq_some_iff.mp H
 obtain ⟨t181,A20,H⟩:=H
 replace H : (puncheonref05_Many.l0 k l0 0 t181 0) = some r:=H
 have A2:=Aside0.mk A20
 clear A20
 have H':=Aside0.mk H
 clear H
 go_enter Tryz.func247,Tryz.ntmps247
 go_wp2_with (first | ((with_reducible refine a1l (f:=242) rfl ?_); refine a1k (some 7) rfl rfl Tryz.func242 (by kernel_rfl) rfl #[.slice A0 l0.length c0] rfl (by (try simp only [List.map_toArray,List.map_cons,List.map_nil]); first | done | rfl | (simp only [List.length_drop,List.length_take]; rfl)) ?_; (with_reducible refine (puncheonref05_Right.calls k _ _ l0 t181 _ ?side1 ?side2 A2.out).mono ?_); (case side1=>repeat (first | exact HR0.out | (with_reducible refine Kd.C_alloc ?_ _) | (with_reducible refine Kd.C_drewN ?_ _) | (with_reducible refine Kd.C_drew ?_))); (case side2=>exact HC0.out); rintro e w' ⟨rfl,⟨nd,rfl⟩⟩; refine ⟨_,rfl,?_⟩))
 go_loopg [3,5] k (λ kq v3 v5 w'=>∃ (x3_1 : Int) (x5_1 : Int),v3 = .int .i64 x3_1 /\ v5 = .int .i64 x5_1 /\ Aside0 (puncheonref05_Many.l0 kq l0 x3_1 t181 x5_1 = some r) /\ Aside0 (kq <= k) /\ Drawn0 w w')
 case atStart=>exact ⟨(0),(0),(by first | rfl | (simp; done) | (simp [*]; done)),(by first | rfl | (simp; done) | (simp [*]; done)),H',⟨Nat.le_refl _⟩,by repeat (first | exact Drawn0.refl _ | apply Drawn0.step)⟩
 case round=>
  clear H'
  try clear c2
  try clear p2
  obtain ⟨x3_1,x5_1,rfl,rfl,HA,HK1,⟨m1,rfl⟩⟩:=hrel
  cases gk with
  | zero=>exact absurd HA.out (by simp [puncheonref05_Many.l0])
  | succ k1=>
   have H:=HA.out
   clear HA
   simp only [puncheonref05_Many.l0] at H
   have HC3:=Aside0.mk H
   clear H
   go_upto_region 4 with (fail)
   go_cut [14] (λ v14 wc=>∃ (kq : Nat) (x14_2 : Bool),v14 = .bool x14_2 /\ Aside0 (puncheonref05_Many.j1 kq l0 x3_1 t181 x5_1 x14_2 = some r) /\ Aside0 (kq <= k1) /\ Drawn0 w wc)
   case first=>
    have H:=HC3.out
    clear HC3
    by_cases c4 : x5_1 < (l0.length : Int)
    · rw [if_pos c4] at H
      have c4b0 : decide (x5_1 < (l0.length : Int)) = true:=decide_eq_true c4
      clear c4
      (first | rw [c4b0] | (simp only [i64_w,i32_w]; rw [c4b0]) | skip)
      have H':=Aside0.mk H
      clear H
      go_wp2
      go_meet
      case rel=>exact ⟨_,(t181),(by first | rfl | (simp; done) | (simp [*]; done)),H',⟨by have:=HK1.out; first | omega | exact Nat.le_refl _⟩,by repeat (first | exact Drawn0.refl _ | apply Drawn0.step)⟩
    · rw [if_neg c4] at H
      have c4b0 : decide (x5_1 < (l0.length : Int)) = false:=decide_eq_false c4
      clear c4
      (first | rw [c4b0] | (simp only [i64_w,i32_w]; rw [c4b0]) | skip)
      have H':=Aside0.mk H
      clear H
      go_wp2
      go_meet
      case rel=>exact ⟨_,(false),(by first | rfl | (simp; done) | (simp [*]; done)),H',⟨by have:=HK1.out; first | omega | exact Nat.le_refl _⟩,by repeat (first | exact Drawn0.refl _ | apply Drawn0.step)⟩
   case rest=>
    clear HC3
    try clear c2
    try clear p2
    try clear c4
    try clear c4b0
    try clear p2
    obtain ⟨kq,x14_2,rfl,HA,HJ2,⟨mc2,rfl⟩⟩:=hcut
    cases kq with
    | zero=>exact absurd HA.out (by simp [puncheonref05_Many.j1])
    | succ kj2=>
     have H:=HA.out
     clear HA
     simp only [puncheonref05_Many.j1] at H
     by_cases c5 : x14_2 = true
     · subst c5
       have H1 : (if 0 <= x5_1 then (if x5_1 < (l0.length : Int) then (if (rd l0 x5_1) > 0 then (puncheonref05_Many.l0 kj2 l0 (wrap64 (x3_1 + 1)) t181 (wrap64 (x5_1 + 1))) else (puncheonref05_Many.l0 kj2 l0 x3_1 t181 (wrap64 (x5_1 + 1)))) else (none)) else (none)) = some r:=by rw [if_pos rfl] at H; exact H
       clear H
       have H:=H1
       clear H1
       by_cases c6 : 0 <= x5_1
       · rw [if_pos c6] at H
         have c6b0 : decide (0 <= x5_1) = true:=decide_eq_true c6
         clear c6
         by_cases c7 : x5_1 < (l0.length : Int)
         · rw [if_pos c7] at H
           have c7b0 : decide (x5_1 < (l0.length : Int)) = true:=decide_eq_true c7
           clear c7
           by_cases c8 : (rd l0 x5_1) > 0
           · rw [if_pos c8] at H
             have c8b0 : decide (0 < (rd l0 x5_1)) = true:=decide_eq_true c8
             clear c8
             have H':=Aside0.mk H
             clear H
             have p182 : 0 <= (x5_1 : Int):=of_decide_eq_true (by first | (with_reducible assumption) | assumption)
             have q182 : x5_1 < (l0.length : Int):=of_decide_eq_true (by first | (with_reducible assumption) | assumption)
             obtain ⟨ad182,e182,hx182_0⟩:=Kd.at_int HR0.out x5_1 p182 q182
             cases e182
             replace p182:=eq_true p182
             replace q182:=eq_true q182
             go_wp2
             go_roundg kj2
             case measure=>have:=HK1.out; have:=HJ2.out; omega
             case rel=>exact ⟨(wrap64 (x3_1 + 1)),(wrap64 (x5_1 + 1)),(by first | rfl | (simp; done) | (simp [*]; done)),(by first | rfl | (simp; done) | (simp [*]; done)),H',⟨by have:=HK1.out; have:=HJ2.out; omega⟩,by repeat (first | exact Drawn0.refl _ | apply Drawn0.step)⟩
           · rw [if_neg c8] at H
             have c8b0 : decide (0 < (rd l0 x5_1)) = false:=decide_eq_false c8
             clear c8
             have H':=Aside0.mk H
             clear H
             have p182 : 0 <= (x5_1 : Int):=of_decide_eq_true (by first | (with_reducible assumption) | assumption)
             have q182 : x5_1 < (l0.length : Int):=of_decide_eq_true (by first | (with_reducible assumption) | assumption)
             obtain ⟨ad182,e182,hx182_0⟩:=Kd.at_int HR0.out x5_1 p182 q182
             cases e182
             replace p182:=eq_true p182
             replace q182:=eq_true q182
             go_wp2
             go_roundg kj2
             case measure=>have:=HK1.out; have:=HJ2.out; omega
             case rel=>exact ⟨(x3_1),(wrap64 (x5_1 + 1)),(by first | rfl | (simp; done) | (simp [*]; done)),(by first | rfl | (simp; done) | (simp [*]; done)),H',⟨by have:=HK1.out; have:=HJ2.out; omega⟩,by repeat (first | exact Drawn0.refl _ | apply Drawn0.step)⟩
         · rw [if_neg c7] at H
           exact absurd H (by simp)
       · rw [if_neg c6] at H
         exact absurd H (by simp)
     · replace c5:=Bool.eq_false_iff.mpr c5
       subst c5
       have H1 : (some x3_1) = some r:=by rw [if_neg (show ¬ (false = true) by decide)] at H; exact H
       clear H
       have H:=H1
       clear H1
       obtain rfl:=Option.some.inj H
       go_wp2
       go_ret
       exact ⟨by first | rfl | (simp; done) | (simp [*]; done),by repeat (first | exact Drawn0.refl _ | apply Drawn0.step)⟩
def puncheonref06_At.f (l0 : List Int) (a1 : Int) : Option (Int):=if a1 < 0 then (some (-1)) else (if a1 >= (l0.length : Int) then (some (-1)) else ((some (([0] : List Int) : List Int)).bind λ y183=>(if y183.length + l0.length < 140737488355328 then ((some (y183 ++ l0 : List Int)).bind λ y186=>(if 0 <= a1 then (if a1 < (y186.length : Int) then (some (wrap64 (rd y186 a1))) else (none)) else (none))) else (none))))
set_option maxHeartbeats 8000000 in
set_option maxRecDepth 100000 in
theorem puncheonref06_At.calls (A0 : Option Addr) (c0 : Nat) (l0 : List Int) (a1 : Int) (r : Int) (w : World) (hr0 : Kd.C (Kd.int .u8) w A0 l0.length l0) (hc0 : l0.length <= c0) (h : puncheonref06_At.f l0 a1 = some r) :
    Calls Tryz.prog 256 #[.slice A0 l0.length c0,.int .i64 a1] w λ e w'=>e = .returned (.int .i64 r) /\ Below w.heap.size w w':=by
 have HR0:=Aside0.mk hr0
 have HC0:=Aside0.mk hc0
 clear hr0 hc0
 have HB:=Aside0.mk (Below.refl w.heap.size w)
 have H : (if a1 < 0 then (some (-1)) else (if a1 >= (l0.length : Int) then (some (-1)) else ((some (([0] : List Int) : List Int)).bind λ y183=>(if y183.length + l0.length < 140737488355328 then ((some (y183 ++ l0 : List Int)).bind λ y186=>(if 0 <= a1 then (if a1 < (y186.length : Int) then (some (wrap64 (rd y186 a1))) else (none)) else (none))) else (none))))) = some r:=h
 clear h
 by_cases c3 : a1 < 0
 · rw [if_pos c3] at H
   have c3b0 : decide (a1 < 0) = true:=decide_eq_true c3
   clear c3
   obtain rfl:=Option.some.inj H
   go_enter Tryz.func256,Tryz.ntmps256
   go_wp2
   go_ret
   exact ⟨by first | rfl | (simp [a0l,a0m] <;> rfl) | (simp [*,a0l,a0m] <;> rfl),by repeat (first | (with_reducible first | exact HB.out | apply a0c | apply a0b | apply a0d) | exact HB.out)⟩
 · rw [if_neg c3] at H
   have c3b0 : decide (a1 < 0) = false:=decide_eq_false c3
   clear c3
   by_cases c4 : a1 >= (l0.length : Int)
   · rw [if_pos c4] at H
     have c4b0 : decide ((l0.length : Int) <= a1) = true:=decide_eq_true c4
     clear c4
     obtain rfl:=Option.some.inj H
     go_enter Tryz.func256,Tryz.ntmps256
     go_wp2
     go_ret
     exact ⟨by first | rfl | (simp [a0l,a0m] <;> rfl) | (simp [*,a0l,a0m] <;> rfl),by repeat (first | (with_reducible first | exact HB.out | apply a0c | apply a0b | apply a0d) | exact HB.out)⟩
   · rw [if_neg c4] at H
     have c4b0 : decide ((l0.length : Int) <= a1) = false:=decide_eq_false c4
     clear c4
     obtain ⟨y183,hy183⟩ : ∃ y_ : List Int,y_ = (([0] : List Int)):=⟨_,rfl⟩
     replace H : (if y183.length + l0.length < 140737488355328 then ((some (y183 ++ l0 : List Int)).bind λ y186=>(if 0 <= a1 then (if a1 < (y186.length : Int) then (some (wrap64 (rd y186 a1))) else (none)) else (none))) else (none)) = some r:=by first | (rw [hy183]; with_reducible exact H) | (have H2_:=(Option.bind_some _ _).symm.trans H; rw [hy183]; with_reducible exact H2_) | (have H2_:=(Option.bind_some _ _).symm.trans H; with_reducible exact H2_) | with_reducible exact H | (rw [hy183]; exact H) | exact H
     have Ny183:=Aside0.mk hy183
     clear hy183
     by_cases c5 : y183.length + l0.length < 140737488355328
     · rw [if_pos c5] at H
       have LMc5:=Aside0.mk c5
       clear c5
       obtain ⟨y186,hy186⟩ : ∃ y_ : List Int,y_ = (y183 ++ l0):=⟨_,rfl⟩
       replace H : (if 0 <= a1 then (if a1 < (y186.length : Int) then (some (wrap64 (rd y186 a1))) else (none)) else (none)) = some r:=by first | (rw [hy186]; with_reducible exact H) | (have H2_:=(Option.bind_some _ _).symm.trans H; rw [hy186]; with_reducible exact H2_) | (have H2_:=(Option.bind_some _ _).symm.trans H; with_reducible exact H2_) | with_reducible exact H | (rw [hy186]; exact H) | exact H
       have Ny186:=Aside0.mk hy186
       clear hy186
       by_cases c6 : 0 <= a1
       · rw [if_pos c6] at H
         have c6b0 : decide (0 <= a1) = true:=decide_eq_true c6
         clear c6
         by_cases c7 : a1 < (y186.length : Int)
         · rw [if_pos c7] at H
           have c7b0 : decide (a1 < (y186.length : Int)) = true:=decide_eq_true c7
           clear c7
           obtain rfl:=Option.some.inj H
           go_enter Tryz.func256,Tryz.ntmps256
           go_wp2_with (first | ((with_reducible refine a1E (N:=14) rfl ?_); (try (refine a2x (by rfl) ?_; dsimp only)); refine Kd.R_lit (Kd.int .u8) _ 5 ?hg (N:=14) ?hd (xs:=([0] : List Int)) (inner:=[.int .u8 0]) (ok:=λ _=>True) (okp:=λ _=>True) ?hr ?hp (λ _ hk=>hk) trivial (Below.refl _ _) (Nat.le_refl _) (by simp) ?_; (case hd=>rfl); (case hg=>rfl); (case hr=>first | (go_simp; done) | (go_simp; rfl)); (case hp=>exact (Reps.one (show Kd.M (Kd.int .u8) _ _ _ 0 [.int .u8 0] from rfl) (Reps.none _ _))); intro v184 w8 ho9 hb hg_ hnew_; clear hg_ hnew_; (first | rw [<- Ny183.out] at ho9 | (simp only [Int.reduceToNat] at ho9; rw [<- Ny183.out] at ho9)); have n0_:=Aside0.mk (Kd.R_lower ho9 (a0N (by repeat (first | (with_reducible first | exact HB.out | apply a0c | apply a0b | apply a0d) | exact HB.out)))); have n1_:=Aside0.mk (a1j (by repeat (first | (with_reducible first | exact HB.out | apply a0c | apply a0b | apply a0d) | exact HB.out)) hb); clear HB; have HO185:=n0_; have HB:=n1_; clear n0_ n1_; clear hb ho9) | ((with_reducible refine a3Z (b:=.append) (xs:=#[.tmp 14,.tmp 15]) rfl ?_); (try (refine a2x (by rfl) ?_; dsimp only)); at_builtin; refine Kd.R_append_rows (Kd.int .u8) (w0:=w) w.heap.size rfl (.tmp 14) (.tmp 15) 22 5 (.int .u8 0) 1 rfl Tryz.underlying22 info5 rfl (by decide) (by omega) v184 y183 l0 _ _ _ (λ _=>True) (λ _=>False) rfl rfl ?aO ?aR (λ _ _ h=>h) (λ _ h=>h.elim) ?aF ?aB ?aS ?aL ?_; (case aR=>repeat (first | exact (Kd.C_below HR0.out HB.out) | (with_reducible refine Kd.C_alloc ?_ _) | (with_reducible refine Kd.C_drewN ?_ _) | (with_reducible refine Kd.C_drew ?_))); (case aB=>exact (by repeat (first | (with_reducible first | exact HB.out | apply a0c | apply a0b | apply a0d) | exact HB.out))); (case aF=>exact (λ _ _=>trivial)); (case aO=>exact (by (with_reducible repeat (first | apply Kd.R_alloc | apply Kd.R_drewN | apply Kd.R_drew)); exact HO185.out)); (case aS=>exact (a0N (by repeat (first | (with_reducible first | exact HB.out | apply a0c | apply a0b | apply a0d) | exact HB.out)))); (case aL=>have:=LMc5.out; omega); intro v187 w10 ho hb hg hat; rw [<- Ny186.out] at ho; have n0_:=Aside0.mk (hb); have n1_:=Aside0.mk (ho); clear HB; clear HO185; have HB:=n0_; have HO188:=n1_; clear n0_ n1_; clear ho hb hg hat; obtain ⟨Ao11,co11,eo11⟩:=Kd.R_slice HO188.out; subst eo11; have p189 : 0 <= (a1 : Int):=of_decide_eq_true (by first | (with_reducible assumption) | assumption); have q189 : a1 < (y186.length : Int):=of_decide_eq_true (by first | (with_reducible assumption) | assumption); obtain ⟨ad189,e189,hx189_0⟩:=Kd.at_int (Kd.R_reads' HO188.out).2.2 a1 p189 q189; cases e189; replace p189:=eq_true p189; replace q189:=eq_true q189))
           go_ret
           exact ⟨by first | rfl | (simp [a0l,a0m] <;> rfl) | (simp [*,a0l,a0m] <;> rfl),by repeat (first | (with_reducible first | exact HB.out | apply a0c | apply a0b | apply a0d) | exact HB.out)⟩
         · rw [if_neg c7] at H
           exact absurd H (by simp)
       · rw [if_neg c6] at H
         exact absurd H (by simp)
     · rw [if_neg c5] at H
       exact absurd H (by simp)
def puncheonref06_For.l0 : Nat -> List Int -> Int -> List Int -> Int -> Option (List Int)
 | 0,_,_,_,_=>none
 | k + 1,x0,x1,x5,x6=>if x6 < (x0.length : Int) then ((puncheonref06_At.f x0 x6).bind λ t193=>(if t193 = x1 then (if 0 <= x6 then (if 0 <= (rd x0 x6) then (if (rd x0 x6) < (x5.length : Int) then (puncheonref06_For.l0 k x0 x1 (x5.set ((rd x0 x6) : Int).toNat (wrap64 ((rd x5 (rd x0 x6)) + 1))) (wrap64 (x6 + 1))) else (none)) else (none)) else (none)) else (puncheonref06_For.l0 k x0 x1 x5 (wrap64 (x6 + 1))))) else (some x5)
def puncheonref06_For.f (k : Nat) (l0 : List Int) (a1 : Int) : Option (List Int):=if 256 <= 35184372088832 then (puncheonref06_For.l0 k l0 a1 (List.replicate 256 0) 0) else (none)
theorem puncheonref06_For.mono_l : ∀ k,(∀ y0 y1 y2 y3,LeO (puncheonref06_For.l0 k y0 y1 y2 y3) (puncheonref06_For.l0 (k + 1) y0 y1 y2 y3))
 | 0=>λ _ _ _ _ r h=>by simp [puncheonref06_For.l0] at h
 | k + 1=>by
  have ih0:=puncheonref06_For.mono_l k
  · intro y0 y1 y2 y3
    unfold puncheonref06_For.l0
    repeat' first
    | (with_reducible exact ih0 _ _ _ _)
    | (with_reducible exact LeO.refl _)
    | (with_reducible exact LeO.none _)
    | (with_reducible refine LeO.ite ?_ ?_)
    | (with_reducible refine LeO.bind ?_ (λ _=>?_))
    | exact ih0 _ _ _ _
    | exact LeO.none _
    | refine LeO.ite ?_ ?_
    | refine LeO.bind ?_ (λ _=>?_)
theorem puncheonref06_For.mono : ∀ a0 a1 k,LeO (puncheonref06_For.f k a0 a1) (puncheonref06_For.f (k + 1) a0 a1):=by
 intro a0 a1 k
 have ih0:=puncheonref06_For.mono_l k
 unfold puncheonref06_For.f
 repeat' first
     | (with_reducible exact ih0 _ _ _ _)
     | (with_reducible exact LeO.refl _)
     | (with_reducible exact LeO.none _)
     | (with_reducible refine LeO.ite ?_ ?_)
     | (with_reducible refine LeO.bind ?_ (λ _=>?_))
     | exact ih0 _ _ _ _
     | exact LeO.none _
     | refine LeO.ite ?_ ?_
     | refine LeO.bind ?_ (λ _=>?_)
set_option maxHeartbeats 8000000 in
set_option maxRecDepth 100000 in
theorem puncheonref06_For.calls (k : Nat) (A0 : Option Addr) (c0 : Nat) (l0 : List Int) (a1 : Int) (r : List Int) (w : World) (hr0 : Kd.C (Kd.int .u8) w A0 l0.length l0) (hc0 : l0.length <= c0) (h : puncheonref06_For.f k l0 a1 = some r) :
    Calls Tryz.prog 255 #[.slice A0 l0.length c0,.int .i64 a1] w λ e w'=>∃ v0_ : Value,e = .returned (v0_) /\ Kd.R (Kd.int .i64) 3 w' w.heap.size (λ _=>True) v0_ r /\ Below w.heap.size w w':=by
 have HR0:=Aside0.mk hr0
 have HC0:=Aside0.mk hc0
 clear hr0 hc0
 have HB:=Aside0.mk (Below.refl w.heap.size w)
 have H : (if 256 <= 35184372088832 then (puncheonref06_For.l0 k l0 a1 (List.replicate 256 0) 0) else (none)) = some r:=h
 clear h
 by_cases c3 : 256 <= 35184372088832
 · rw [if_pos c3] at H
   have c3b0:=eq_true c3
   have c3b1 : decide (256 <= 35184372088832) = true:=decide_eq_true c3
   clear c3
   obtain ⟨y190,hy190⟩ : ∃ y_ : List Int,y_ = (List.replicate 256 0):=⟨_,rfl⟩
   replace H : (puncheonref06_For.l0 k l0 a1 y190 0) = some r:=by first | (rw [hy190]; with_reducible exact H) | (have H2_:=(Option.bind_some _ _).symm.trans H; rw [hy190]; with_reducible exact H2_) | (have H2_:=(Option.bind_some _ _).symm.trans H; with_reducible exact H2_) | with_reducible exact H | (rw [hy190]; exact H) | exact H
   have Ny190:=Aside0.mk hy190
   clear hy190
   have H':=Aside0.mk H
   clear H
   go_enter Tryz.func255,Tryz.ntmps255
   go_wp2_with (first | ((with_reducible refine a1E (N:=7) rfl ?_); refine Kd.R_make (Kd.int .i64) _ 3 rfl (N:=7) rfl 84 _ _ rfl 256 rfl rfl Tryz.underlying84 (.int .i64 0) 8 info3 rfl (by decide) (by omega) 0 (ok:=λ _=>True) (okp:=λ _=>True) rfl (λ _ hk=>hk) trivial (by omega) (by omega) (Below.refl _ _) (Nat.le_refl _) ?_; intro v191 w4 ho5 hb hg_ hnew_; clear hg_ hnew_; (first | rw [<- Ny190.out] at ho5 | (simp only [Int.reduceToNat] at ho5; rw [<- Ny190.out] at ho5)); have n0_:=Aside0.mk (Kd.R_lower ho5 (a0N (by repeat (first | (with_reducible first | exact HB.out | apply a0c | apply a0b | apply a0d) | exact HB.out)))); have n1_:=Aside0.mk (a1j (by repeat (first | (with_reducible first | exact HB.out | apply a0c | apply a0b | apply a0d) | exact HB.out)) hb); clear HB; have HO192:=n0_; have HB:=n1_; clear n0_ n1_; clear hb ho5))
   go_loopg [6] k (λ kq v6 w'=>∃ (x5_1 : List Int) (x6_1 : Int),v6 = .int .i64 x6_1 /\ Aside0 (puncheonref06_For.l0 kq l0 a1 x5_1 x6_1 = some r) /\ Aside0 (kq <= k) /\ Aside0 (Kd.R (Kd.int .i64) 3 w' w.heap.size (λ _=>True) v191 x5_1) /\ Aside0 (Below w.heap.size w w'))
   case atStart=>exact ⟨(y190),(0),(by first | rfl | (simp; done) | (simp [*]; done)),H',⟨Nat.le_refl _⟩,⟨by (with_reducible repeat (first | apply Kd.R_alloc | apply Kd.R_drewN | apply Kd.R_drew)); exact HO192.out⟩,⟨by repeat (first | (with_reducible first | exact HB.out | apply a0c | apply a0b | apply a0d) | exact HB.out)⟩⟩
   case round=>
    clear H'
    try clear c2
    try clear p2
    try clear c3
    try clear c3b0
    try clear c3b1
    obtain ⟨x5_1,x6_1,rfl,HA,HK1,HO_5,HB⟩:=hrel
    cases gk with
    | zero=>exact absurd HA.out (by simp [puncheonref06_For.l0])
    | succ k1=>
     have H:=HA.out
     clear HA
     simp only [puncheonref06_For.l0] at H
     by_cases c6 : x6_1 < (l0.length : Int)
     · rw [if_pos c6] at H
       have c6b0 : decide (x6_1 < (l0.length : Int)) = true:=decide_eq_true c6
       clear c6
       replace H:=Option.bind_eq_some_iff.mp H
       obtain ⟨t193,A70,H⟩:=H
       replace H : (if t193 = a1 then (if 0 <= x6_1 then (if 0 <= (rd l0 x6_1) then (if (rd l0 x6_1) < (x5_1.length : Int) then (puncheonref06_For.l0 k1 l0 a1 (x5_1.set ((rd l0 x6_1) : Int).toNat (wrap64 ((rd x5_1 (rd l0 x6_1)) + 1))) (wrap64 (x6_1 + 1))) else (none)) else (none)) else (none)) else (puncheonref06_For.l0 k1 l0 a1 x5_1 (wrap64 (x6_1 + 1)))) = some r:=H
       have A7:=Aside0.mk A70
       clear A70
       by_cases c8 : t193 = a1
       · rw [if_pos c8] at H
         have c8b0 : (t193 == a1) = true:=beq_iff_eq.mpr c8
         have c8b1 : (t193 != a1) = false:=bne_eq_false_iff_eq.mpr c8
         clear c8
         by_cases c9 : 0 <= x6_1
         · rw [if_pos c9] at H
           have c9b0 : decide (0 <= x6_1) = true:=decide_eq_true c9
           clear c9
           by_cases c10 : 0 <= (rd l0 x6_1)
           · rw [if_pos c10] at H
             have c10b0 : decide (0 <= (rd l0 x6_1)) = true:=decide_eq_true c10
             clear c10
             by_cases c11 : (rd l0 x6_1) < (x5_1.length : Int)
             · rw [if_pos c11] at H
               have c11b0 : decide ((rd l0 x6_1) < (x5_1.length : Int)) = true:=decide_eq_true c11
               clear c11
               obtain ⟨y196,hy196⟩ : ∃ y_ : List Int,y_ = (x5_1.set ((rd l0 x6_1) : Int).toNat (wrap64 ((rd x5_1 (rd l0 x6_1)) + 1))):=⟨_,rfl⟩
               replace H : (puncheonref06_For.l0 k1 l0 a1 y196 (wrap64 (x6_1 + 1))) = some r:=by first | (rw [hy196]; with_reducible exact H) | (have H2_:=(Option.bind_some _ _).symm.trans H; rw [hy196]; with_reducible exact H2_) | (have H2_:=(Option.bind_some _ _).symm.trans H; with_reducible exact H2_) | with_reducible exact H | (rw [hy196]; exact H) | exact H
               have Ny196:=Aside0.mk hy196
               clear hy196
               have H':=Aside0.mk H
               clear H
               go_wp2_with (first | ((with_reducible refine a1l (f:=256) rfl ?_); refine a1k (some 16) rfl rfl Tryz.func256 (by kernel_rfl) rfl #[.slice A0 l0.length c0,.int .i64 x6_1] rfl (by (try simp only [List.map_toArray,List.map_cons,List.map_nil]); first | done | rfl | (simp only [List.length_drop,List.length_take]; rfl)) ?_; (with_reducible refine (puncheonref06_At.calls _ _ l0 x6_1 t193 _ ?side1 ?side2 A7.out).mono ?_); (case side1=>repeat (first | exact (Kd.C_below HR0.out HB.out) | (with_reducible refine Kd.C_alloc ?_ _) | (with_reducible refine Kd.C_drewN ?_ _) | (with_reducible refine Kd.C_drew ?_))); (case side2=>exact HC0.out); rintro e w13 ⟨rfl,hb⟩; refine ⟨_,rfl,?_⟩; have n0_:=Aside0.mk (Kd.R_below (by (with_reducible repeat (first | apply Kd.R_alloc | apply Kd.R_drewN | apply Kd.R_drew)); exact HO_5.out) hb); have n1_:=Aside0.mk (a1j (by repeat (first | (with_reducible first | exact HB.out | apply a0c | apply a0b | apply a0d) | exact HB.out)) hb); clear HO_5; clear HB; have HO_5:=n0_; have HB:=n1_; clear n0_ n1_; (try clear hb); (try clear hb2); (try clear hk); (try clear hi); have p194 : 0 <= (x6_1 : Int):=of_decide_eq_true (by first | (with_reducible assumption) | assumption); have q194 : x6_1 < (l0.length : Int):=of_decide_eq_true (by first | (with_reducible assumption) | assumption); obtain ⟨ad194,e194,hx194_0⟩:=Kd.at_int HR0.out x6_1 p194 q194; cases e194; replace hx194_0:=(HB.out.cell (World.block_lt_of_cell? w _ hx194_0)).trans hx194_0; replace p194:=eq_true p194; replace q194:=eq_true q194; obtain ⟨Ao14,co14,eo14⟩:=Kd.R_slice HO_5.out; subst eo14; have p195 : 0 <= ((rd l0 x6_1) : Int):=of_decide_eq_true (by first | (with_reducible assumption) | assumption); have q195 : (rd l0 x6_1) < (x5_1.length : Int):=of_decide_eq_true (by first | (with_reducible assumption) | assumption); obtain ⟨ad195,e195,hx195_0⟩:=Kd.at_int (Kd.R_reads' HO_5.out).2.2 (rd l0 x6_1) p195 q195; cases e195; replace p195:=eq_true p195; replace q195:=eq_true q195; have p12 : 0 <= ((rd l0 x6_1) : Int):=of_decide_eq_true (by first | (with_reducible assumption) | assumption); have q12 : ((rd l0 x6_1) : Int) < ((x5_1.length : Int) : Int):=of_decide_eq_true (by first | (with_reducible assumption) | assumption); obtain ⟨go12,co12,eo12,gb12,gl12,cl12,HG12⟩:=Kd.R_form HO_5.out (by omega); (first | cases eo12 | (injection eo12 with ea_ en_ ec_; (first | subst ea_ | (injection ea_ with ea_; subst ea_)); subst ec_; clear en_)); have GB12:=Aside0.mk gb12; have GG12:=Aside0.mk HG12; clear gb12 gl12 HG12; (first | simp only [a2l] at hx195_0 | skip); obtain ⟨hx12_0,hf12_0⟩:=Kd.R_celln 0 HO_5.out ((rd l0 x6_1) : Int) p12 q12; replace p12:=eq_true p12; replace q12:=eq_true q12; obtain ⟨hy15_,hz15_⟩:=Kd.R_celln 0 HO_5.out ((rd l0 x6_1) : Int) (of_decide_eq_true (by first | (with_reducible assumption) | assumption)) (of_decide_eq_true (by first | (with_reducible assumption) | assumption)); have HP15:=Kd.R_putg HO_5.out ((rd l0 x6_1) : Int) (wrap64 ((rd x5_1 (rd l0 x6_1)) + 1))) | ((with_reducible refine b1w (t:=3) (p:=27) rfl ?_); refine b1v (t:=3) (p:=27) (v:=?vo_w16) (w1:=(w13.setCell ⟨go12,((rd l0 x6_1) : Int).toNat,none⟩ (.int .i64 (wrap64 ((rd x5_1 (rd l0 x6_1)) + 1))))) ?hg ?ho ?hn ?hr ?_; (case ho=>rfl); (case hg=>rfl); (case hn=>rfl); (case hr=>first | (go_simp; done) | (go_simp; rfl)); intro w16 hw; have hg : w13.grownBy w16 (some go12):=(by rw [hw]; exact HP15.2); have hp_ : Kd.R (Kd.int .i64) 3 w16 w.heap.size (λ _=>True) (.slice (some ⟨go12,0,none⟩) x5_1.length co14) y196:=(by rw [hw,Ny196.out]; exact HP15.1); clear HP15; have n0_:=Aside0.mk (hp_); have n1_:=Aside0.mk ((by rw [hw]; exact a0h (HB.out) GB12.out : Below w.heap.size w w16)); clear HO_5; clear HB; have HO_5:=n0_; have HB:=n1_; clear n0_ n1_; clear hg hw hp_))
               go_roundg k1
               case measure=>have:=HK1.out; omega
               case rel=>exact ⟨(y196),(wrap64 (x6_1 + 1)),(by first | rfl | (simp; done) | (simp [*]; done)),H',⟨by have:=HK1.out; omega⟩,⟨by (with_reducible repeat (first | apply Kd.R_alloc | apply Kd.R_drewN | apply Kd.R_drew)); exact HO_5.out⟩,⟨by repeat (first | (with_reducible first | exact HB.out | apply a0c | apply a0b | apply a0d) | exact HB.out)⟩⟩
             · rw [if_neg c11] at H
               exact absurd H (by simp)
           · rw [if_neg c10] at H
             exact absurd H (by simp)
         · rw [if_neg c9] at H
           exact absurd H (by simp)
       · rw [if_neg c8] at H
         have c8b0 : (t193 == a1) = false:=beq_eq_false_iff_ne.mpr c8
         have c8b1 : (t193 != a1) = true:=bne_iff_ne.mpr c8
         have H':=Aside0.mk H
         clear H
         go_wp2_with (first | ((with_reducible refine a1l (f:=256) rfl ?_); refine a1k (some 16) rfl rfl Tryz.func256 (by kernel_rfl) rfl #[.slice A0 l0.length c0,.int .i64 x6_1] rfl (by (try simp only [List.map_toArray,List.map_cons,List.map_nil]); first | done | rfl | (simp only [List.length_drop,List.length_take]; rfl)) ?_; (with_reducible refine (puncheonref06_At.calls _ _ l0 x6_1 t193 _ ?side1 ?side2 A7.out).mono ?_); (case side1=>repeat (first | exact (Kd.C_below HR0.out HB.out) | (with_reducible refine Kd.C_alloc ?_ _) | (with_reducible refine Kd.C_drewN ?_ _) | (with_reducible refine Kd.C_drew ?_))); (case side2=>exact HC0.out); rintro e w17 ⟨rfl,hb⟩; refine ⟨_,rfl,?_⟩; have n0_:=Aside0.mk (Kd.R_below (by (with_reducible repeat (first | apply Kd.R_alloc | apply Kd.R_drewN | apply Kd.R_drew)); exact HO_5.out) hb); have n1_:=Aside0.mk (a1j (by repeat (first | (with_reducible first | exact HB.out | apply a0c | apply a0b | apply a0d) | exact HB.out)) hb); clear HO_5; clear HB; have HO_5:=n0_; have HB:=n1_; clear n0_ n1_; (try clear hb); (try clear hb2); (try clear hk); (try clear hi)))
         go_roundg k1
         case measure=>have:=HK1.out; omega
         case rel=>exact ⟨(x5_1),(wrap64 (x6_1 + 1)),(by first | rfl | (simp; done) | (simp [*]; done)),H',⟨by have:=HK1.out; omega⟩,⟨by (with_reducible repeat (first | apply Kd.R_alloc | apply Kd.R_drewN | apply Kd.R_drew)); exact HO_5.out⟩,⟨by repeat (first | (with_reducible first | exact HB.out | apply a0c | apply a0b | apply a0d) | exact HB.out)⟩⟩
     · rw [if_neg c6] at H
       have c6b0 : decide (x6_1 < (l0.length : Int)) = false:=decide_eq_false c6
       clear c6
       obtain rfl:=Option.some.inj H
       go_wp2
       go_ret
       exact ⟨_,by first | rfl | (simp [a0l,a0m] <;> rfl) | (simp [*,a0l,a0m] <;> rfl),by (with_reducible repeat (first | apply Kd.R_alloc | apply Kd.R_drewN | apply Kd.R_drew)); exact HO_5.out,by repeat (first | (with_reducible first | exact HB.out | apply a0c | apply a0b | apply a0d) | exact HB.out)⟩
 · rw [if_neg c3] at H
   exact absurd H (by simp)
end Go.Proofs.YtflfjpkmjnnodaaGreat.PRef
namespace Go.Proofs.YtflfjpkmjnnodaaGreat.PRef
open Go.RowKit Go.Proofs.YtflfjpkmjnnodaaGreatW.PrintWords Go.Proofs.YtflfjpkmjnnodaaGreatW.PrintLast Go.Proofs.YtflfjpkmjnnodaaGreatW.PrintMore
attribute [local go_sem] a1Z a1Q a2a a1R a2p a2q a2r a2s   -- for this text's walks alone
set_option linter.unusedVariables false
set_option linter.unusedSimpArgs false
def puncheonref06_Widest.l0 : Nat -> List Int -> Int -> Int -> Option (Int)
 | 0,_,_,_=>none
 | k + 1,x0,x3,x4=>if x4 < 256 then ((puncheonref06_For.f k x0 x4).bind λ t197=>((puncheonref05_Many.f k t197).bind λ t200=>(puncheonref06_Widest.l0 k x0 (mx x3 t200) (wrap64 (x4 + 1))))) else (some x3)
def puncheonref06_Widest.f (k : Nat) (l0 : List Int) : Option (Int):=puncheonref06_Widest.l0 k l0 0 0
theorem puncheonref06_Widest.mono_l : ∀ k,(∀ y0 y1 y2,LeO (puncheonref06_Widest.l0 k y0 y1 y2) (puncheonref06_Widest.l0 (k + 1) y0 y1 y2))
 | 0=>λ _ _ _ r h=>by simp [puncheonref06_Widest.l0] at h
 | k + 1=>by
  have ih0:=puncheonref06_Widest.mono_l k
  · intro y0 y1 y2
    unfold puncheonref06_Widest.l0
    repeat' first
    | (with_reducible exact ih0 _ _ _)
    | (with_reducible exact puncheonref05_Many.mono _ _)
    | (with_reducible exact puncheonref06_For.mono _ _ _)
    | (with_reducible exact LeO.refl _)
    | (with_reducible exact LeO.none _)
    | (with_reducible refine LeO.ite ?_ ?_)
    | (with_reducible refine LeO.bind ?_ (λ _=>?_))
    | exact ih0 _ _ _
    | exact puncheonref05_Many.mono _ _
    | exact puncheonref06_For.mono _ _ _
    | exact LeO.none _
    | refine LeO.ite ?_ ?_
    | refine LeO.bind ?_ (λ _=>?_)
theorem puncheonref06_Widest.mono : ∀ a0 k,LeO (puncheonref06_Widest.f k a0) (puncheonref06_Widest.f (k + 1) a0):=by
 intro a0 k
 have ih0:=puncheonref06_Widest.mono_l k
 unfold puncheonref06_Widest.f
 repeat' first
     | (with_reducible exact ih0 _ _ _)
     | (with_reducible exact puncheonref05_Many.mono _ _)
     | (with_reducible exact puncheonref06_For.mono _ _ _)
     | (with_reducible exact LeO.refl _)
     | (with_reducible exact LeO.none _)
     | (with_reducible refine LeO.ite ?_ ?_)
     | (with_reducible refine LeO.bind ?_ (λ _=>?_))
     | exact ih0 _ _ _
     | exact puncheonref05_Many.mono _ _
     | exact puncheonref06_For.mono _ _ _
     | exact LeO.none _
     | refine LeO.ite ?_ ?_
     | refine LeO.bind ?_ (λ _=>?_)
set_option maxHeartbeats 8000000 in
set_option maxRecDepth 100000 in
theorem puncheonref06_Widest.calls (k : Nat) (A0 : Option Addr) (c0 : Nat) (l0 : List Int) (r : Int) (w : World) (hr0 : Kd.C (Kd.int .u8) w A0 l0.length l0) (hc0 : l0.length <= c0) (h : puncheonref06_Widest.f k l0 = some r) :
    Calls Tryz.prog 254 #[.slice A0 l0.length c0] w λ e w'=>e = .returned (.int .i64 r) /\ Below w.heap.size w w':=by
 have HR0:=Aside0.mk hr0
 have HC0:=Aside0.mk hc0
 clear hr0 hc0
 have HB:=Aside0.mk (Below.refl w.heap.size w)
 have H : (puncheonref06_Widest.l0 k l0 0 0) = some r:=h
 clear h
 have H':=Aside0.mk H
 clear H
 go_enter Tryz.func254,Tryz.ntmps254
 go_wp2
 go_loopg [3,4] k (λ kq v3 v4 w'=>∃ (x3_1 : Int) (x4_1 : Int),v3 = .int .i64 x3_1 /\ v4 = .int .i64 x4_1 /\ Aside0 (puncheonref06_Widest.l0 kq l0 x3_1 x4_1 = some r) /\ Aside0 (kq <= k) /\ Aside0 (Below w.heap.size w w'))
 case atStart=>exact ⟨(0),(0),(by first | rfl | (simp; done) | (simp [*]; done)),(by first | rfl | (simp; done) | (simp [*]; done)),H',⟨Nat.le_refl _⟩,⟨by repeat (first | (with_reducible first | exact HB.out | apply a0c | apply a0b | apply a0d) | exact HB.out)⟩⟩
 case round=>
  clear H'
  obtain ⟨x3_1,x4_1,rfl,rfl,HA,HK1,HB⟩:=hrel
  cases gk with
  | zero=>exact absurd HA.out (by simp [puncheonref06_Widest.l0])
  | succ k1=>
   have H:=HA.out
   clear HA
   simp only [puncheonref06_Widest.l0] at H
   by_cases c2 : x4_1 < 256
   · rw [if_pos c2] at H
     have c2b0 : decide (x4_1 < 256) = true:=decide_eq_true c2
     clear c2
     replace H:=Option.bind_eq_some_iff.mp H
     obtain ⟨t197,A30,H⟩:=H
     replace H : ((puncheonref05_Many.f k1 t197).bind λ t200=>(puncheonref06_Widest.l0 k1 l0 (mx x3_1 t200) (wrap64 (x4_1 + 1)))) = some r:=H
     have A3:=Aside0.mk A30
     clear A30
     replace H:=Option.bind_eq_some_iff.mp H
     obtain ⟨t200,A40,H⟩:=H
     replace H : (puncheonref06_Widest.l0 k1 l0 (mx x3_1 t200) (wrap64 (x4_1 + 1))) = some r:=H
     have A4:=Aside0.mk A40
     clear A40
     obtain ⟨ji5,hji5⟩ : ∃ j_ : Int,(mx x3_1 t200) = j_:=⟨_,rfl⟩
     replace H : (puncheonref06_Widest.l0 k1 l0 ji5 (wrap64 (x4_1 + 1))) = some r:=by first | (rw [hji5] at H; exact H) | (simp only [hji5] at H ⊢; exact H)
     (try rw [hji5] at A3)
     (try rw [hji5] at A4)
     have hji5_ : (if x3_1 < t200 then t200 else x3_1) = ji5:=hji5
     have H':=Aside0.mk H
     clear H
     go_wp2_with (first | ((with_reducible refine a1l (f:=255) rfl ?_); refine a1k (some 12) rfl rfl Tryz.func255 (by kernel_rfl) rfl #[.slice A0 l0.length c0,.int .i64 x4_1] rfl (by (try simp only [List.map_toArray,List.map_cons,List.map_nil]); first | done | rfl | (simp only [List.length_drop,List.length_take]; rfl)) ?_; (with_reducible refine (puncheonref06_For.calls k1 _ _ l0 x4_1 t197 _ ?side1 ?side2 A3.out).mono ?_); (case side1=>repeat (first | exact (Kd.C_below HR0.out HB.out) | (with_reducible refine Kd.C_alloc ?_ _) | (with_reducible refine Kd.C_drewN ?_ _) | (with_reducible refine Kd.C_drew ?_))); (case side2=>exact HC0.out); rintro e w6 ⟨v198,rfl,ho0,hb⟩; refine ⟨_,rfl,?_⟩; have n0_:=Aside0.mk (Kd.R_lower ho0 (a0N (by repeat (first | (with_reducible first | exact HB.out | apply a0c | apply a0b | apply a0d) | exact HB.out)))); have n1_:=Aside0.mk (a1j (by repeat (first | (with_reducible first | exact HB.out | apply a0c | apply a0b | apply a0d) | exact HB.out)) hb); clear HB; have HO199:=n0_; have HB:=n1_; clear n0_ n1_; (try clear hb); (try clear hb2); (try clear hk); (try clear hi); (try clear ho0); obtain ⟨Ao7,co7,eo7⟩:=Kd.R_slice HO199.out; subst eo7) | ((with_reducible refine a1l (f:=247) rfl ?_); refine a1k (some 13) rfl rfl Tryz.func247 (by kernel_rfl) rfl #[.slice Ao7 t197.length co7] rfl (by (try simp only [List.map_toArray,List.map_cons,List.map_nil]); first | done | rfl | (simp only [List.length_drop,List.length_take]; rfl)) ?_; (with_reducible refine (puncheonref05_Many.calls k1 _ _ t197 t200 _ ?side1 ?side2 A4.out).mono ?_); (case side1=>repeat (first | exact (Kd.R_reads' HO199.out).2.2 | (with_reducible refine Kd.C_alloc ?_ _) | (with_reducible refine Kd.C_drewN ?_ _) | (with_reducible refine Kd.C_drew ?_))); (case side2=>exact (Kd.R_reads' HO199.out).2.1); rintro e w' ⟨rfl,⟨nd,rfl⟩⟩; refine ⟨_,rfl,?_⟩))
     go_roundg k1
     case measure=>have:=HK1.out; omega
     case rel=>exact ⟨(ji5),(wrap64 (x4_1 + 1)),(by first | rfl | (simp; done) | (simp only [<- hji5] <;> (first | rfl | simp)) | (simp [*]; done)),(by first | rfl | (simp; done) | (simp [*]; done)),H',⟨by have:=HK1.out; omega⟩,⟨by repeat (first | (with_reducible first | exact HB.out | apply a0c | apply a0b | apply a0d) | exact HB.out)⟩⟩
   · rw [if_neg c2] at H
     have c2b0 : decide (x4_1 < 256) = false:=decide_eq_false c2
     clear c2
     obtain rfl:=Option.some.inj H
     go_wp2
     go_ret
     exact ⟨by first | rfl | (simp [a0l,a0m] <;> rfl) | (simp [*,a0l,a0m] <;> rfl),by repeat (first | (with_reducible first | exact HB.out | apply a0c | apply a0b | apply a0d) | exact HB.out)⟩
mutual
def puncheonref06_Present.l0 : Nat -> List Int -> List Int -> Int -> Option (List Int)
 | 0,_,_,_=>none
 | k + 1,x0,x3,x4=>if x4 < 256 then (puncheonref06_Present.l1 k x0 x3 x4 0 0) else (some x3)
def puncheonref06_Present.l1 : Nat -> List Int -> List Int -> Int -> Int -> Int -> Option (List Int)
 | 0,_,_,_,_,_=>none
 | k + 1,x0,x3,x4,x5,x6=>if x6 < (x0.length : Int) then ((puncheonref06_At.f x0 x6).bind λ t201=>(if t201 = x4 then (puncheonref06_Present.l1 k x0 x3 x4 (wrap64 (x5 + 1)) (wrap64 (x6 + 1))) else (puncheonref06_Present.l1 k x0 x3 x4 x5 (wrap64 (x6 + 1))))) else (if x5 > 0 then (if x3.length < 17592186044416 then (puncheonref06_Present.l0 k x0 (x3 ++ [x4]) (wrap64 (x4 + 1))) else (none)) else (puncheonref06_Present.l0 k x0 x3 (wrap64 (x4 + 1))))
end
def puncheonref06_Present.f (k : Nat) (l0 : List Int) : Option (List Int):=puncheonref06_Present.l0 k l0 ([] : List Int) 0
theorem puncheonref06_Present.mono_l : ∀ k,(∀ y0 y1 y2,LeO (puncheonref06_Present.l0 k y0 y1 y2) (puncheonref06_Present.l0 (k + 1) y0 y1 y2)) /\ (∀ y0 y1 y2 y3 y4,LeO (puncheonref06_Present.l1 k y0 y1 y2 y3 y4) (puncheonref06_Present.l1 (k + 1) y0 y1 y2 y3 y4))
 | 0=>⟨λ _ _ _ r h=>by simp [puncheonref06_Present.l0] at h,λ _ _ _ _ _ r h=>by simp [puncheonref06_Present.l1] at h⟩
 | k + 1=>by
  obtain ⟨ih0,ih1⟩:=puncheonref06_Present.mono_l k
  refine ⟨?_,?_⟩
  · intro y0 y1 y2
    unfold puncheonref06_Present.l0
    repeat' first
    | (with_reducible exact ih0 _ _ _)
    | (with_reducible exact ih1 _ _ _ _ _)
    | (with_reducible exact LeO.refl _)
    | (with_reducible exact LeO.none _)
    | (with_reducible refine LeO.ite ?_ ?_)
    | (with_reducible refine LeO.bind ?_ (λ _=>?_))
    | exact ih0 _ _ _
    | exact ih1 _ _ _ _ _
    | exact LeO.none _
    | refine LeO.ite ?_ ?_
    | refine LeO.bind ?_ (λ _=>?_)
  · intro y0 y1 y2 y3 y4
    unfold puncheonref06_Present.l1
    repeat' first
    | (with_reducible exact ih0 _ _ _)
    | (with_reducible exact ih1 _ _ _ _ _)
    | (with_reducible exact LeO.refl _)
    | (with_reducible exact LeO.none _)
    | (with_reducible refine LeO.ite ?_ ?_)
    | (with_reducible refine LeO.bind ?_ (λ _=>?_))
    | exact ih0 _ _ _
    | exact ih1 _ _ _ _ _
    | exact LeO.none _
    | refine LeO.ite ?_ ?_
    | refine LeO.bind ?_ (λ _=>?_)
theorem puncheonref06_Present.mono : ∀ a0 k,LeO (puncheonref06_Present.f k a0) (puncheonref06_Present.f (k + 1) a0):=by
 intro a0 k
 obtain ⟨ih0,ih1⟩:=puncheonref06_Present.mono_l k
 unfold puncheonref06_Present.f
 repeat' first
     | (with_reducible exact ih0 _ _ _)
     | (with_reducible exact ih1 _ _ _ _ _)
     | (with_reducible exact LeO.refl _)
     | (with_reducible exact LeO.none _)
     | (with_reducible refine LeO.ite ?_ ?_)
     | (with_reducible refine LeO.bind ?_ (λ _=>?_))
     | exact ih0 _ _ _
     | exact ih1 _ _ _ _ _
     | exact LeO.none _
     | refine LeO.ite ?_ ?_
     | refine LeO.bind ?_ (λ _=>?_)
set_option maxHeartbeats 8000000 in
set_option maxRecDepth 100000 in
theorem puncheonref06_Present.calls (k : Nat) (A0 : Option Addr) (c0 : Nat) (l0 : List Int) (r : List Int) (w : World) (hr0 : Kd.C (Kd.int .u8) w A0 l0.length l0) (hc0 : l0.length <= c0) (h : puncheonref06_Present.f k l0 = some r) :
    Calls Tryz.prog 230 #[.slice A0 l0.length c0] w λ e w'=>∃ v0_ : Value,e = .returned (v0_) /\ Kd.R (Kd.int .i64) 3 w' w.heap.size (λ _=>True) v0_ r /\ Below w.heap.size w w':=by
 have HR0:=Aside0.mk hr0
 have HC0:=Aside0.mk hc0
 clear hr0 hc0
 have HB:=Aside0.mk (Below.refl w.heap.size w)
 have H : (puncheonref06_Present.l0 k l0 ([] : List Int) 0) = some r:=h
 clear h
 have H':=Aside0.mk H
 clear H
 go_enter Tryz.func230,Tryz.ntmps230
 go_wp2
 go_loopg [3,4] k (λ kq v3 v4 w'=>∃ (x3_1 : List Int) (x4_1 : Int),v4 = .int .i64 x4_1 /\ Aside0 (puncheonref06_Present.l0 kq l0 x3_1 x4_1 = some r) /\ Aside0 (kq <= k) /\ Aside0 (Kd.R (Kd.int .i64) 3 w' w.heap.size (λ _=>True) v3 x3_1) /\ Aside0 (Below w.heap.size w w'))
 case atStart=>exact ⟨(([] : List Int)),(0),(by first | rfl | (simp; done) | (simp [*]; done)),H',⟨Nat.le_refl _⟩,⟨by first | exact Kd.R_nil _ _ _ _ _ | exact Kd.N_nil _ _ _ _ _ | exact Kd.V_nil _ _ _ _ _ | exact Kd.Q_nil _ _ _ _ _ | exact Kd.S_nil _ _ _ _ _⟩,⟨by repeat (first | (with_reducible first | exact HB.out | apply a0c | apply a0b | apply a0d) | exact HB.out)⟩⟩
 case round=>
  clear H'
  obtain ⟨x3_1,x4_1,rfl,HA,HK1,HO_3,HB⟩:=hrel
  cases gk with
  | zero=>exact absurd HA.out (by simp [puncheonref06_Present.l0])
  | succ k1=>
   have H:=HA.out
   clear HA
   simp only [puncheonref06_Present.l0] at H
   by_cases c2 : x4_1 < 256
   · rw [if_pos c2] at H
     have c2b0 : decide (x4_1 < 256) = true:=decide_eq_true c2
     clear c2
     have H':=Aside0.mk H
     clear H
     go_wp2
     go_loopg [5,6] k1 (λ kq v5 v6 w'=>∃ (x5_2 : Int) (x6_2 : Int),v5 = .int .i64 x5_2 /\ v6 = .int .i64 x6_2 /\ Aside0 (puncheonref06_Present.l1 kq l0 x3_1 x4_1 x5_2 x6_2 = some r) /\ Aside0 (kq <= k1) /\ Aside0 (Kd.R (Kd.int .i64) 3 w' w.heap.size (λ _=>True) u3 x3_1) /\ Aside0 (Below w.heap.size w w'))
     case atStart=>exact ⟨(0),(0),(by first | rfl | (simp; done) | (simp [*]; done)),(by first | rfl | (simp; done) | (simp [*]; done)),H',⟨Nat.le_refl _⟩,⟨by (with_reducible repeat (first | apply Kd.R_alloc | apply Kd.R_drewN | apply Kd.R_drew)); exact HO_3.out⟩,⟨by repeat (first | (with_reducible first | exact HB.out | apply a0c | apply a0b | apply a0d) | exact HB.out)⟩⟩
     case round=>
      clear H'
      try clear c2
      try clear c2b0
      try clear p2
      obtain ⟨x5_2,x6_2,rfl,rfl,HA,HK2,HO_3,HB⟩:=hrel
      cases gk with
      | zero=>exact absurd HA.out (by simp [puncheonref06_Present.l1])
      | succ k2=>
       have H:=HA.out
       clear HA
       simp only [puncheonref06_Present.l1] at H
       by_cases c3 : x6_2 < (l0.length : Int)
       · rw [if_pos c3] at H
         have c3b0 : decide (x6_2 < (l0.length : Int)) = true:=decide_eq_true c3
         clear c3
         replace H:=Option.bind_eq_some_iff.mp H
         obtain ⟨t201,A40,H⟩:=H
         replace H : (if t201 = x4_1 then (puncheonref06_Present.l1 k2 l0 x3_1 x4_1 (wrap64 (x5_2 + 1)) (wrap64 (x6_2 + 1))) else (puncheonref06_Present.l1 k2 l0 x3_1 x4_1 x5_2 (wrap64 (x6_2 + 1)))) = some r:=H
         have A4:=Aside0.mk A40
         clear A40
         by_cases c5 : t201 = x4_1
         · rw [if_pos c5] at H
           have c5b0 : (t201 == x4_1) = true:=beq_iff_eq.mpr c5
           have c5b1 : (t201 != x4_1) = false:=bne_eq_false_iff_eq.mpr c5
           clear c5
           have H':=Aside0.mk H
           clear H
           go_wp2_with (first | ((with_reducible refine a1l (f:=256) rfl ?_); refine a1k (some 19) rfl rfl Tryz.func256 (by kernel_rfl) rfl #[.slice A0 l0.length c0,.int .i64 x6_2] rfl (by (try simp only [List.map_toArray,List.map_cons,List.map_nil]); first | done | rfl | (simp only [List.length_drop,List.length_take]; rfl)) ?_; (with_reducible refine (puncheonref06_At.calls _ _ l0 x6_2 t201 _ ?side1 ?side2 A4.out).mono ?_); (case side1=>repeat (first | exact (Kd.C_below HR0.out HB.out) | (with_reducible refine Kd.C_alloc ?_ _) | (with_reducible refine Kd.C_drewN ?_ _) | (with_reducible refine Kd.C_drew ?_))); (case side2=>exact HC0.out); rintro e w6 ⟨rfl,hb⟩; refine ⟨_,rfl,?_⟩; have n0_:=Aside0.mk (Kd.R_below (by (with_reducible repeat (first | apply Kd.R_alloc | apply Kd.R_drewN | apply Kd.R_drew)); exact HO_3.out) hb); have n1_:=Aside0.mk (a1j (by repeat (first | (with_reducible first | exact HB.out | apply a0c | apply a0b | apply a0d) | exact HB.out)) hb); clear HO_3; clear HB; have HO_3:=n0_; have HB:=n1_; clear n0_ n1_; (try clear hb); (try clear hb2); (try clear hk); (try clear hi)))
           go_roundg k2
           case measure=>have:=HK1.out; have:=HK2.out; omega
           case rel=>exact ⟨(wrap64 (x5_2 + 1)),(wrap64 (x6_2 + 1)),(by first | rfl | (simp; done) | (simp [*]; done)),(by first | rfl | (simp; done) | (simp [*]; done)),H',⟨by have:=HK1.out; have:=HK2.out; omega⟩,⟨by (with_reducible repeat (first | apply Kd.R_alloc | apply Kd.R_drewN | apply Kd.R_drew)); exact HO_3.out⟩,⟨by repeat (first | (with_reducible first | exact HB.out | apply a0c | apply a0b | apply a0d) | exact HB.out)⟩⟩
         · rw [if_neg c5] at H
           have c5b0 : (t201 == x4_1) = false:=beq_eq_false_iff_ne.mpr c5
           have c5b1 : (t201 != x4_1) = true:=bne_iff_ne.mpr c5
           have H':=Aside0.mk H
           clear H
           go_wp2_with (first | ((with_reducible refine a1l (f:=256) rfl ?_); refine a1k (some 19) rfl rfl Tryz.func256 (by kernel_rfl) rfl #[.slice A0 l0.length c0,.int .i64 x6_2] rfl (by (try simp only [List.map_toArray,List.map_cons,List.map_nil]); first | done | rfl | (simp only [List.length_drop,List.length_take]; rfl)) ?_; (with_reducible refine (puncheonref06_At.calls _ _ l0 x6_2 t201 _ ?side1 ?side2 A4.out).mono ?_); (case side1=>repeat (first | exact (Kd.C_below HR0.out HB.out) | (with_reducible refine Kd.C_alloc ?_ _) | (with_reducible refine Kd.C_drewN ?_ _) | (with_reducible refine Kd.C_drew ?_))); (case side2=>exact HC0.out); rintro e w7 ⟨rfl,hb⟩; refine ⟨_,rfl,?_⟩; have n0_:=Aside0.mk (Kd.R_below (by (with_reducible repeat (first | apply Kd.R_alloc | apply Kd.R_drewN | apply Kd.R_drew)); exact HO_3.out) hb); have n1_:=Aside0.mk (a1j (by repeat (first | (with_reducible first | exact HB.out | apply a0c | apply a0b | apply a0d) | exact HB.out)) hb); clear HO_3; clear HB; have HO_3:=n0_; have HB:=n1_; clear n0_ n1_; (try clear hb); (try clear hb2); (try clear hk); (try clear hi)))
           go_roundg k2
           case measure=>have:=HK1.out; have:=HK2.out; omega
           case rel=>exact ⟨(x5_2),(wrap64 (x6_2 + 1)),(by first | rfl | (simp; done) | (simp [*]; done)),(by first | rfl | (simp; done) | (simp [*]; done)),H',⟨by have:=HK1.out; have:=HK2.out; omega⟩,⟨by (with_reducible repeat (first | apply Kd.R_alloc | apply Kd.R_drewN | apply Kd.R_drew)); exact HO_3.out⟩,⟨by repeat (first | (with_reducible first | exact HB.out | apply a0c | apply a0b | apply a0d) | exact HB.out)⟩⟩
       · rw [if_neg c3] at H
         have c3b0 : decide (x6_2 < (l0.length : Int)) = false:=decide_eq_false c3
         clear c3
         by_cases c8 : x5_2 > 0
         · rw [if_pos c8] at H
           have c8b0 : decide (0 < x5_2) = true:=decide_eq_true c8
           clear c8
           by_cases c9 : x3_1.length < 17592186044416
           · rw [if_pos c9] at H
             have LMc9:=Aside0.mk c9
             clear c9
             obtain ⟨y202,hy202⟩ : ∃ y_ : List Int,y_ = (x3_1 ++ [x4_1]):=⟨_,rfl⟩
             replace H : (puncheonref06_Present.l0 k2 l0 y202 (wrap64 (x4_1 + 1))) = some r:=by first | (rw [hy202]; with_reducible exact H) | (have H2_:=(Option.bind_some _ _).symm.trans H; rw [hy202]; with_reducible exact H2_) | (have H2_:=(Option.bind_some _ _).symm.trans H; with_reducible exact H2_) | with_reducible exact H | (rw [hy202]; exact H) | exact H
             have Ny202:=Aside0.mk hy202
             clear hy202
             have H':=Aside0.mk H
             clear H
             go_wp2_with (first | ((with_reducible refine a3Z (b:=.append) (xs:=#[.tmp 26,.tmp 28]) rfl ?_); at_builtin; refine Kd.R_append (Kd.int .i64) (w0:=w) w.heap.size rfl (.tmp 26) (.tmp 28) 84 3 (.int .i64 0) 8 rfl Tryz.underlying84 info3 rfl (by decide) (by omega) u3 x3_1 x4_1 [.int .i64 x4_1] (λ _=>True) (λ _=>False) rfl rfl ?aP (λ _ hk=>hk.elim) ?aF ?aO ?aB ?aS ?aL ?_; (case aP=>exact rfl); (case aB=>exact (by repeat (first | (with_reducible first | exact HB.out | apply a0c | apply a0b | apply a0d) | exact HB.out))); (case aF=>exact (λ _ _=>trivial)); (case aO=>exact (by (with_reducible repeat (first | apply Kd.R_alloc | apply Kd.R_drewN | apply Kd.R_drew)); exact HO_3.out)); (case aS=>exact (a0N (by repeat (first | (with_reducible first | exact HB.out | apply a0c | apply a0b | apply a0d) | exact HB.out)))); (case aL=>have:=LMc9.out; omega); intro v203 w10 ho hb hg hat; rw [<- Ny202.out] at ho; have n0_:=Aside0.mk (hb); have n1_:=Aside0.mk (ho); clear HB; clear HO_3; have HB:=n0_; have HO204:=n1_; clear n0_ n1_; clear ho hb hg hat))
             go_roundg k2
             case measure=>have:=HK1.out; have:=HK2.out; omega
             case rel=>exact ⟨(y202),(wrap64 (x4_1 + 1)),(by first | rfl | (simp; done) | (simp [*]; done)),H',⟨by have:=HK1.out; have:=HK2.out; omega⟩,⟨by (with_reducible repeat (first | apply Kd.R_alloc | apply Kd.R_drewN | apply Kd.R_drew)); exact HO204.out⟩,⟨by repeat (first | (with_reducible first | exact HB.out | apply a0c | apply a0b | apply a0d) | exact HB.out)⟩⟩
           · rw [if_neg c9] at H
             exact absurd H (by simp)
         · rw [if_neg c8] at H
           have c8b0 : decide (0 < x5_2) = false:=decide_eq_false c8
           clear c8
           have H':=Aside0.mk H
           clear H
           go_wp2
           go_roundg k2
           case measure=>have:=HK1.out; have:=HK2.out; omega
           case rel=>exact ⟨(x3_1),(wrap64 (x4_1 + 1)),(by first | rfl | (simp; done) | (simp [*]; done)),H',⟨by have:=HK1.out; have:=HK2.out; omega⟩,⟨by (with_reducible repeat (first | apply Kd.R_alloc | apply Kd.R_drewN | apply Kd.R_drew)); exact HO_3.out⟩,⟨by repeat (first | (with_reducible first | exact HB.out | apply a0c | apply a0b | apply a0d) | exact HB.out)⟩⟩
   · rw [if_neg c2] at H
     have c2b0 : decide (x4_1 < 256) = false:=decide_eq_false c2
     clear c2
     obtain rfl:=Option.some.inj H
     go_wp2
     go_ret
     exact ⟨_,by first | rfl | (simp [a0l,a0m] <;> rfl) | (simp [*,a0l,a0m] <;> rfl),by (with_reducible repeat (first | apply Kd.R_alloc | apply Kd.R_drewN | apply Kd.R_drew)); exact HO_3.out,by repeat (first | (with_reducible first | exact HB.out | apply a0c | apply a0b | apply a0d) | exact HB.out)⟩
def puncheonref08_sum.l0 : Nat -> List Int -> Int -> Int -> Option (Int)
 | 0,_,_,_=>none
 | k + 1,x0,x3,x4=>if x4 < (x0.length : Int) then (if 0 <= x4 then (puncheonref08_sum.l0 k x0 (wrap64 (x3 + (rd x0 x4))) (wrap64 (x4 + 1))) else (none)) else (some x3)
def puncheonref08_sum.f (k : Nat) (l0 : List Int) : Option (Int):=puncheonref08_sum.l0 k l0 0 0
theorem puncheonref08_sum.mono_l : ∀ k,(∀ y0 y1 y2,LeO (puncheonref08_sum.l0 k y0 y1 y2) (puncheonref08_sum.l0 (k + 1) y0 y1 y2))
 | 0=>λ _ _ _ r h=>by simp [puncheonref08_sum.l0] at h
 | k + 1=>by
  have ih0:=puncheonref08_sum.mono_l k
  · intro y0 y1 y2
    unfold puncheonref08_sum.l0
    repeat' first
    | (with_reducible exact ih0 _ _ _)
    | (with_reducible exact LeO.refl _)
    | (with_reducible exact LeO.none _)
    | (with_reducible refine LeO.ite ?_ ?_)
    | (with_reducible refine LeO.bind ?_ (λ _=>?_))
    | exact ih0 _ _ _
    | exact LeO.none _
    | refine LeO.ite ?_ ?_
    | refine LeO.bind ?_ (λ _=>?_)
theorem puncheonref08_sum.mono : ∀ a0 k,LeO (puncheonref08_sum.f k a0) (puncheonref08_sum.f (k + 1) a0):=by
 intro a0 k
 have ih0:=puncheonref08_sum.mono_l k
 unfold puncheonref08_sum.f
 repeat' first
     | (with_reducible exact ih0 _ _ _)
     | (with_reducible exact LeO.refl _)
     | (with_reducible exact LeO.none _)
     | (with_reducible refine LeO.ite ?_ ?_)
     | (with_reducible refine LeO.bind ?_ (λ _=>?_))
     | exact ih0 _ _ _
     | exact LeO.none _
     | refine LeO.ite ?_ ?_
     | refine LeO.bind ?_ (λ _=>?_)
set_option maxHeartbeats 8000000 in
set_option maxRecDepth 100000 in
theorem puncheonref08_sum.calls (k : Nat) (A0 : Option Addr) (c0 : Nat) (l0 : List Int) (r : Int) (w : World) (hr0 : Kd.C (Kd.int .i64) w A0 l0.length l0) (hc0 : l0.length <= c0) (h : puncheonref08_sum.f k l0 = some r) :
    Calls Tryz.prog 266 #[.slice A0 l0.length c0] w λ e w'=>e = .returned (.int .i64 r) /\ Drawn0 w w':=by
 have HR0:=Aside0.mk hr0
 have HC0:=Aside0.mk hc0
 clear hr0 hc0
 have H : (puncheonref08_sum.l0 k l0 0 0) = some r:=h
 clear h
 have H':=Aside0.mk H
 clear H
 go_enter Tryz.func266,Tryz.ntmps266
 go_wp2
 go_loopg [3,4] k (λ kq v3 v4 w'=>∃ (x3_1 : Int) (x4_1 : Int),v3 = .int .i64 x3_1 /\ v4 = .int .i64 x4_1 /\ Aside0 (puncheonref08_sum.l0 kq l0 x3_1 x4_1 = some r) /\ Aside0 (kq <= k) /\ Drawn0 w w')
 case atStart=>exact ⟨(0),(0),(by first | rfl | (simp; done) | (simp [*]; done)),(by first | rfl | (simp; done) | (simp [*]; done)),H',⟨Nat.le_refl _⟩,by repeat (first | exact Drawn0.refl _ | apply Drawn0.step)⟩
 case round=>
  clear H'
  obtain ⟨x3_1,x4_1,rfl,rfl,HA,HK1,⟨m1,rfl⟩⟩:=hrel
  cases gk with
  | zero=>exact absurd HA.out (by simp [puncheonref08_sum.l0])
  | succ k1=>
   have H:=HA.out
   clear HA
   simp only [puncheonref08_sum.l0] at H
   by_cases c2 : x4_1 < (l0.length : Int)
   · rw [if_pos c2] at H
     have c2b0 : decide (x4_1 < (l0.length : Int)) = true:=decide_eq_true c2
     clear c2
     by_cases c3 : 0 <= x4_1
     · rw [if_pos c3] at H
       have c3b0 : decide (0 <= x4_1) = true:=decide_eq_true c3
       clear c3
       have H':=Aside0.mk H
       clear H
       have p205 : 0 <= (x4_1 : Int):=of_decide_eq_true (by first | (with_reducible assumption) | assumption)
       have q205 : x4_1 < (l0.length : Int):=of_decide_eq_true (by first | (with_reducible assumption) | assumption)
       obtain ⟨ad205,e205,hx205_0⟩:=Kd.at_int HR0.out x4_1 p205 q205
       cases e205
       replace p205:=eq_true p205
       replace q205:=eq_true q205
       go_wp2
       go_roundg k1
       case measure=>have:=HK1.out; omega
       case rel=>exact ⟨(wrap64 (x3_1 + (rd l0 x4_1))),(wrap64 (x4_1 + 1)),(by first | rfl | (simp; done) | (simp [*]; done)),(by first | rfl | (simp; done) | (simp [*]; done)),H',⟨by have:=HK1.out; omega⟩,by repeat (first | exact Drawn0.refl _ | apply Drawn0.step)⟩
     · rw [if_neg c3] at H
       exact absurd H (by simp)
   · rw [if_neg c2] at H
     have c2b0 : decide (x4_1 < (l0.length : Int)) = false:=decide_eq_false c2
     clear c2
     obtain rfl:=Option.some.inj H
     go_wp2
     go_ret
     exact ⟨by first | rfl | (simp; done) | (simp [*]; done),by repeat (first | exact Drawn0.refl _ | apply Drawn0.step)⟩
def puncheonref08_neediest.l0 : Nat -> List Int -> List Bool -> Int -> Int -> Option (Int)
 | 0,_,_,_,_=>none
 | k + 1,x0,x1,x5,x6=>if x6 < 256 then (if 0 <= x6 then (if x6 < (x1.length : Int) then (if rdOf false x1 x6 = true then (puncheonref08_neediest.l0 k x0 x1 x5 (wrap64 (x6 + 1))) else (if x5 < 0 then (puncheonref08_neediest.l0 k x0 x1 x6 (wrap64 (x6 + 1))) else (if x6 < (x0.length : Int) then (if 0 <= x5 then (if x5 < (x0.length : Int) then (if (rd x0 x6) > (rd x0 x5) then (puncheonref08_neediest.l0 k x0 x1 x6 (wrap64 (x6 + 1))) else (puncheonref08_neediest.l0 k x0 x1 x5 (wrap64 (x6 + 1)))) else (none)) else (none)) else (none)))) else (none)) else (none)) else (some x5)
def puncheonref08_neediest.f (k : Nat) (l0 : List Int) (l1 : List Bool) : Option (Int):=puncheonref08_neediest.l0 k l0 l1 (-1) 0
theorem puncheonref08_neediest.mono_l : ∀ k,(∀ y0 y1 y2 y3,LeO (puncheonref08_neediest.l0 k y0 y1 y2 y3) (puncheonref08_neediest.l0 (k + 1) y0 y1 y2 y3))
 | 0=>λ _ _ _ _ r h=>by simp [puncheonref08_neediest.l0] at h
 | k + 1=>by
  have ih0:=puncheonref08_neediest.mono_l k
  · intro y0 y1 y2 y3
    unfold puncheonref08_neediest.l0
    repeat' first
    | (with_reducible exact ih0 _ _ _ _)
    | (with_reducible exact LeO.refl _)
    | (with_reducible exact LeO.none _)
    | (with_reducible refine LeO.ite ?_ ?_)
    | (with_reducible refine LeO.bind ?_ (λ _=>?_))
    | exact ih0 _ _ _ _
    | exact LeO.none _
    | refine LeO.ite ?_ ?_
    | refine LeO.bind ?_ (λ _=>?_)
theorem puncheonref08_neediest.mono : ∀ a0 a1 k,LeO (puncheonref08_neediest.f k a0 a1) (puncheonref08_neediest.f (k + 1) a0 a1):=by
 intro a0 a1 k
 have ih0:=puncheonref08_neediest.mono_l k
 unfold puncheonref08_neediest.f
 repeat' first
     | (with_reducible exact ih0 _ _ _ _)
     | (with_reducible exact LeO.refl _)
     | (with_reducible exact LeO.none _)
     | (with_reducible refine LeO.ite ?_ ?_)
     | (with_reducible refine LeO.bind ?_ (λ _=>?_))
     | exact ih0 _ _ _ _
     | exact LeO.none _
     | refine LeO.ite ?_ ?_
     | refine LeO.bind ?_ (λ _=>?_)
set_option maxHeartbeats 8000000 in
set_option maxRecDepth 100000 in
theorem puncheonref08_neediest.calls (k : Nat) (A0 : Option Addr) (c0 : Nat) (l0 : List Int) (A1 : Option Addr) (c1 : Nat) (l1 : List Bool) (r : Int) (w : World) (hr0 : Kd.C (Kd.int .i64) w A0 l0.length l0) (hc0 : l0.length <= c0) (hr1 : Kd.C Kd.bool w A1 l1.length l1) (hc1 : l1.length <= c1) (h : puncheonref08_neediest.f k l0 l1 = some r) :
    Calls Tryz.prog 267 #[.slice A0 l0.length c0,.slice A1 l1.length c1] w λ e w'=>e = .returned (.int .i64 r) /\ Drawn0 w w':=by
 have HR0:=Aside0.mk hr0
 have HC0:=Aside0.mk hc0
 clear hr0 hc0
 have HR1:=Aside0.mk hr1
 have HC1:=Aside0.mk hc1
 clear hr1 hc1
 have H : (puncheonref08_neediest.l0 k l0 l1 (-1) 0) = some r:=h
 clear h
 have H':=Aside0.mk H
 clear H
 go_enter Tryz.func267,Tryz.ntmps267
 go_wp2
 repeat (go_quiet (fail); try go_wp2)
 go_loopg [5,6] k (λ kq v5 v6 w'=>∃ (x5_1 : Int) (x6_1 : Int),v5 = .int .i64 x5_1 /\ v6 = .int .i64 x6_1 /\ Aside0 (puncheonref08_neediest.l0 kq l0 l1 x5_1 x6_1 = some r) /\ Aside0 (kq <= k) /\ Drawn0 w w')
 case atStart=>exact ⟨((-1)),(0),(by first | rfl | (simp; done) | (simp [*]; done)),(by first | rfl | (simp; done) | (simp [*]; done)),H',⟨Nat.le_refl _⟩,by repeat (first | exact Drawn0.refl _ | apply Drawn0.step)⟩
 case round=>
  clear H'
  try clear c1
  try clear c2
  try clear p2
  obtain ⟨x5_1,x6_1,rfl,rfl,HA,HK1,⟨m1,rfl⟩⟩:=hrel
  cases gk with
  | zero=>exact absurd HA.out (by simp [puncheonref08_neediest.l0])
  | succ k1=>
   have H:=HA.out
   clear HA
   simp only [puncheonref08_neediest.l0] at H
   by_cases c3 : x6_1 < 256
   · rw [if_pos c3] at H
     have c3b0 : decide (x6_1 < 256) = true:=decide_eq_true c3
     clear c3
     by_cases c4 : 0 <= x6_1
     · rw [if_pos c4] at H
       have c4b0 : decide (0 <= x6_1) = true:=decide_eq_true c4
       clear c4
       by_cases c5 : x6_1 < (l1.length : Int)
       · rw [if_pos c5] at H
         have c5b0 : decide (x6_1 < (l1.length : Int)) = true:=decide_eq_true c5
         clear c5
         obtain ⟨bq6,hbq6⟩ : ∃ b_ : Bool,b_ = (rdOf false l1 x6_1):=⟨_,rfl⟩
         replace H : (if bq6 = true then (puncheonref08_neediest.l0 k1 l0 l1 x5_1 (wrap64 (x6_1 + 1))) else (if x5_1 < 0 then (puncheonref08_neediest.l0 k1 l0 l1 x6_1 (wrap64 (x6_1 + 1))) else (if x6_1 < (l0.length : Int) then (if 0 <= x5_1 then (if x5_1 < (l0.length : Int) then (if (rd l0 x6_1) > (rd l0 x5_1) then (puncheonref08_neediest.l0 k1 l0 l1 x6_1 (wrap64 (x6_1 + 1))) else (puncheonref08_neediest.l0 k1 l0 l1 x5_1 (wrap64 (x6_1 + 1)))) else (none)) else (none)) else (none)))) = some r:=by rw [<- hbq6] at H; exact H
         have Nbq6:=Aside0.mk hbq6
         clear hbq6
         by_cases c7 : bq6 = true
         · subst c7
           have H1 : (puncheonref08_neediest.l0 k1 l0 l1 x5_1 (wrap64 (x6_1 + 1))) = some r:=by rw [if_pos rfl] at H; exact H
           clear H
           have H:=H1
           clear H1
           have H':=Aside0.mk H
           clear H
           have p206 : 0 <= (x6_1 : Int):=of_decide_eq_true (by first | (with_reducible assumption) | assumption)
           have q206 : x6_1 < (l1.length : Int):=of_decide_eq_true (by first | (with_reducible assumption) | assumption)
           obtain ⟨ad206,e206,hx206_0⟩:=Kd.at_bool HR1.out x6_1 p206 q206
           (try rw [<- Nbq6.out] at hx206_0)
           cases e206
           replace p206:=eq_true p206
           replace q206:=eq_true q206
           go_wp2
           repeat (go_quiet (fail); try go_wp2)
           go_roundg k1
           case measure=>have:=HK1.out; omega
           case rel=>exact ⟨(x5_1),(wrap64 (x6_1 + 1)),(by first | rfl | (simp; done) | (simp [*]; done)),(by first | rfl | (simp; done) | (simp [*]; done)),H',⟨by have:=HK1.out; omega⟩,by repeat (first | exact Drawn0.refl _ | apply Drawn0.step)⟩
         · replace c7:=Bool.eq_false_iff.mpr c7
           subst c7
           have H1 : (if x5_1 < 0 then (puncheonref08_neediest.l0 k1 l0 l1 x6_1 (wrap64 (x6_1 + 1))) else (if x6_1 < (l0.length : Int) then (if 0 <= x5_1 then (if x5_1 < (l0.length : Int) then (if (rd l0 x6_1) > (rd l0 x5_1) then (puncheonref08_neediest.l0 k1 l0 l1 x6_1 (wrap64 (x6_1 + 1))) else (puncheonref08_neediest.l0 k1 l0 l1 x5_1 (wrap64 (x6_1 + 1)))) else (none)) else (none)) else (none))) = some r:=by rw [if_neg (show ¬ (false = true) by decide)] at H; exact H
           clear H
           have H:=H1
           clear H1
           by_cases c8 : x5_1 < 0
           · rw [if_pos c8] at H
             have c8b0 : decide (x5_1 < 0) = true:=decide_eq_true c8
             clear c8
             have H':=Aside0.mk H
             clear H
             have p206 : 0 <= (x6_1 : Int):=of_decide_eq_true (by first | (with_reducible assumption) | assumption)
             have q206 : x6_1 < (l1.length : Int):=of_decide_eq_true (by first | (with_reducible assumption) | assumption)
             obtain ⟨ad206,e206,hx206_0⟩:=Kd.at_bool HR1.out x6_1 p206 q206
             (try rw [<- Nbq6.out] at hx206_0)
             cases e206
             replace p206:=eq_true p206
             replace q206:=eq_true q206
             go_wp2
             repeat (go_quiet (fail); try go_wp2)
             go_roundg k1
             case measure=>have:=HK1.out; omega
             case rel=>exact ⟨(x6_1),(wrap64 (x6_1 + 1)),(by first | rfl | (simp; done) | (simp [*]; done)),(by first | rfl | (simp; done) | (simp [*]; done)),H',⟨by have:=HK1.out; omega⟩,by repeat (first | exact Drawn0.refl _ | apply Drawn0.step)⟩
           · rw [if_neg c8] at H
             have c8b0 : decide (x5_1 < 0) = false:=decide_eq_false c8
             clear c8
             by_cases c9 : x6_1 < (l0.length : Int)
             · rw [if_pos c9] at H
               have c9b0 : decide (x6_1 < (l0.length : Int)) = true:=decide_eq_true c9
               clear c9
               by_cases c10 : 0 <= x5_1
               · rw [if_pos c10] at H
                 have c10b0 : decide (0 <= x5_1) = true:=decide_eq_true c10
                 clear c10
                 by_cases c11 : x5_1 < (l0.length : Int)
                 · rw [if_pos c11] at H
                   have c11b0 : decide (x5_1 < (l0.length : Int)) = true:=decide_eq_true c11
                   clear c11
                   by_cases c12 : (rd l0 x6_1) > (rd l0 x5_1)
                   · rw [if_pos c12] at H
                     have c12b0 : decide ((rd l0 x5_1) < (rd l0 x6_1)) = true:=decide_eq_true c12
                     clear c12
                     have H':=Aside0.mk H
                     clear H
                     have p206 : 0 <= (x6_1 : Int):=of_decide_eq_true (by first | (with_reducible assumption) | assumption)
                     have q206 : x6_1 < (l1.length : Int):=of_decide_eq_true (by first | (with_reducible assumption) | assumption)
                     obtain ⟨ad206,e206,hx206_0⟩:=Kd.at_bool HR1.out x6_1 p206 q206
                     (try rw [<- Nbq6.out] at hx206_0)
                     cases e206
                     replace p206:=eq_true p206
                     replace q206:=eq_true q206
                     have p207 : 0 <= (x6_1 : Int):=of_decide_eq_true (by first | (with_reducible assumption) | assumption)
                     have q207 : x6_1 < (l0.length : Int):=of_decide_eq_true (by first | (with_reducible assumption) | assumption)
                     obtain ⟨ad207,e207,hx207_0⟩:=Kd.at_int HR0.out x6_1 p207 q207
                     cases e207
                     replace p207:=eq_true p207
                     replace q207:=eq_true q207
                     have p208 : 0 <= (x5_1 : Int):=of_decide_eq_true (by first | (with_reducible assumption) | assumption)
                     have q208 : x5_1 < (l0.length : Int):=of_decide_eq_true (by first | (with_reducible assumption) | assumption)
                     obtain ⟨ad208,e208,hx208_0⟩:=Kd.at_int HR0.out x5_1 p208 q208
                     obtain rfl : ad207 = ad208:=(by injection e208)
                     replace p208:=eq_true p208
                     replace q208:=eq_true q208
                     go_wp2
                     repeat (go_quiet (fail); try go_wp2)
                     go_roundg k1
                     case measure=>have:=HK1.out; omega
                     case rel=>exact ⟨(x6_1),(wrap64 (x6_1 + 1)),(by first | rfl | (simp; done) | (simp [*]; done)),(by first | rfl | (simp; done) | (simp [*]; done)),H',⟨by have:=HK1.out; omega⟩,by repeat (first | exact Drawn0.refl _ | apply Drawn0.step)⟩
                   · rw [if_neg c12] at H
                     have c12b0 : decide ((rd l0 x5_1) < (rd l0 x6_1)) = false:=decide_eq_false c12
                     clear c12
                     have H':=Aside0.mk H
                     clear H
                     have p206 : 0 <= (x6_1 : Int):=of_decide_eq_true (by first | (with_reducible assumption) | assumption)
                     have q206 : x6_1 < (l1.length : Int):=of_decide_eq_true (by first | (with_reducible assumption) | assumption)
                     obtain ⟨ad206,e206,hx206_0⟩:=Kd.at_bool HR1.out x6_1 p206 q206
                     (try rw [<- Nbq6.out] at hx206_0)
                     cases e206
                     replace p206:=eq_true p206
                     replace q206:=eq_true q206
                     have p207 : 0 <= (x6_1 : Int):=of_decide_eq_true (by first | (with_reducible assumption) | assumption)
                     have q207 : x6_1 < (l0.length : Int):=of_decide_eq_true (by first | (with_reducible assumption) | assumption)
                     obtain ⟨ad207,e207,hx207_0⟩:=Kd.at_int HR0.out x6_1 p207 q207
                     cases e207
                     replace p207:=eq_true p207
                     replace q207:=eq_true q207
                     have p208 : 0 <= (x5_1 : Int):=of_decide_eq_true (by first | (with_reducible assumption) | assumption)
                     have q208 : x5_1 < (l0.length : Int):=of_decide_eq_true (by first | (with_reducible assumption) | assumption)
                     obtain ⟨ad208,e208,hx208_0⟩:=Kd.at_int HR0.out x5_1 p208 q208
                     obtain rfl : ad207 = ad208:=(by injection e208)
                     replace p208:=eq_true p208
                     replace q208:=eq_true q208
                     go_wp2
                     repeat (go_quiet (fail); try go_wp2)
                     go_roundg k1
                     case measure=>have:=HK1.out; omega
                     case rel=>exact ⟨(x5_1),(wrap64 (x6_1 + 1)),(by first | rfl | (simp; done) | (simp [*]; done)),(by first | rfl | (simp; done) | (simp [*]; done)),H',⟨by have:=HK1.out; omega⟩,by repeat (first | exact Drawn0.refl _ | apply Drawn0.step)⟩
                 · rw [if_neg c11] at H
                   exact absurd H (by simp)
               · rw [if_neg c10] at H
                 exact absurd H (by simp)
             · rw [if_neg c9] at H
               exact absurd H (by simp)
       · rw [if_neg c5] at H
         exact absurd H (by simp)
     · rw [if_neg c4] at H
       exact absurd H (by simp)
   · rw [if_neg c3] at H
     have c3b0 : decide (x6_1 < 256) = false:=decide_eq_false c3
     clear c3
     obtain rfl:=Option.some.inj H
     go_wp2
     repeat (go_quiet (fail); try go_wp2)
     go_ret
     exact ⟨by first | rfl | (simp; done) | (simp [*]; done),by repeat (first | exact Drawn0.refl _ | apply Drawn0.step)⟩
def puncheonref08_richest.l0 : Nat -> List Int -> List Int -> Int -> Int -> Option (Int)
 | 0,_,_,_,_=>none
 | k + 1,x0,x1,x5,x6=>if x6 < 256 then (if 0 <= x6 then (if x6 < (x0.length : Int) then (if 0 <= x5 then (if x5 < (x0.length : Int) then (if (rd x0 x6) > (rd x0 x5) then (puncheonref08_richest.l0 k x0 x1 x6 (wrap64 (x6 + 1))) else (if (rd x0 x6) = (rd x0 x5) then (if x6 < (x1.length : Int) then (if x5 < (x1.length : Int) then (if (rd x1 x6) <= (rd x1 x5) then (puncheonref08_richest.l0 k x0 x1 x6 (wrap64 (x6 + 1))) else (puncheonref08_richest.l0 k x0 x1 x5 (wrap64 (x6 + 1)))) else (none)) else (none)) else (puncheonref08_richest.l0 k x0 x1 x5 (wrap64 (x6 + 1))))) else (none)) else (none)) else (none)) else (none)) else (some x5)
def puncheonref08_richest.f (k : Nat) (l0 : List Int) (l1 : List Int) : Option (Int):=puncheonref08_richest.l0 k l0 l1 0 1
theorem puncheonref08_richest.mono_l : ∀ k,(∀ y0 y1 y2 y3,LeO (puncheonref08_richest.l0 k y0 y1 y2 y3) (puncheonref08_richest.l0 (k + 1) y0 y1 y2 y3))
 | 0=>λ _ _ _ _ r h=>by simp [puncheonref08_richest.l0] at h
 | k + 1=>by
  have ih0:=puncheonref08_richest.mono_l k
  · intro y0 y1 y2 y3
    unfold puncheonref08_richest.l0
    repeat' first
    | (with_reducible exact ih0 _ _ _ _)
    | (with_reducible exact LeO.refl _)
    | (with_reducible exact LeO.none _)
    | (with_reducible refine LeO.ite ?_ ?_)
    | (with_reducible refine LeO.bind ?_ (λ _=>?_))
    | exact ih0 _ _ _ _
    | exact LeO.none _
    | refine LeO.ite ?_ ?_
    | refine LeO.bind ?_ (λ _=>?_)
theorem puncheonref08_richest.mono : ∀ a0 a1 k,LeO (puncheonref08_richest.f k a0 a1) (puncheonref08_richest.f (k + 1) a0 a1):=by
 intro a0 a1 k
 have ih0:=puncheonref08_richest.mono_l k
 unfold puncheonref08_richest.f
 repeat' first
     | (with_reducible exact ih0 _ _ _ _)
     | (with_reducible exact LeO.refl _)
     | (with_reducible exact LeO.none _)
     | (with_reducible refine LeO.ite ?_ ?_)
     | (with_reducible refine LeO.bind ?_ (λ _=>?_))
     | exact ih0 _ _ _ _
     | exact LeO.none _
     | refine LeO.ite ?_ ?_
     | refine LeO.bind ?_ (λ _=>?_)
set_option maxHeartbeats 8000000 in
set_option maxRecDepth 100000 in
theorem puncheonref08_richest.calls (k : Nat) (A0 : Option Addr) (c0 : Nat) (l0 : List Int) (A1 : Option Addr) (c1 : Nat) (l1 : List Int) (r : Int) (w : World) (hr0 : Kd.C (Kd.int .i64) w A0 l0.length l0) (hc0 : l0.length <= c0) (hr1 : Kd.C (Kd.int .i64) w A1 l1.length l1) (hc1 : l1.length <= c1) (h : puncheonref08_richest.f k l0 l1 = some r) :
    Calls Tryz.prog 268 #[.slice A0 l0.length c0,.slice A1 l1.length c1] w λ e w'=>e = .returned (.int .i64 r) /\ Drawn0 w w':=by
 have HR0:=Aside0.mk hr0
 have HC0:=Aside0.mk hc0
 clear hr0 hc0
 have HR1:=Aside0.mk hr1
 have HC1:=Aside0.mk hc1
 clear hr1 hc1
 have H : (puncheonref08_richest.l0 k l0 l1 0 1) = some r:=h
 clear h
 have H':=Aside0.mk H
 clear H
 go_enter Tryz.func268,Tryz.ntmps268
 go_wp2
 repeat (go_quiet (fail); try go_wp2)
 go_loopg [5,6] k (λ kq v5 v6 w'=>∃ (x5_1 : Int) (x6_1 : Int),v5 = .int .i64 x5_1 /\ v6 = .int .i64 x6_1 /\ Aside0 (puncheonref08_richest.l0 kq l0 l1 x5_1 x6_1 = some r) /\ Aside0 (kq <= k) /\ Drawn0 w w')
 case atStart=>exact ⟨(0),(1),(by first | rfl | (simp; done) | (simp [*]; done)),(by first | rfl | (simp; done) | (simp [*]; done)),H',⟨Nat.le_refl _⟩,by repeat (first | exact Drawn0.refl _ | apply Drawn0.step)⟩
 case round=>
  clear H'
  try clear c1
  try clear c2
  try clear p2
  obtain ⟨x5_1,x6_1,rfl,rfl,HA,HK1,⟨m1,rfl⟩⟩:=hrel
  cases gk with
  | zero=>exact absurd HA.out (by simp [puncheonref08_richest.l0])
  | succ k1=>
   have H:=HA.out
   clear HA
   simp only [puncheonref08_richest.l0] at H
   by_cases c3 : x6_1 < 256
   · rw [if_pos c3] at H
     have c3b0 : decide (x6_1 < 256) = true:=decide_eq_true c3
     clear c3
     by_cases c4 : 0 <= x6_1
     · rw [if_pos c4] at H
       have c4b0 : decide (0 <= x6_1) = true:=decide_eq_true c4
       clear c4
       by_cases c5 : x6_1 < (l0.length : Int)
       · rw [if_pos c5] at H
         have c5b0 : decide (x6_1 < (l0.length : Int)) = true:=decide_eq_true c5
         clear c5
         by_cases c6 : 0 <= x5_1
         · rw [if_pos c6] at H
           have c6b0 : decide (0 <= x5_1) = true:=decide_eq_true c6
           clear c6
           by_cases c7 : x5_1 < (l0.length : Int)
           · rw [if_pos c7] at H
             have c7b0 : decide (x5_1 < (l0.length : Int)) = true:=decide_eq_true c7
             clear c7
             by_cases c8 : (rd l0 x6_1) > (rd l0 x5_1)
             · rw [if_pos c8] at H
               have c8b0 : decide ((rd l0 x5_1) < (rd l0 x6_1)) = true:=decide_eq_true c8
               clear c8
               have H':=Aside0.mk H
               clear H
               have p209 : 0 <= (x6_1 : Int):=of_decide_eq_true (by first | (with_reducible assumption) | assumption)
               have q209 : x6_1 < (l0.length : Int):=of_decide_eq_true (by first | (with_reducible assumption) | assumption)
               obtain ⟨ad209,e209,hx209_0⟩:=Kd.at_int HR0.out x6_1 p209 q209
               cases e209
               replace p209:=eq_true p209
               replace q209:=eq_true q209
               have p210 : 0 <= (x5_1 : Int):=of_decide_eq_true (by first | (with_reducible assumption) | assumption)
               have q210 : x5_1 < (l0.length : Int):=of_decide_eq_true (by first | (with_reducible assumption) | assumption)
               obtain ⟨ad210,e210,hx210_0⟩:=Kd.at_int HR0.out x5_1 p210 q210
               obtain rfl : ad209 = ad210:=(by injection e210)
               replace p210:=eq_true p210
               replace q210:=eq_true q210
               go_wp2
               repeat (go_quiet (fail); try go_wp2)
               go_roundg k1
               case measure=>have:=HK1.out; omega
               case rel=>exact ⟨(x6_1),(wrap64 (x6_1 + 1)),(by first | rfl | (simp; done) | (simp [*]; done)),(by first | rfl | (simp; done) | (simp [*]; done)),H',⟨by have:=HK1.out; omega⟩,by repeat (first | exact Drawn0.refl _ | apply Drawn0.step)⟩
             · rw [if_neg c8] at H
               have c8b0 : decide ((rd l0 x5_1) < (rd l0 x6_1)) = false:=decide_eq_false c8
               clear c8
               by_cases c9 : (rd l0 x6_1) = (rd l0 x5_1)
               · rw [if_pos c9] at H
                 have c9b0 : ((rd l0 x6_1) == (rd l0 x5_1)) = true:=beq_iff_eq.mpr c9
                 have c9b1 : ((rd l0 x6_1) != (rd l0 x5_1)) = false:=bne_eq_false_iff_eq.mpr c9
                 clear c9
                 by_cases c10 : x6_1 < (l1.length : Int)
                 · rw [if_pos c10] at H
                   have c10b0 : decide (x6_1 < (l1.length : Int)) = true:=decide_eq_true c10
                   clear c10
                   by_cases c11 : x5_1 < (l1.length : Int)
                   · rw [if_pos c11] at H
                     have c11b0 : decide (x5_1 < (l1.length : Int)) = true:=decide_eq_true c11
                     clear c11
                     by_cases c12 : (rd l1 x6_1) <= (rd l1 x5_1)
                     · rw [if_pos c12] at H
                       have c12b0 : decide ((rd l1 x6_1) <= (rd l1 x5_1)) = true:=decide_eq_true c12
                       clear c12
                       have H':=Aside0.mk H
                       clear H
                       have p209 : 0 <= (x6_1 : Int):=of_decide_eq_true (by first | (with_reducible assumption) | assumption)
                       have q209 : x6_1 < (l0.length : Int):=of_decide_eq_true (by first | (with_reducible assumption) | assumption)
                       obtain ⟨ad209,e209,hx209_0⟩:=Kd.at_int HR0.out x6_1 p209 q209
                       cases e209
                       replace p209:=eq_true p209
                       replace q209:=eq_true q209
                       have p210 : 0 <= (x5_1 : Int):=of_decide_eq_true (by first | (with_reducible assumption) | assumption)
                       have q210 : x5_1 < (l0.length : Int):=of_decide_eq_true (by first | (with_reducible assumption) | assumption)
                       obtain ⟨ad210,e210,hx210_0⟩:=Kd.at_int HR0.out x5_1 p210 q210
                       obtain rfl : ad209 = ad210:=(by injection e210)
                       replace p210:=eq_true p210
                       replace q210:=eq_true q210
                       have p211 : 0 <= (x6_1 : Int):=of_decide_eq_true (by first | (with_reducible assumption) | assumption)
                       have q211 : x6_1 < (l0.length : Int):=of_decide_eq_true (by first | (with_reducible assumption) | assumption)
                       obtain ⟨ad211,e211,hx211_0⟩:=Kd.at_int HR0.out x6_1 p211 q211
                       obtain rfl : ad209 = ad211:=(by injection e211)
                       replace p211:=eq_true p211
                       replace q211:=eq_true q211
                       have p212 : 0 <= (x5_1 : Int):=of_decide_eq_true (by first | (with_reducible assumption) | assumption)
                       have q212 : x5_1 < (l0.length : Int):=of_decide_eq_true (by first | (with_reducible assumption) | assumption)
                       obtain ⟨ad212,e212,hx212_0⟩:=Kd.at_int HR0.out x5_1 p212 q212
                       obtain rfl : ad209 = ad212:=(by injection e212)
                       replace p212:=eq_true p212
                       replace q212:=eq_true q212
                       have p213 : 0 <= (x6_1 : Int):=of_decide_eq_true (by first | (with_reducible assumption) | assumption)
                       have q213 : x6_1 < (l1.length : Int):=of_decide_eq_true (by first | (with_reducible assumption) | assumption)
                       obtain ⟨ad213,e213,hx213_0⟩:=Kd.at_int HR1.out x6_1 p213 q213
                       cases e213
                       replace p213:=eq_true p213
                       replace q213:=eq_true q213
                       have p214 : 0 <= (x5_1 : Int):=of_decide_eq_true (by first | (with_reducible assumption) | assumption)
                       have q214 : x5_1 < (l1.length : Int):=of_decide_eq_true (by first | (with_reducible assumption) | assumption)
                       obtain ⟨ad214,e214,hx214_0⟩:=Kd.at_int HR1.out x5_1 p214 q214
                       obtain rfl : ad213 = ad214:=(by injection e214)
                       replace p214:=eq_true p214
                       replace q214:=eq_true q214
                       go_wp2
                       repeat (go_quiet (fail); try go_wp2)
                       go_roundg k1
                       case measure=>have:=HK1.out; omega
                       case rel=>exact ⟨(x6_1),(wrap64 (x6_1 + 1)),(by first | rfl | (simp; done) | (simp [*]; done)),(by first | rfl | (simp; done) | (simp [*]; done)),H',⟨by have:=HK1.out; omega⟩,by repeat (first | exact Drawn0.refl _ | apply Drawn0.step)⟩
                     · rw [if_neg c12] at H
                       have c12b0 : decide ((rd l1 x6_1) <= (rd l1 x5_1)) = false:=decide_eq_false c12
                       clear c12
                       have H':=Aside0.mk H
                       clear H
                       have p209 : 0 <= (x6_1 : Int):=of_decide_eq_true (by first | (with_reducible assumption) | assumption)
                       have q209 : x6_1 < (l0.length : Int):=of_decide_eq_true (by first | (with_reducible assumption) | assumption)
                       obtain ⟨ad209,e209,hx209_0⟩:=Kd.at_int HR0.out x6_1 p209 q209
                       cases e209
                       replace p209:=eq_true p209
                       replace q209:=eq_true q209
                       have p210 : 0 <= (x5_1 : Int):=of_decide_eq_true (by first | (with_reducible assumption) | assumption)
                       have q210 : x5_1 < (l0.length : Int):=of_decide_eq_true (by first | (with_reducible assumption) | assumption)
                       obtain ⟨ad210,e210,hx210_0⟩:=Kd.at_int HR0.out x5_1 p210 q210
                       obtain rfl : ad209 = ad210:=(by injection e210)
                       replace p210:=eq_true p210
                       replace q210:=eq_true q210
                       have p211 : 0 <= (x6_1 : Int):=of_decide_eq_true (by first | (with_reducible assumption) | assumption)
                       have q211 : x6_1 < (l0.length : Int):=of_decide_eq_true (by first | (with_reducible assumption) | assumption)
                       obtain ⟨ad211,e211,hx211_0⟩:=Kd.at_int HR0.out x6_1 p211 q211
                       obtain rfl : ad209 = ad211:=(by injection e211)
                       replace p211:=eq_true p211
                       replace q211:=eq_true q211
                       have p212 : 0 <= (x5_1 : Int):=of_decide_eq_true (by first | (with_reducible assumption) | assumption)
                       have q212 : x5_1 < (l0.length : Int):=of_decide_eq_true (by first | (with_reducible assumption) | assumption)
                       obtain ⟨ad212,e212,hx212_0⟩:=Kd.at_int HR0.out x5_1 p212 q212
                       obtain rfl : ad209 = ad212:=(by injection e212)
                       replace p212:=eq_true p212
                       replace q212:=eq_true q212
                       have p213 : 0 <= (x6_1 : Int):=of_decide_eq_true (by first | (with_reducible assumption) | assumption)
                       have q213 : x6_1 < (l1.length : Int):=of_decide_eq_true (by first | (with_reducible assumption) | assumption)
                       obtain ⟨ad213,e213,hx213_0⟩:=Kd.at_int HR1.out x6_1 p213 q213
                       cases e213
                       replace p213:=eq_true p213
                       replace q213:=eq_true q213
                       have p214 : 0 <= (x5_1 : Int):=of_decide_eq_true (by first | (with_reducible assumption) | assumption)
                       have q214 : x5_1 < (l1.length : Int):=of_decide_eq_true (by first | (with_reducible assumption) | assumption)
                       obtain ⟨ad214,e214,hx214_0⟩:=Kd.at_int HR1.out x5_1 p214 q214
                       obtain rfl : ad213 = ad214:=(by injection e214)
                       replace p214:=eq_true p214
                       replace q214:=eq_true q214
                       go_wp2
                       repeat (go_quiet (fail); try go_wp2)
                       go_roundg k1
                       case measure=>have:=HK1.out; omega
                       case rel=>exact ⟨(x5_1),(wrap64 (x6_1 + 1)),(by first | rfl | (simp; done) | (simp [*]; done)),(by first | rfl | (simp; done) | (simp [*]; done)),H',⟨by have:=HK1.out; omega⟩,by repeat (first | exact Drawn0.refl _ | apply Drawn0.step)⟩
                   · rw [if_neg c11] at H
                     exact absurd H (by simp)
                 · rw [if_neg c10] at H
                   exact absurd H (by simp)
               · rw [if_neg c9] at H
                 have c9b0 : ((rd l0 x6_1) == (rd l0 x5_1)) = false:=beq_eq_false_iff_ne.mpr c9
                 have c9b1 : ((rd l0 x6_1) != (rd l0 x5_1)) = true:=bne_iff_ne.mpr c9
                 have H':=Aside0.mk H
                 clear H
                 have p209 : 0 <= (x6_1 : Int):=of_decide_eq_true (by first | (with_reducible assumption) | assumption)
                 have q209 : x6_1 < (l0.length : Int):=of_decide_eq_true (by first | (with_reducible assumption) | assumption)
                 obtain ⟨ad209,e209,hx209_0⟩:=Kd.at_int HR0.out x6_1 p209 q209
                 cases e209
                 replace p209:=eq_true p209
                 replace q209:=eq_true q209
                 have p210 : 0 <= (x5_1 : Int):=of_decide_eq_true (by first | (with_reducible assumption) | assumption)
                 have q210 : x5_1 < (l0.length : Int):=of_decide_eq_true (by first | (with_reducible assumption) | assumption)
                 obtain ⟨ad210,e210,hx210_0⟩:=Kd.at_int HR0.out x5_1 p210 q210
                 obtain rfl : ad209 = ad210:=(by injection e210)
                 replace p210:=eq_true p210
                 replace q210:=eq_true q210
                 have p211 : 0 <= (x6_1 : Int):=of_decide_eq_true (by first | (with_reducible assumption) | assumption)
                 have q211 : x6_1 < (l0.length : Int):=of_decide_eq_true (by first | (with_reducible assumption) | assumption)
                 obtain ⟨ad211,e211,hx211_0⟩:=Kd.at_int HR0.out x6_1 p211 q211
                 obtain rfl : ad209 = ad211:=(by injection e211)
                 replace p211:=eq_true p211
                 replace q211:=eq_true q211
                 have p212 : 0 <= (x5_1 : Int):=of_decide_eq_true (by first | (with_reducible assumption) | assumption)
                 have q212 : x5_1 < (l0.length : Int):=of_decide_eq_true (by first | (with_reducible assumption) | assumption)
                 obtain ⟨ad212,e212,hx212_0⟩:=Kd.at_int HR0.out x5_1 p212 q212
                 obtain rfl : ad209 = ad212:=(by injection e212)
                 replace p212:=eq_true p212
                 replace q212:=eq_true q212
                 go_wp2
                 repeat (go_quiet (fail); try go_wp2)
                 go_roundg k1
                 case measure=>have:=HK1.out; omega
                 case rel=>exact ⟨(x5_1),(wrap64 (x6_1 + 1)),(by first | rfl | (simp; done) | (simp [*]; done)),(by first | rfl | (simp; done) | (simp [*]; done)),H',⟨by have:=HK1.out; omega⟩,by repeat (first | exact Drawn0.refl _ | apply Drawn0.step)⟩
           · rw [if_neg c7] at H
             exact absurd H (by simp)
         · rw [if_neg c6] at H
           exact absurd H (by simp)
       · rw [if_neg c5] at H
         exact absurd H (by simp)
     · rw [if_neg c4] at H
       exact absurd H (by simp)
   · rw [if_neg c3] at H
     have c3b0 : decide (x6_1 < 256) = false:=decide_eq_false c3
     clear c3
     obtain rfl:=Option.some.inj H
     go_wp2
     repeat (go_quiet (fail); try go_wp2)
     go_ret
     exact ⟨by first | rfl | (simp; done) | (simp [*]; done),by repeat (first | exact Drawn0.refl _ | apply Drawn0.step)⟩
end Go.Proofs.YtflfjpkmjnnodaaGreat.PRef
