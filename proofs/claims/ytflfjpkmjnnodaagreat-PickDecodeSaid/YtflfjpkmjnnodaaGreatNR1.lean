/- The references, as the kit's print reads them (laid by a program of this session; what is not named is left out). -/
import Derived.Test.YtflfjpkmjnnodaaGreatProg
import Derived.Below
import Derived.Deep.Draws
import Derived.Deep.AppendLies
import Derived.Maps.AppendAt
import Derived.OwnWalk
import Derived.Laws.BytesArg
import Derived.Laws.MakeOwn
import Derived.Laws.OwnMore
import Derived.Deep.OwnRows
import Derived.Tactics
import Derived.Lib.ConvBytes
import Derived.Laws.Slices
import Derived.WalkKit
import Derived.KernelRfl
import Derived.RowKit3
import Derived.Deep.LoopGhost
import Derived.Deep.QuietTactic
import Derived.BigQuiet
import Derived.WideLaws
import Derived.Deep.DeepCutAuto
import Derived.Deep.CutBlock
import Derived.Deep.RegionHeld3
import Derived.Laws.Rows
import Derived.Lib.AppendStr
import Derived.ArgAppend
import Derived.Laws.IdiomCopy
import Derived.OrdersHeld
import Derived.Laws.BitsLemmas
import Derived.RowKit
import Derived.Test.YtflfjpkmjnnodaaGreatNS1
set_option maxRecDepth 100000
set_option maxHeartbeats 8000000
namespace Go.Proofs.YtflfjpkmjnnodaaGreat.PRef
open Go.RowKit Go.Proofs.YtflfjpkmjnnodaaGreatW.PrintWords Go.Proofs.YtflfjpkmjnnodaaGreatW.PrintLast Go.Proofs.YtflfjpkmjnnodaaGreatW.PrintMore
attribute [local go_sem] a2j a1Z a2k a2a a2A a2B a2C a2D   -- for this text's walks alone
set_option linter.unusedVariables false
set_option linter.unusedSimpArgs false
def errW:Option Int->Value
 | none=>.nilIface
 | some c=>.iface 0 (.int .i64 c)
theorem a0l:errW none=.nilIface:=rfl
theorem a0m (c:Int):errW (some c)=.iface 0 (.int .i64 c):=rfl
theorem info4:(Tryz.prog.info? 4).map (λ i=>(i.zero,i.size,i.bytes))=some (some (.bool false),1,1):=by kernel_rfl
theorem info5:(Tryz.prog.info? 5).map (λ i=>(i.zero,i.size,i.bytes))=some (some (.int .u8 0),1,1):=by kernel_rfl
theorem c3j:(Tryz.prog.info? 170).map (λ i=>(i.zero,i.size,i.bytes))=some (some (.agg #[(.int .u8 0),(.int .i64 0),(.int .i64 0)]),3,24):=by kernel_rfl
def rd_L3 (xs:List (List Int)) (i:Int):(List Int):=xs.getD i.toNat ([]:List Int)
theorem at_L3 {w:World} {A:Option Addr} {n:Nat} {xs:List (List Int)} (h:Kd.C (Kd.slice 3 (Kd.int .i64)) w A n xs) (i:Int) (h0:0<=i) (h1:i<n):∃ ad A0 c0,A=some ad/\w.cell? (ad.add i.toNat)=some (.slice A0 (rd_L3 xs i).length c0)/\(rd_L3 xs i).length<=c0/\(Kd.int .i64).C w A0 (rd_L3 xs i).length (rd_L3 xs i):=by
 obtain⟨ad,c,e,_,hK,hc0⟩:=Kd.C_get h ([]:List Int) i h0 h1;have hc:∀ j u,c[j]?=some u->w.cell? (ad.add (i.toNat*1+j))=some u:=hc0;obtain⟨A0,c0,rfl,l0,g0⟩:=hK;exact⟨ad,A0,c0,e,by have hq:=hc 0 _ rfl;rwa [Nat.mul_one,Nat.add_zero] at hq,l0,g0⟩
structure S170 where
 f0:Int
 f1:Int
 f2:Int
def z170:S170:=⟨(0:Int),(0:Int),(0:Int)⟩
def k170:Kd S170:=Kd.iso (Kd.pair (Kd.int .u8) (Kd.pair (Kd.int .i64) (Kd.int .i64))) (λ x:S170=>(x.f0,x.f1,x.f2))
theorem b4y {w:World} {base:Nat} {ok:Nat->Prop} {x:S170} {cs:List Value} (h:k170.M w base ok x cs):cs=[.int .u8 x.f0,.int .i64 x.f1,.int .i64 x.f2]:=by
 obtain⟨_,_,rfl,rfl,⟨_,_,rfl,rfl,rfl⟩⟩:=h;exact rfl
theorem b4z (w:World) (base:Nat) (ok:Nat->Prop) (x:S170)  : k170.M w base ok x [.int .u8 x.f0,.int .i64 x.f1,.int .i64 x.f2]:=⟨[.int .u8 x.f0],[.int .i64 x.f1,.int .i64 x.f2],rfl,rfl,⟨[.int .i64 x.f1],[.int .i64 x.f2],rfl,rfl,rfl⟩⟩
def a4U (xs:List S170) (i:Int):S170:=xs.getD i.toNat z170
end Go.Proofs.YtflfjpkmjnnodaaGreat.PRef
namespace Go.Proofs.YtflfjpkmjnnodaaGreat.PRef
open Go.RowKit Go.Proofs.YtflfjpkmjnnodaaGreatW.PrintWords Go.Proofs.YtflfjpkmjnnodaaGreatW.PrintLast Go.Proofs.YtflfjpkmjnnodaaGreatW.PrintMore
attribute [local go_sem] a2j a1Z a2k a2a a2A a2B a2C a2D   -- for this text's walks alone
set_option linter.unusedVariables false
set_option linter.unusedSimpArgs false
def puncheonref05_Right.l0:Nat->List Int->Int->Int->Option (Bool)
 | 0,_,_,_=>none
 | k+1,x0,x3,x4=>if x4<256 then (if 0<=x4 then (if x4<(x0.length:Int) then (if (rd x0 x4)<0 then (some false) else (if (rd x0 x4)>1073741824 then (some false) else (puncheonref05_Right.l0 k x0 (wrap64 (x3+(rd x0 x4))) (wrap64 (x4+1))))) else (none)) else (none)) else (some (decide (x3<=1073741824)))
def puncheonref05_Right.f (k:Nat) (l0:List Int):Option (Bool):=if (l0.length:Int)=256 then (puncheonref05_Right.l0 k l0 0 0) else (some false)
theorem puncheonref05_Right.mono_l:∀ k,(∀ y0 y1 y2,LeO (puncheonref05_Right.l0 k y0 y1 y2) (puncheonref05_Right.l0 (k+1) y0 y1 y2))
 | 0=>λ _ _ _ r h=>by simp[puncheonref05_Right.l0] at h
 | k+1=>by
  have ih0:=puncheonref05_Right.mono_l k
  · intro y0 y1 y2;unfold puncheonref05_Right.l0
    repeat' first
    | (with_reducible exact ih0 _ _ _)
    | (with_reducible exact LeO.refl _)
    | (with_reducible exact LeO.none _)
    | (with_reducible refine LeO.ite ?_ ?_)
    | (with_reducible refine LeO.bind ?_ (λ _=>?_))
    | exact ih0 _ _ _
    | exact LeO.none _
    | refine LeO.ite ?_ ?_
    | refine LeO.bind ?_ (λ _=>?_)
theorem puncheonref05_Right.mono:∀ a0 k,LeO (puncheonref05_Right.f k a0) (puncheonref05_Right.f (k+1) a0):=by
 intro a0 k;have ih0:=puncheonref05_Right.mono_l k;unfold puncheonref05_Right.f
 repeat' first
     | (with_reducible exact ih0 _ _ _)
     | (with_reducible exact LeO.refl _)
     | (with_reducible exact LeO.none _)
     | (with_reducible refine LeO.ite ?_ ?_)
     | (with_reducible refine LeO.bind ?_ (λ _=>?_))
     | exact ih0 _ _ _
     | exact LeO.none _
     | refine LeO.ite ?_ ?_
     | refine LeO.bind ?_ (λ _=>?_)
theorem puncheonref05_Right.calls (k:Nat) (A0:Option Addr) (c0:Nat) (l0:List Int) (r:Bool) (w:World) (hr0:Kd.C (Kd.int .i64) w A0 l0.length l0) (hc0:l0.length<=c0) (h:puncheonref05_Right.f k l0=some r) :
    Calls Tryz.prog 242 #[.slice A0 l0.length c0] w λ e w'=>e=.returned (.bool r)/\Drawn0 w w':=by
 have HR0:=Aside0.mk hr0;have HC0:=Aside0.mk hc0;clear hr0 hc0;have H:(if (l0.length:Int)=256 then (puncheonref05_Right.l0 k l0 0 0) else (some false))=some r:=h;clear h
 by_cases c2:(l0.length:Int)=256
 · rw[if_pos c2] at H;have c2b0:((l0.length:Int)==256)=true:=beq_iff_eq.mpr c2;have c2b1:((l0.length:Int)!=256)=false:=bne_eq_false_iff_eq.mpr c2;clear c2;have H':=Aside0.mk H;clear H;go_enter Tryz.func242,Tryz.ntmps242;go_wp2;go_loopg [3,4] k (λ kq v3 v4 w'=>∃ (x3_1:Int) (x4_1:Int),v3=.int .i64 x3_1/\v4=.int .i64 x4_1/\Aside0 (puncheonref05_Right.l0 kq l0 x3_1 x4_1=some r)/\Aside0 (kq<=k)/\Drawn0 w w')
   case atStart=>exact⟨(0),(0),(by first | rfl | (simp;done) | (simp[*];done)),(by first | rfl | (simp;done) | (simp[*];done)),H',⟨Nat.le_refl _⟩,by repeat (first | exact Drawn0.refl _ | apply Drawn0.step)⟩
   case round=>
    clear H'
    try clear c2
    try clear c2b0
    try clear c2b1
    try clear p2
    obtain⟨x3_1,x4_1,rfl,rfl,HA,HK1,⟨m1,rfl⟩⟩:=hrel
    cases gk with
    | zero=>exact absurd HA.out (by simp[puncheonref05_Right.l0])
    | succ k1=>
     have H:=HA.out;clear HA;simp only[puncheonref05_Right.l0] at H
     by_cases c3:x4_1<256
     · rw[if_pos c3] at H;have c3b0:decide (x4_1<256)=true:=decide_eq_true c3;clear c3
       by_cases c4:0<=x4_1
       · rw[if_pos c4] at H;have c4b0:decide (0<=x4_1)=true:=decide_eq_true c4;clear c4
         by_cases c5:x4_1<(l0.length:Int)
         · rw[if_pos c5] at H;have c5b0:decide (x4_1<(l0.length:Int))=true:=decide_eq_true c5;clear c5
           by_cases c6:(rd l0 x4_1)<0
           · rw[if_pos c6] at H;have c6b0:decide ((rd l0 x4_1)<0)=true:=decide_eq_true c6;clear c6;obtain rfl:=Option.some.inj H;have p116:0<=(x4_1:Int):=of_decide_eq_true (by first | (with_reducible assumption) | assumption);have q116:x4_1<(l0.length:Int):=of_decide_eq_true (by first | (with_reducible assumption) | assumption);obtain⟨ad116,e116,hx116_0⟩:=Kd.at_int HR0.out x4_1 p116 q116
             cases e116
             replace p116:=eq_true p116
             replace q116:=eq_true q116
             go_wp2;go_ret;exact⟨by first | rfl | (simp;done) | (simp[*];done),by repeat (first | exact Drawn0.refl _ | apply Drawn0.step)⟩
           · rw[if_neg c6] at H;have c6b0:decide ((rd l0 x4_1)<0)=false:=decide_eq_false c6;clear c6
             by_cases c7:(rd l0 x4_1)>1073741824
             · rw[if_pos c7] at H;have c7b0:decide (1073741824<(rd l0 x4_1))=true:=decide_eq_true c7;clear c7;obtain rfl:=Option.some.inj H;have p116:0<=(x4_1:Int):=of_decide_eq_true (by first | (with_reducible assumption) | assumption);have q116:x4_1<(l0.length:Int):=of_decide_eq_true (by first | (with_reducible assumption) | assumption);obtain⟨ad116,e116,hx116_0⟩:=Kd.at_int HR0.out x4_1 p116 q116
               cases e116
               replace p116:=eq_true p116
               replace q116:=eq_true q116
               have p117:0<=(x4_1:Int):=of_decide_eq_true (by first | (with_reducible assumption) | assumption);have q117:x4_1<(l0.length:Int):=of_decide_eq_true (by first | (with_reducible assumption) | assumption);obtain⟨ad117,e117,hx117_0⟩:=Kd.at_int HR0.out x4_1 p117 q117;obtain rfl:ad116=ad117:=(by injection e117)
               replace p117:=eq_true p117
               replace q117:=eq_true q117
               go_wp2;go_ret;exact⟨by first | rfl | (simp;done) | (simp[*];done),by repeat (first | exact Drawn0.refl _ | apply Drawn0.step)⟩
             · rw[if_neg c7] at H;have c7b0:decide (1073741824<(rd l0 x4_1))=false:=decide_eq_false c7;clear c7;have H':=Aside0.mk H;clear H;have p116:0<=(x4_1:Int):=of_decide_eq_true (by first | (with_reducible assumption) | assumption);have q116:x4_1<(l0.length:Int):=of_decide_eq_true (by first | (with_reducible assumption) | assumption);obtain⟨ad116,e116,hx116_0⟩:=Kd.at_int HR0.out x4_1 p116 q116
               cases e116
               replace p116:=eq_true p116
               replace q116:=eq_true q116
               have p117:0<=(x4_1:Int):=of_decide_eq_true (by first | (with_reducible assumption) | assumption);have q117:x4_1<(l0.length:Int):=of_decide_eq_true (by first | (with_reducible assumption) | assumption);obtain⟨ad117,e117,hx117_0⟩:=Kd.at_int HR0.out x4_1 p117 q117;obtain rfl:ad116=ad117:=(by injection e117)
               replace p117:=eq_true p117
               replace q117:=eq_true q117
               have p118:0<=(x4_1:Int):=of_decide_eq_true (by first | (with_reducible assumption) | assumption);have q118:x4_1<(l0.length:Int):=of_decide_eq_true (by first | (with_reducible assumption) | assumption);obtain⟨ad118,e118,hx118_0⟩:=Kd.at_int HR0.out x4_1 p118 q118;obtain rfl:ad116=ad118:=(by injection e118)
               replace p118:=eq_true p118
               replace q118:=eq_true q118
               go_wp2;go_roundg k1
               case measure=>have:=HK1.out;omega
               case rel=>exact⟨(wrap64 (x3_1+(rd l0 x4_1))),(wrap64 (x4_1+1)),(by first | rfl | (simp;done) | (simp[*];done)),(by first | rfl | (simp;done) | (simp[*];done)),H',⟨by have:=HK1.out;omega⟩,by repeat (first | exact Drawn0.refl _ | apply Drawn0.step)⟩
         · rw[if_neg c5] at H;exact absurd H (by simp)
       · rw[if_neg c4] at H;exact absurd H (by simp)
     · rw[if_neg c3] at H;have c3b0:decide (x4_1<256)=false:=decide_eq_false c3;clear c3;obtain rfl:=Option.some.inj H;go_wp2;go_ret;exact⟨by first | rfl | (simp;done) | (simp[*];done),by repeat (first | exact Drawn0.refl _ | apply Drawn0.step)⟩
 · rw[if_neg c2] at H;have c2b0:((l0.length:Int)==256)=false:=beq_eq_false_iff_ne.mpr c2;have c2b1:((l0.length:Int)!=256)=true:=bne_iff_ne.mpr c2;obtain rfl:=Option.some.inj H;go_enter Tryz.func242,Tryz.ntmps242;go_wp2;go_ret;exact⟨by first | rfl | (simp;done) | (simp[*];done),by repeat (first | exact Drawn0.refl _ | apply Drawn0.step)⟩
def puncheonref05_Total.l0:Nat->List Int->Int->Bool->Int->Option (Int)
 | 0,_,_,_,_=>none
 | k+1,x0,x3,x4,x5=>if x5<(x0.length:Int) then (if x4=true then (if 0<=x5 then (puncheonref05_Total.l0 k x0 (wrap64 (x3+(rd x0 x5))) x4 (wrap64 (x5+1))) else (none)) else (some x3)) else (some x3)
def puncheonref05_Total.f (k:Nat) (l0:List Int):Option (Int):=(puncheonref05_Right.f k l0).bind λ t119=>(puncheonref05_Total.l0 k l0 0 t119 0)
theorem puncheonref05_Total.mono_l:∀ k,(∀ y0 y1 y2 y3,LeO (puncheonref05_Total.l0 k y0 y1 y2 y3) (puncheonref05_Total.l0 (k+1) y0 y1 y2 y3))
 | 0=>λ _ _ _ _ r h=>by simp[puncheonref05_Total.l0] at h
 | k+1=>by
  have ih0:=puncheonref05_Total.mono_l k
  · intro y0 y1 y2 y3;unfold puncheonref05_Total.l0
    repeat' first
    | (with_reducible exact ih0 _ _ _ _)
    | (with_reducible exact puncheonref05_Right.mono _ _)
    | (with_reducible exact LeO.refl _)
    | (with_reducible exact LeO.none _)
    | (with_reducible refine LeO.ite ?_ ?_)
    | (with_reducible refine LeO.bind ?_ (λ _=>?_))
    | exact ih0 _ _ _ _
    | exact puncheonref05_Right.mono _ _
    | exact LeO.none _
    | refine LeO.ite ?_ ?_
    | refine LeO.bind ?_ (λ _=>?_)
theorem puncheonref05_Total.mono:∀ a0 k,LeO (puncheonref05_Total.f k a0) (puncheonref05_Total.f (k+1) a0):=by
 intro a0 k;have ih0:=puncheonref05_Total.mono_l k;unfold puncheonref05_Total.f
 repeat' first
     | (with_reducible exact ih0 _ _ _ _)
     | (with_reducible exact puncheonref05_Right.mono _ _)
     | (with_reducible exact LeO.refl _)
     | (with_reducible exact LeO.none _)
     | (with_reducible refine LeO.ite ?_ ?_)
     | (with_reducible refine LeO.bind ?_ (λ _=>?_))
     | exact ih0 _ _ _ _
     | exact puncheonref05_Right.mono _ _
     | exact LeO.none _
     | refine LeO.ite ?_ ?_
     | refine LeO.bind ?_ (λ _=>?_)
theorem puncheonref05_Total.calls (k:Nat) (A0:Option Addr) (c0:Nat) (l0:List Int) (r:Int) (w:World) (hr0:Kd.C (Kd.int .i64) w A0 l0.length l0) (hc0:l0.length<=c0) (h:puncheonref05_Total.f k l0=some r) :
    Calls Tryz.prog 218 #[.slice A0 l0.length c0] w λ e w'=>e=.returned (.int .i64 r)/\Drawn0 w w':=by
 have HR0:=Aside0.mk hr0;have HC0:=Aside0.mk hc0;clear hr0 hc0;have H:((puncheonref05_Right.f k l0).bind λ t119=>(puncheonref05_Total.l0 k l0 0 t119 0))=some r:=h;clear h
 replace H:=Option.bind_eq_some_iff.mp H
 obtain⟨t119,A20,H⟩:=H
 replace H:(puncheonref05_Total.l0 k l0 0 t119 0)=some r:=H
 have A2:=Aside0.mk A20;clear A20;have H':=Aside0.mk H;clear H;go_enter Tryz.func218,Tryz.ntmps218;go_wp2_with (first | ((with_reducible refine a1p (f:=242) rfl ?_);refine a1o (some 7) rfl rfl Tryz.func242 (by kernel_rfl) rfl #[.slice A0 l0.length c0] rfl (by (try simp only[List.map_toArray,List.map_cons,List.map_nil]);first | done | rfl | (simp only[List.length_drop,List.length_take];rfl)) ?_;(with_reducible refine(puncheonref05_Right.calls k _ _ l0 t119 _ ?side1 ?side2 A2.out).mono ?_);(case side1=>repeat (first | exact HR0.out | (with_reducible refine Kd.C_alloc ?_ _) | (with_reducible refine Kd.C_drewN ?_ _) | (with_reducible refine Kd.C_drew ?_)));(case side2=>exact HC0.out);rintro e w' ⟨rfl,⟨nd,rfl⟩⟩;refine⟨_,rfl,?_⟩));go_loopg [3,5] k (λ kq v3 v5 w'=>∃ (x3_1:Int) (x5_1:Int),v3=.int .i64 x3_1/\v5=.int .i64 x5_1/\Aside0 (puncheonref05_Total.l0 kq l0 x3_1 t119 x5_1=some r)/\Aside0 (kq<=k)/\Drawn0 w w')
 case atStart=>exact⟨(0),(0),(by first | rfl | (simp;done) | (simp[*];done)),(by first | rfl | (simp;done) | (simp[*];done)),H',⟨Nat.le_refl _⟩,by repeat (first | exact Drawn0.refl _ | apply Drawn0.step)⟩
 case round=>
  clear H'
  try clear c2
  try clear p2
  obtain⟨x3_1,x5_1,rfl,rfl,HA,HK1,⟨m1,rfl⟩⟩:=hrel
  cases gk with
  | zero=>exact absurd HA.out (by simp[puncheonref05_Total.l0])
  | succ k1=>
   have H:=HA.out;clear HA;simp only[puncheonref05_Total.l0] at H
   by_cases c3:x5_1<(l0.length:Int)
   · rw[if_pos c3] at H;have c3b0:decide (x5_1<(l0.length:Int))=true:=decide_eq_true c3;clear c3
     by_cases c4:t119=true
     · subst c4;have H1:(if 0<=x5_1 then (puncheonref05_Total.l0 k1 l0 (wrap64 (x3_1+(rd l0 x5_1))) true (wrap64 (x5_1+1))) else (none))=some r:=by rw[if_pos rfl] at H;exact H
       clear H;have H:=H1;clear H1
       by_cases c5:0<=x5_1
       · rw[if_pos c5] at H;have c5b0:decide (0<=x5_1)=true:=decide_eq_true c5;clear c5;have H':=Aside0.mk H;clear H;have p120:0<=(x5_1:Int):=of_decide_eq_true (by first | (with_reducible assumption) | assumption);have q120:x5_1<(l0.length:Int):=of_decide_eq_true (by first | (with_reducible assumption) | assumption);obtain⟨ad120,e120,hx120_0⟩:=Kd.at_int HR0.out x5_1 p120 q120
         cases e120
         replace p120:=eq_true p120
         replace q120:=eq_true q120
         go_wp2;go_roundg k1
         case measure=>have:=HK1.out;omega
         case rel=>exact⟨(wrap64 (x3_1+(rd l0 x5_1))),(wrap64 (x5_1+1)),(by first | rfl | (simp;done) | (simp[*];done)),(by first | rfl | (simp;done) | (simp[*];done)),H',⟨by have:=HK1.out;omega⟩,by repeat (first | exact Drawn0.refl _ | apply Drawn0.step)⟩
       · rw[if_neg c5] at H;exact absurd H (by simp)
     · replace c4:=Bool.eq_false_iff.mpr c4
       subst c4;have H1:(some x3_1)=some r:=by rw[if_neg (show ¬ (false=true) by decide)] at H;exact H
       clear H;have H:=H1;clear H1;obtain rfl:=Option.some.inj H;go_wp2;go_ret;exact⟨by first | rfl | (simp;done) | (simp[*];done),by repeat (first | exact Drawn0.refl _ | apply Drawn0.step)⟩
   · rw[if_neg c3] at H;have c3b0:decide (x5_1<(l0.length:Int))=false:=decide_eq_false c3;clear c3;obtain rfl:=Option.some.inj H;go_wp2;go_ret;exact⟨by first | rfl | (simp;done) | (simp[*];done),by repeat (first | exact Drawn0.refl _ | apply Drawn0.step)⟩
def puncheonref08_power.l0:Nat->Int->Int->Int->Option (Int)
 | 0,_,_,_=>none
 | k+1,x0,x3,x4=>if x4<x0 then (puncheonref08_power.l0 k x0 (wrap64 (2*x3)) (wrap64 (x4+1))) else (some x3)
def puncheonref08_power.f (k:Nat) (a0:Int):Option (Int):=puncheonref08_power.l0 k a0 1 0
theorem puncheonref08_power.mono_l:∀ k,(∀ y0 y1 y2,LeO (puncheonref08_power.l0 k y0 y1 y2) (puncheonref08_power.l0 (k+1) y0 y1 y2))
 | 0=>λ _ _ _ r h=>by simp[puncheonref08_power.l0] at h
 | k+1=>by
  have ih0:=puncheonref08_power.mono_l k
  · intro y0 y1 y2;unfold puncheonref08_power.l0
    repeat' first
    | (with_reducible exact ih0 _ _ _)
    | (with_reducible exact LeO.refl _)
    | (with_reducible exact LeO.none _)
    | (with_reducible refine LeO.ite ?_ ?_)
    | (with_reducible refine LeO.bind ?_ (λ _=>?_))
    | exact ih0 _ _ _
    | exact LeO.none _
    | refine LeO.ite ?_ ?_
    | refine LeO.bind ?_ (λ _=>?_)
theorem puncheonref08_power.mono:∀ a0 k,LeO (puncheonref08_power.f k a0) (puncheonref08_power.f (k+1) a0):=by
 intro a0 k;have ih0:=puncheonref08_power.mono_l k;unfold puncheonref08_power.f
 repeat' first
     | (with_reducible exact ih0 _ _ _)
     | (with_reducible exact LeO.refl _)
     | (with_reducible exact LeO.none _)
     | (with_reducible refine LeO.ite ?_ ?_)
     | (with_reducible refine LeO.bind ?_ (λ _=>?_))
     | exact ih0 _ _ _
     | exact LeO.none _
     | refine LeO.ite ?_ ?_
     | refine LeO.bind ?_ (λ _=>?_)
theorem puncheonref08_power.calls (k:Nat) (a0:Int) (r:Int) (w:World) (h:puncheonref08_power.f k a0=some r) :
    Calls Tryz.prog 219 #[.int .i64 a0] w λ e w'=>e=.returned (.int .i64 r)/\Drawn0 w w':=by
 have H:(puncheonref08_power.l0 k a0 1 0)=some r:=h;clear h;have H':=Aside0.mk H;clear H;go_enter Tryz.func219,Tryz.ntmps219;go_wp2;go_loopg [3,4] k (λ kq v3 v4 w'=>∃ (x3_1:Int) (x4_1:Int),v3=.int .i64 x3_1/\v4=.int .i64 x4_1/\Aside0 (puncheonref08_power.l0 kq a0 x3_1 x4_1=some r)/\Aside0 (kq<=k)/\Drawn0 w w')
 case atStart=>exact⟨(1),(0),(by first | rfl | (simp;done) | (simp[*];done)),(by first | rfl | (simp;done) | (simp[*];done)),H',⟨Nat.le_refl _⟩,by repeat (first | exact Drawn0.refl _ | apply Drawn0.step)⟩
 case round=>
  clear H';obtain⟨x3_1,x4_1,rfl,rfl,HA,HK1,⟨m1,rfl⟩⟩:=hrel
  cases gk with
  | zero=>exact absurd HA.out (by simp[puncheonref08_power.l0])
  | succ k1=>
   have H:=HA.out;clear HA;simp only[puncheonref08_power.l0] at H
   by_cases c2:x4_1<a0
   · rw[if_pos c2] at H;have c2b0:decide (x4_1<a0)=true:=decide_eq_true c2;clear c2;have H':=Aside0.mk H;clear H;go_wp2;go_roundg k1
     case measure=>have:=HK1.out;omega
     case rel=>exact⟨(wrap64 (2*x3_1)),(wrap64 (x4_1+1)),(by first | rfl | (simp;done) | (simp[*];done)),(by first | rfl | (simp;done) | (simp[*];done)),H',⟨by have:=HK1.out;omega⟩,by repeat (first | exact Drawn0.refl _ | apply Drawn0.step)⟩
   · rw[if_neg c2] at H;have c2b0:decide (x4_1<a0)=false:=decide_eq_false c2;clear c2;obtain rfl:=Option.some.inj H;go_wp2;go_ret;exact⟨by first | rfl | (simp;done) | (simp[*];done),by repeat (first | exact Drawn0.refl _ | apply Drawn0.step)⟩
end Go.Proofs.YtflfjpkmjnnodaaGreat.PRef
namespace Go.Proofs.YtflfjpkmjnnodaaGreat.PRef
open Go.RowKit Go.Proofs.YtflfjpkmjnnodaaGreatW.PrintWords Go.Proofs.YtflfjpkmjnnodaaGreatW.PrintLast Go.Proofs.YtflfjpkmjnnodaaGreatW.PrintMore
attribute [local go_sem] a2j a1Z a2k a2a a2A a2B a2C a2D   -- for this text's walks alone
set_option linter.unusedVariables false
set_option linter.unusedSimpArgs false
def puncheonref08_Log.l0:Nat->Int->Int->Option (Int)
 | 0,_,_=>none
 | k+1,x3,x4=>if x4<=12 then ((puncheonref08_power.f k x4).bind λ t122=>(if x3=t122 then (some x4) else (puncheonref08_Log.l0 k x3 (wrap64 (x4+1))))) else (some 0)
def puncheonref08_Log.f (k:Nat) (l0:List Int):Option (Int):=(puncheonref05_Total.f k l0).bind λ t121=>(puncheonref08_Log.l0 k t121 1)
theorem puncheonref08_Log.mono_l:∀ k,(∀ y0 y1,LeO (puncheonref08_Log.l0 k y0 y1) (puncheonref08_Log.l0 (k+1) y0 y1))
 | 0=>λ _ _ r h=>by simp[puncheonref08_Log.l0] at h
 | k+1=>by
  have ih0:=puncheonref08_Log.mono_l k
  · intro y0 y1;unfold puncheonref08_Log.l0
    repeat' first
    | (with_reducible exact ih0 _ _)
    | (with_reducible exact puncheonref05_Total.mono _ _)
    | (with_reducible exact puncheonref08_power.mono _ _)
    | (with_reducible exact LeO.refl _)
    | (with_reducible exact LeO.none _)
    | (with_reducible refine LeO.ite ?_ ?_)
    | (with_reducible refine LeO.bind ?_ (λ _=>?_))
    | exact ih0 _ _
    | exact puncheonref05_Total.mono _ _
    | exact puncheonref08_power.mono _ _
    | exact LeO.none _
    | refine LeO.ite ?_ ?_
    | refine LeO.bind ?_ (λ _=>?_)
theorem puncheonref08_Log.mono:∀ a0 k,LeO (puncheonref08_Log.f k a0) (puncheonref08_Log.f (k+1) a0):=by
 intro a0 k;have ih0:=puncheonref08_Log.mono_l k;unfold puncheonref08_Log.f
 repeat' first
     | (with_reducible exact ih0 _ _)
     | (with_reducible exact puncheonref05_Total.mono _ _)
     | (with_reducible exact puncheonref08_power.mono _ _)
     | (with_reducible exact LeO.refl _)
     | (with_reducible exact LeO.none _)
     | (with_reducible refine LeO.ite ?_ ?_)
     | (with_reducible refine LeO.bind ?_ (λ _=>?_))
     | exact ih0 _ _
     | exact puncheonref05_Total.mono _ _
     | exact puncheonref08_power.mono _ _
     | exact LeO.none _
     | refine LeO.ite ?_ ?_
     | refine LeO.bind ?_ (λ _=>?_)
theorem puncheonref08_Log.calls (k:Nat) (A0:Option Addr) (c0:Nat) (l0:List Int) (r:Int) (w:World) (hr0:Kd.C (Kd.int .i64) w A0 l0.length l0) (hc0:l0.length<=c0) (h:puncheonref08_Log.f k l0=some r) :
    Calls Tryz.prog 172 #[.slice A0 l0.length c0] w λ e w'=>e=.returned (.int .i64 r)/\Drawn0 w w':=by
 have HR0:=Aside0.mk hr0;have HC0:=Aside0.mk hc0;clear hr0 hc0;have H:((puncheonref05_Total.f k l0).bind λ t121=>(puncheonref08_Log.l0 k t121 1))=some r:=h;clear h
 replace H:=Option.bind_eq_some_iff.mp H
 obtain⟨t121,A20,H⟩:=H
 replace H:(puncheonref08_Log.l0 k t121 1)=some r:=H
 have A2:=Aside0.mk A20;clear A20;have H':=Aside0.mk H;clear H;go_enter Tryz.func172,Tryz.ntmps172;go_wp2_with (first | ((with_reducible refine a1p (f:=218) rfl ?_);refine a1o (some 6) rfl rfl Tryz.func218 (by kernel_rfl) rfl #[.slice A0 l0.length c0] rfl (by (try simp only[List.map_toArray,List.map_cons,List.map_nil]);first | done | rfl | (simp only[List.length_drop,List.length_take];rfl)) ?_;(with_reducible refine(puncheonref05_Total.calls k _ _ l0 t121 _ ?side1 ?side2 A2.out).mono ?_);(case side1=>repeat (first | exact HR0.out | (with_reducible refine Kd.C_alloc ?_ _) | (with_reducible refine Kd.C_drewN ?_ _) | (with_reducible refine Kd.C_drew ?_)));(case side2=>exact HC0.out);rintro e w' ⟨rfl,⟨nd,rfl⟩⟩;refine⟨_,rfl,?_⟩));go_loopg [4] k (λ kq v4 w'=>∃ (x4_1:Int),v4=.int .i64 x4_1/\Aside0 (puncheonref08_Log.l0 kq t121 x4_1=some r)/\Aside0 (kq<=k)/\Drawn0 w w')
 case atStart=>exact⟨(1),(by first | rfl | (simp;done) | (simp[*];done)),H',⟨Nat.le_refl _⟩,by repeat (first | exact Drawn0.refl _ | apply Drawn0.step)⟩
 case round=>
  clear H'
  try clear c1
  try clear c2
  try clear p2
  obtain⟨x4_1,rfl,HA,HK1,⟨m1,rfl⟩⟩:=hrel
  cases gk with
  | zero=>exact absurd HA.out (by simp[puncheonref08_Log.l0])
  | succ k1=>
   have H:=HA.out;clear HA;simp only[puncheonref08_Log.l0] at H
   by_cases c3:x4_1<=12
   · rw[if_pos c3] at H;have c3b0:decide (x4_1<=12)=true:=decide_eq_true c3;clear c3
     replace H:=Option.bind_eq_some_iff.mp H
     obtain⟨t122,A40,H⟩:=H
     replace H:(if t121=t122 then (some x4_1) else (puncheonref08_Log.l0 k1 t121 (wrap64 (x4_1+1))))=some r:=H
     have A4:=Aside0.mk A40;clear A40
     by_cases c5:t121=t122
     · rw[if_pos c5] at H;have c5b0:(t121==t122)=true:=beq_iff_eq.mpr c5;have c5b1:(t121 != t122)=false:=bne_eq_false_iff_eq.mpr c5;clear c5;obtain rfl:=Option.some.inj H;go_wp2_with (first | ((with_reducible refine a1p (f:=219) rfl ?_);refine a1o (some 13) rfl rfl Tryz.func219 (by kernel_rfl) rfl #[.int .i64 x4_1] rfl (by (try simp only[List.map_toArray,List.map_cons,List.map_nil]);first | done | rfl | (simp only[List.length_drop,List.length_take];rfl)) ?_;(with_reducible refine(puncheonref08_power.calls k1 x4_1 t122 _ A4.out).mono ?_);rintro e w' ⟨rfl,⟨nd,rfl⟩⟩;refine⟨_,rfl,?_⟩));go_ret;exact⟨by first | rfl | (simp;done) | (simp[*];done),by repeat (first | exact Drawn0.refl _ | apply Drawn0.step)⟩
     · rw[if_neg c5] at H;have c5b0:(t121==t122)=false:=beq_eq_false_iff_ne.mpr c5;have c5b1:(t121 != t122)=true:=bne_iff_ne.mpr c5;have H':=Aside0.mk H;clear H;go_wp2_with (first | ((with_reducible refine a1p (f:=219) rfl ?_);refine a1o (some 13) rfl rfl Tryz.func219 (by kernel_rfl) rfl #[.int .i64 x4_1] rfl (by (try simp only[List.map_toArray,List.map_cons,List.map_nil]);first | done | rfl | (simp only[List.length_drop,List.length_take];rfl)) ?_;(with_reducible refine(puncheonref08_power.calls k1 x4_1 t122 _ A4.out).mono ?_);rintro e w' ⟨rfl,⟨nd,rfl⟩⟩;refine⟨_,rfl,?_⟩));go_roundg k1
       case measure=>have:=HK1.out;omega
       case rel=>exact⟨(wrap64 (x4_1+1)),(by first | rfl | (simp;done) | (simp[*];done)),H',⟨by have:=HK1.out;omega⟩,by repeat (first | exact Drawn0.refl _ | apply Drawn0.step)⟩
   · rw[if_neg c3] at H;have c3b0:decide (x4_1<=12)=false:=decide_eq_false c3;clear c3;obtain rfl:=Option.some.inj H;go_wp2;go_ret;exact⟨by first | rfl | (simp;done) | (simp[*];done),by repeat (first | exact Drawn0.refl _ | apply Drawn0.step)⟩
def puncheonref10_less.l0:Nat->List Int->Int->Int->Int->Int->Int->Option (Int)
 | 0,_,_,_,_,_,_=>none
 | k+1,x0,x1,x2,x3,x9,x10=>if 0<=x1 then (if x1<(x0.length:Int) then (if x10<(wrap64 (2*(rd x0 x1))) then (if 0<=x2 then (if x2<(x0.length:Int) then (if (wrap64 (x10*(rd x0 x2)))<(wrap64 (x3*(rd x0 x1))) then (puncheonref10_less.l0 k x0 x1 x2 x3 (wrap64 (x9+1)) (wrap64 (x10+1))) else (if (wrap64 (x10*(rd x0 x2)))=(wrap64 (x3*(rd x0 x1))) then (if x1<x2 then (puncheonref10_less.l0 k x0 x1 x2 x3 (wrap64 (x9+1)) (wrap64 (x10+1))) else (puncheonref10_less.l0 k x0 x1 x2 x3 x9 (wrap64 (x10+1)))) else (puncheonref10_less.l0 k x0 x1 x2 x3 x9 (wrap64 (x10+1))))) else (none)) else (none)) else (some x9)) else (none)) else (none)
def puncheonref10_less.f (k:Nat) (l0:List Int) (a1:Int) (a2:Int) (a3:Int):Option (Int):=if 0<=a1 then (if a1<(l0.length:Int) then (puncheonref10_less.l0 k l0 a1 a2 a3 0 (rd l0 a1)) else (none)) else (none)
theorem puncheonref10_less.mono_l:∀ k,(∀ y0 y1 y2 y3 y4 y5,LeO (puncheonref10_less.l0 k y0 y1 y2 y3 y4 y5) (puncheonref10_less.l0 (k+1) y0 y1 y2 y3 y4 y5))
 | 0=>λ _ _ _ _ _ _ r h=>by simp[puncheonref10_less.l0] at h
 | k+1=>by
  have ih0:=puncheonref10_less.mono_l k
  · intro y0 y1 y2 y3 y4 y5;unfold puncheonref10_less.l0
    repeat' first
    | (with_reducible exact ih0 _ _ _ _ _ _)
    | (with_reducible exact LeO.refl _)
    | (with_reducible exact LeO.none _)
    | (with_reducible refine LeO.ite ?_ ?_)
    | (with_reducible refine LeO.bind ?_ (λ _=>?_))
    | exact ih0 _ _ _ _ _ _
    | exact LeO.none _
    | refine LeO.ite ?_ ?_
    | refine LeO.bind ?_ (λ _=>?_)
theorem puncheonref10_less.mono:∀ a0 a1 a2 a3 k,LeO (puncheonref10_less.f k a0 a1 a2 a3) (puncheonref10_less.f (k+1) a0 a1 a2 a3):=by
 intro a0 a1 a2 a3 k;have ih0:=puncheonref10_less.mono_l k;unfold puncheonref10_less.f
 repeat' first
     | (with_reducible exact ih0 _ _ _ _ _ _)
     | (with_reducible exact LeO.refl _)
     | (with_reducible exact LeO.none _)
     | (with_reducible refine LeO.ite ?_ ?_)
     | (with_reducible refine LeO.bind ?_ (λ _=>?_))
     | exact ih0 _ _ _ _ _ _
     | exact LeO.none _
     | refine LeO.ite ?_ ?_
     | refine LeO.bind ?_ (λ _=>?_)
theorem puncheonref10_less.calls (k:Nat) (A0:Option Addr) (c0:Nat) (l0:List Int) (a1:Int) (a2:Int) (a3:Int) (r:Int) (w:World) (hr0:Kd.C (Kd.int .i64) w A0 l0.length l0) (hc0:l0.length<=c0) (h:puncheonref10_less.f k l0 a1 a2 a3=some r) :
    Calls Tryz.prog 220 #[.slice A0 l0.length c0,.int .i64 a1,.int .i64 a2,.int .i64 a3] w λ e w'=>e=.returned (.int .i64 r)/\Drawn0 w w':=by
 have HR0:=Aside0.mk hr0;have HC0:=Aside0.mk hc0;clear hr0 hc0;have H:(if 0<=a1 then (if a1<(l0.length:Int) then (puncheonref10_less.l0 k l0 a1 a2 a3 0 (rd l0 a1)) else (none)) else (none))=some r:=h;clear h
 by_cases c5:0<=a1
 · rw[if_pos c5] at H;have c5b0:decide (0<=a1)=true:=decide_eq_true c5;clear c5
   by_cases c6:a1<(l0.length:Int)
   · rw[if_pos c6] at H;have c6b0:decide (a1<(l0.length:Int))=true:=decide_eq_true c6;clear c6;have H':=Aside0.mk H;clear H;have p123:0<=(a1:Int):=of_decide_eq_true (by first | (with_reducible assumption) | assumption);have q123:a1<(l0.length:Int):=of_decide_eq_true (by first | (with_reducible assumption) | assumption);obtain⟨ad123,e123,hx123_0⟩:=Kd.at_int HR0.out a1 p123 q123
     cases e123
     replace p123:=eq_true p123
     replace q123:=eq_true q123
     go_enter Tryz.func220,Tryz.ntmps220;go_wp2
     repeat (go_quiet (fail);try go_wp2)
     go_loopg [9,10] k (λ kq v9 v10 w'=>∃ (x9_1:Int) (x10_1:Int),v9=.int .i64 x9_1/\v10=.int .i64 x10_1/\Aside0 (puncheonref10_less.l0 kq l0 a1 a2 a3 x9_1 x10_1=some r)/\Aside0 (kq<=k)/\Drawn0 w w')
     case atStart=>exact⟨(0),(rd l0 a1),(by first | rfl | (simp;done) | (simp[*];done)),(by first | rfl | (simp;done) | (simp[*];done)),H',⟨Nat.le_refl _⟩,by repeat (first | exact Drawn0.refl _ | apply Drawn0.step)⟩
     case round=>
      clear H'
      try clear p1
      try clear q1
      try clear hx1
      try clear c2
      try clear p2
      try clear c5
      try clear c5b0
      try clear c6
      try clear c6b0
      try clear hx123_0
      try clear p123
      try clear q123
      obtain⟨x9_1,x10_1,rfl,rfl,HA,HK1,⟨m1,rfl⟩⟩:=hrel
      cases gk with
      | zero=>exact absurd HA.out (by simp[puncheonref10_less.l0])
      | succ k1=>
       have H:=HA.out;clear HA;simp only[puncheonref10_less.l0] at H
       by_cases c7:0<=a1
       · rw[if_pos c7] at H;have c7b0:decide (0<=a1)=true:=decide_eq_true c7;clear c7
         by_cases c8:a1<(l0.length:Int)
         · rw[if_pos c8] at H;have c8b0:decide (a1<(l0.length:Int))=true:=decide_eq_true c8;clear c8
           by_cases c9:x10_1<(wrap64 (2*(rd l0 a1)))
           · rw[if_pos c9] at H;have c9b0:decide (x10_1<(wrap64 (2*(rd l0 a1))))=true:=decide_eq_true c9;clear c9
             by_cases c10:0<=a2
             · rw[if_pos c10] at H;have c10b0:decide (0<=a2)=true:=decide_eq_true c10;clear c10
               by_cases c11:a2<(l0.length:Int)
               · rw[if_pos c11] at H;have c11b0:decide (a2<(l0.length:Int))=true:=decide_eq_true c11;clear c11
                 by_cases c12:(wrap64 (x10_1*(rd l0 a2)))<(wrap64 (a3*(rd l0 a1)))
                 · rw[if_pos c12] at H;have c12b0:decide ((wrap64 (x10_1*(rd l0 a2)))<(wrap64 (a3*(rd l0 a1))))=true:=decide_eq_true c12;clear c12;have H':=Aside0.mk H;clear H;have p124:0<=(a1:Int):=of_decide_eq_true (by first | (with_reducible assumption) | assumption);have q124:a1<(l0.length:Int):=of_decide_eq_true (by first | (with_reducible assumption) | assumption);obtain⟨ad124,e124,hx124_0⟩:=Kd.at_int HR0.out a1 p124 q124;obtain rfl:ad123=ad124:=(by injection e124)
                   replace p124:=eq_true p124
                   replace q124:=eq_true q124
                   have p125:0<=(a2:Int):=of_decide_eq_true (by first | (with_reducible assumption) | assumption);have q125:a2<(l0.length:Int):=of_decide_eq_true (by first | (with_reducible assumption) | assumption);obtain⟨ad125,e125,hx125_0⟩:=Kd.at_int HR0.out a2 p125 q125;obtain rfl:ad123=ad125:=(by injection e125)
                   replace p125:=eq_true p125
                   replace q125:=eq_true q125
                   have p126:0<=(a1:Int):=of_decide_eq_true (by first | (with_reducible assumption) | assumption);have q126:a1<(l0.length:Int):=of_decide_eq_true (by first | (with_reducible assumption) | assumption);obtain⟨ad126,e126,hx126_0⟩:=Kd.at_int HR0.out a1 p126 q126;obtain rfl:ad123=ad126:=(by injection e126)
                   replace p126:=eq_true p126
                   replace q126:=eq_true q126
                   go_wp2
                   repeat (go_quiet (fail);try go_wp2)
                   go_roundg k1
                   case measure=>have:=HK1.out;omega
                   case rel=>exact⟨(wrap64 (x9_1+1)),(wrap64 (x10_1+1)),(by first | rfl | (simp;done) | (simp[*];done)),(by first | rfl | (simp;done) | (simp[*];done)),H',⟨by have:=HK1.out;omega⟩,by repeat (first | exact Drawn0.refl _ | apply Drawn0.step)⟩
                 · rw[if_neg c12] at H;have c12b0:decide ((wrap64 (x10_1*(rd l0 a2)))<(wrap64 (a3*(rd l0 a1))))=false:=decide_eq_false c12;clear c12
                   by_cases c13:(wrap64 (x10_1*(rd l0 a2)))=(wrap64 (a3*(rd l0 a1)))
                   · rw[if_pos c13] at H;have c13b0:((wrap64 (x10_1*(rd l0 a2)))==(wrap64 (a3*(rd l0 a1))))=true:=beq_iff_eq.mpr c13;have c13b1:((wrap64 (x10_1*(rd l0 a2)))!=(wrap64 (a3*(rd l0 a1))))=false:=bne_eq_false_iff_eq.mpr c13;clear c13
                     by_cases c14:a1<a2
                     · rw[if_pos c14] at H;have c14b0:decide (a1<a2)=true:=decide_eq_true c14;clear c14;have H':=Aside0.mk H;clear H;have p124:0<=(a1:Int):=of_decide_eq_true (by first | (with_reducible assumption) | assumption);have q124:a1<(l0.length:Int):=of_decide_eq_true (by first | (with_reducible assumption) | assumption);obtain⟨ad124,e124,hx124_0⟩:=Kd.at_int HR0.out a1 p124 q124;obtain rfl:ad123=ad124:=(by injection e124)
                       replace p124:=eq_true p124
                       replace q124:=eq_true q124
                       have p125:0<=(a2:Int):=of_decide_eq_true (by first | (with_reducible assumption) | assumption);have q125:a2<(l0.length:Int):=of_decide_eq_true (by first | (with_reducible assumption) | assumption);obtain⟨ad125,e125,hx125_0⟩:=Kd.at_int HR0.out a2 p125 q125;obtain rfl:ad123=ad125:=(by injection e125)
                       replace p125:=eq_true p125
                       replace q125:=eq_true q125
                       have p126:0<=(a1:Int):=of_decide_eq_true (by first | (with_reducible assumption) | assumption);have q126:a1<(l0.length:Int):=of_decide_eq_true (by first | (with_reducible assumption) | assumption);obtain⟨ad126,e126,hx126_0⟩:=Kd.at_int HR0.out a1 p126 q126;obtain rfl:ad123=ad126:=(by injection e126)
                       replace p126:=eq_true p126
                       replace q126:=eq_true q126
                       have p127:0<=(a2:Int):=of_decide_eq_true (by first | (with_reducible assumption) | assumption);have q127:a2<(l0.length:Int):=of_decide_eq_true (by first | (with_reducible assumption) | assumption);obtain⟨ad127,e127,hx127_0⟩:=Kd.at_int HR0.out a2 p127 q127;obtain rfl:ad123=ad127:=(by injection e127)
                       replace p127:=eq_true p127
                       replace q127:=eq_true q127
                       have p128:0<=(a1:Int):=of_decide_eq_true (by first | (with_reducible assumption) | assumption);have q128:a1<(l0.length:Int):=of_decide_eq_true (by first | (with_reducible assumption) | assumption);obtain⟨ad128,e128,hx128_0⟩:=Kd.at_int HR0.out a1 p128 q128;obtain rfl:ad123=ad128:=(by injection e128)
                       replace p128:=eq_true p128
                       replace q128:=eq_true q128
                       go_wp2
                       repeat (go_quiet (fail);try go_wp2)
                       go_roundg k1
                       case measure=>have:=HK1.out;omega
                       case rel=>exact⟨(wrap64 (x9_1+1)),(wrap64 (x10_1+1)),(by first | rfl | (simp;done) | (simp[*];done)),(by first | rfl | (simp;done) | (simp[*];done)),H',⟨by have:=HK1.out;omega⟩,by repeat (first | exact Drawn0.refl _ | apply Drawn0.step)⟩
                     · rw[if_neg c14] at H;have c14b0:decide (a1<a2)=false:=decide_eq_false c14;clear c14;have H':=Aside0.mk H;clear H;have p124:0<=(a1:Int):=of_decide_eq_true (by first | (with_reducible assumption) | assumption);have q124:a1<(l0.length:Int):=of_decide_eq_true (by first | (with_reducible assumption) | assumption);obtain⟨ad124,e124,hx124_0⟩:=Kd.at_int HR0.out a1 p124 q124;obtain rfl:ad123=ad124:=(by injection e124)
                       replace p124:=eq_true p124
                       replace q124:=eq_true q124
                       have p125:0<=(a2:Int):=of_decide_eq_true (by first | (with_reducible assumption) | assumption);have q125:a2<(l0.length:Int):=of_decide_eq_true (by first | (with_reducible assumption) | assumption);obtain⟨ad125,e125,hx125_0⟩:=Kd.at_int HR0.out a2 p125 q125;obtain rfl:ad123=ad125:=(by injection e125)
                       replace p125:=eq_true p125
                       replace q125:=eq_true q125
                       have p126:0<=(a1:Int):=of_decide_eq_true (by first | (with_reducible assumption) | assumption);have q126:a1<(l0.length:Int):=of_decide_eq_true (by first | (with_reducible assumption) | assumption);obtain⟨ad126,e126,hx126_0⟩:=Kd.at_int HR0.out a1 p126 q126;obtain rfl:ad123=ad126:=(by injection e126)
                       replace p126:=eq_true p126
                       replace q126:=eq_true q126
                       have p127:0<=(a2:Int):=of_decide_eq_true (by first | (with_reducible assumption) | assumption);have q127:a2<(l0.length:Int):=of_decide_eq_true (by first | (with_reducible assumption) | assumption);obtain⟨ad127,e127,hx127_0⟩:=Kd.at_int HR0.out a2 p127 q127;obtain rfl:ad123=ad127:=(by injection e127)
                       replace p127:=eq_true p127
                       replace q127:=eq_true q127
                       have p128:0<=(a1:Int):=of_decide_eq_true (by first | (with_reducible assumption) | assumption);have q128:a1<(l0.length:Int):=of_decide_eq_true (by first | (with_reducible assumption) | assumption);obtain⟨ad128,e128,hx128_0⟩:=Kd.at_int HR0.out a1 p128 q128;obtain rfl:ad123=ad128:=(by injection e128)
                       replace p128:=eq_true p128
                       replace q128:=eq_true q128
                       go_wp2
                       repeat (go_quiet (fail);try go_wp2)
                       go_roundg k1
                       case measure=>have:=HK1.out;omega
                       case rel=>exact⟨(x9_1),(wrap64 (x10_1+1)),(by first | rfl | (simp;done) | (simp[*];done)),(by first | rfl | (simp;done) | (simp[*];done)),H',⟨by have:=HK1.out;omega⟩,by repeat (first | exact Drawn0.refl _ | apply Drawn0.step)⟩
                   · rw[if_neg c13] at H;have c13b0:((wrap64 (x10_1*(rd l0 a2)))==(wrap64 (a3*(rd l0 a1))))=false:=beq_eq_false_iff_ne.mpr c13;have c13b1:((wrap64 (x10_1*(rd l0 a2)))!=(wrap64 (a3*(rd l0 a1))))=true:=bne_iff_ne.mpr c13;have H':=Aside0.mk H;clear H;have p124:0<=(a1:Int):=of_decide_eq_true (by first | (with_reducible assumption) | assumption);have q124:a1<(l0.length:Int):=of_decide_eq_true (by first | (with_reducible assumption) | assumption);obtain⟨ad124,e124,hx124_0⟩:=Kd.at_int HR0.out a1 p124 q124;obtain rfl:ad123=ad124:=(by injection e124)
                     replace p124:=eq_true p124
                     replace q124:=eq_true q124
                     have p125:0<=(a2:Int):=of_decide_eq_true (by first | (with_reducible assumption) | assumption);have q125:a2<(l0.length:Int):=of_decide_eq_true (by first | (with_reducible assumption) | assumption);obtain⟨ad125,e125,hx125_0⟩:=Kd.at_int HR0.out a2 p125 q125;obtain rfl:ad123=ad125:=(by injection e125)
                     replace p125:=eq_true p125
                     replace q125:=eq_true q125
                     have p126:0<=(a1:Int):=of_decide_eq_true (by first | (with_reducible assumption) | assumption);have q126:a1<(l0.length:Int):=of_decide_eq_true (by first | (with_reducible assumption) | assumption);obtain⟨ad126,e126,hx126_0⟩:=Kd.at_int HR0.out a1 p126 q126;obtain rfl:ad123=ad126:=(by injection e126)
                     replace p126:=eq_true p126
                     replace q126:=eq_true q126
                     have p127:0<=(a2:Int):=of_decide_eq_true (by first | (with_reducible assumption) | assumption);have q127:a2<(l0.length:Int):=of_decide_eq_true (by first | (with_reducible assumption) | assumption);obtain⟨ad127,e127,hx127_0⟩:=Kd.at_int HR0.out a2 p127 q127;obtain rfl:ad123=ad127:=(by injection e127)
                     replace p127:=eq_true p127
                     replace q127:=eq_true q127
                     have p128:0<=(a1:Int):=of_decide_eq_true (by first | (with_reducible assumption) | assumption);have q128:a1<(l0.length:Int):=of_decide_eq_true (by first | (with_reducible assumption) | assumption);obtain⟨ad128,e128,hx128_0⟩:=Kd.at_int HR0.out a1 p128 q128;obtain rfl:ad123=ad128:=(by injection e128)
                     replace p128:=eq_true p128
                     replace q128:=eq_true q128
                     go_wp2
                     repeat (go_quiet (fail);try go_wp2)
                     go_roundg k1
                     case measure=>have:=HK1.out;omega
                     case rel=>exact⟨(x9_1),(wrap64 (x10_1+1)),(by first | rfl | (simp;done) | (simp[*];done)),(by first | rfl | (simp;done) | (simp[*];done)),H',⟨by have:=HK1.out;omega⟩,by repeat (first | exact Drawn0.refl _ | apply Drawn0.step)⟩
               · rw[if_neg c11] at H;exact absurd H (by simp)
             · rw[if_neg c10] at H;exact absurd H (by simp)
           · rw[if_neg c9] at H;have c9b0:decide (x10_1<(wrap64 (2*(rd l0 a1))))=false:=decide_eq_false c9;clear c9;obtain rfl:=Option.some.inj H;have p124:0<=(a1:Int):=of_decide_eq_true (by first | (with_reducible assumption) | assumption);have q124:a1<(l0.length:Int):=of_decide_eq_true (by first | (with_reducible assumption) | assumption);obtain⟨ad124,e124,hx124_0⟩:=Kd.at_int HR0.out a1 p124 q124;obtain rfl:ad123=ad124:=(by injection e124)
             replace p124:=eq_true p124
             replace q124:=eq_true q124
             go_wp2
             repeat (go_quiet (fail);try go_wp2)
             go_ret;exact⟨by first | rfl | (simp;done) | (simp[*];done),by repeat (first | exact Drawn0.refl _ | apply Drawn0.step)⟩
         · rw[if_neg c8] at H;exact absurd H (by simp)
       · rw[if_neg c7] at H;exact absurd H (by simp)
   · rw[if_neg c6] at H;exact absurd H (by simp)
 · rw[if_neg c5] at H;exact absurd H (by simp)
def puncheonref10_Place.l0:Nat->List Int->Int->Int->Int->Int->Option (Int)
 | 0,_,_,_,_,_=>none
 | k+1,x0,x1,x2,x7,x8=>if x8<(x0.length:Int) then ((puncheonref10_less.f k x0 x8 x1 x2).bind λ t129=>(puncheonref10_Place.l0 k x0 x1 x2 (wrap64 (x7+t129)) (wrap64 (x8+1)))) else (some x7)
def puncheonref10_Place.f (k:Nat) (l0:List Int) (a1:Int) (a2:Int):Option (Int):=puncheonref10_Place.l0 k l0 a1 a2 0 0
theorem puncheonref10_Place.mono_l:∀ k,(∀ y0 y1 y2 y3 y4,LeO (puncheonref10_Place.l0 k y0 y1 y2 y3 y4) (puncheonref10_Place.l0 (k+1) y0 y1 y2 y3 y4))
 | 0=>λ _ _ _ _ _ r h=>by simp[puncheonref10_Place.l0] at h
 | k+1=>by
  have ih0:=puncheonref10_Place.mono_l k
  · intro y0 y1 y2 y3 y4;unfold puncheonref10_Place.l0
    repeat' first
    | (with_reducible exact ih0 _ _ _ _ _)
    | (with_reducible exact puncheonref10_less.mono _ _ _ _ _)
    | (with_reducible exact LeO.refl _)
    | (with_reducible exact LeO.none _)
    | (with_reducible refine LeO.ite ?_ ?_)
    | (with_reducible refine LeO.bind ?_ (λ _=>?_))
    | exact ih0 _ _ _ _ _
    | exact puncheonref10_less.mono _ _ _ _ _
    | exact LeO.none _
    | refine LeO.ite ?_ ?_
    | refine LeO.bind ?_ (λ _=>?_)
theorem puncheonref10_Place.mono:∀ a0 a1 a2 k,LeO (puncheonref10_Place.f k a0 a1 a2) (puncheonref10_Place.f (k+1) a0 a1 a2):=by
 intro a0 a1 a2 k;have ih0:=puncheonref10_Place.mono_l k;unfold puncheonref10_Place.f
 repeat' first
     | (with_reducible exact ih0 _ _ _ _ _)
     | (with_reducible exact puncheonref10_less.mono _ _ _ _ _)
     | (with_reducible exact LeO.refl _)
     | (with_reducible exact LeO.none _)
     | (with_reducible refine LeO.ite ?_ ?_)
     | (with_reducible refine LeO.bind ?_ (λ _=>?_))
     | exact ih0 _ _ _ _ _
     | exact puncheonref10_less.mono _ _ _ _ _
     | exact LeO.none _
     | refine LeO.ite ?_ ?_
     | refine LeO.bind ?_ (λ _=>?_)
theorem puncheonref10_Place.calls (k:Nat) (A0:Option Addr) (c0:Nat) (l0:List Int) (a1:Int) (a2:Int) (r:Int) (w:World) (hr0:Kd.C (Kd.int .i64) w A0 l0.length l0) (hc0:l0.length<=c0) (h:puncheonref10_Place.f k l0 a1 a2=some r) :
    Calls Tryz.prog 175 #[.slice A0 l0.length c0,.int .i64 a1,.int .i64 a2] w λ e w'=>e=.returned (.int .i64 r)/\Drawn0 w w':=by
 have HR0:=Aside0.mk hr0;have HC0:=Aside0.mk hc0;clear hr0 hc0;have H:(puncheonref10_Place.l0 k l0 a1 a2 0 0)=some r:=h;clear h;have H':=Aside0.mk H;clear H;go_enter Tryz.func175,Tryz.ntmps175;go_wp2;go_loopg [7,8] k (λ kq v7 v8 w'=>∃ (x7_1:Int) (x8_1:Int),v7=.int .i64 x7_1/\v8=.int .i64 x8_1/\Aside0 (puncheonref10_Place.l0 kq l0 a1 a2 x7_1 x8_1=some r)/\Aside0 (kq<=k)/\Drawn0 w w')
 case atStart=>exact⟨(0),(0),(by first | rfl | (simp;done) | (simp[*];done)),(by first | rfl | (simp;done) | (simp[*];done)),H',⟨Nat.le_refl _⟩,by repeat (first | exact Drawn0.refl _ | apply Drawn0.step)⟩
 case round=>
  clear H'
  try clear c1
  try clear p2
  obtain⟨x7_1,x8_1,rfl,rfl,HA,HK1,⟨m1,rfl⟩⟩:=hrel
  cases gk with
  | zero=>exact absurd HA.out (by simp[puncheonref10_Place.l0])
  | succ k1=>
   have H:=HA.out;clear HA;simp only[puncheonref10_Place.l0] at H
   by_cases c4:x8_1<(l0.length:Int)
   · rw[if_pos c4] at H;have c4b0:decide (x8_1<(l0.length:Int))=true:=decide_eq_true c4;clear c4
     replace H:=Option.bind_eq_some_iff.mp H
     obtain⟨t129,A50,H⟩:=H
     replace H:(puncheonref10_Place.l0 k1 l0 a1 a2 (wrap64 (x7_1+t129)) (wrap64 (x8_1+1)))=some r:=H
     have A5:=Aside0.mk A50;clear A50;have H':=Aside0.mk H;clear H;go_wp2_with (first | ((with_reducible refine a1p (f:=220) rfl ?_);refine a1o (some 20) rfl rfl Tryz.func220 (by kernel_rfl) rfl #[.slice A0 l0.length c0,.int .i64 x8_1,.int .i64 a1,.int .i64 a2] rfl (by (try simp only[List.map_toArray,List.map_cons,List.map_nil]);first | done | rfl | (simp only[List.length_drop,List.length_take];rfl)) ?_;(with_reducible refine(puncheonref10_less.calls k1 _ _ l0 x8_1 a1 a2 t129 _ ?side1 ?side2 A5.out).mono ?_);(case side1=>repeat (first | exact HR0.out | (with_reducible refine Kd.C_alloc ?_ _) | (with_reducible refine Kd.C_drewN ?_ _) | (with_reducible refine Kd.C_drew ?_)));(case side2=>exact HC0.out);rintro e w' ⟨rfl,⟨nd,rfl⟩⟩;refine⟨_,rfl,?_⟩));go_roundg k1
     case measure=>have:=HK1.out;omega
     case rel=>exact⟨(wrap64 (x7_1+t129)),(wrap64 (x8_1+1)),(by first | rfl | (simp;done) | (simp[*];done)),(by first | rfl | (simp;done) | (simp[*];done)),H',⟨by have:=HK1.out;omega⟩,by repeat (first | exact Drawn0.refl _ | apply Drawn0.step)⟩
   · rw[if_neg c4] at H;have c4b0:decide (x8_1<(l0.length:Int))=false:=decide_eq_false c4;clear c4;obtain rfl:=Option.some.inj H;go_wp2;go_ret;exact⟨by first | rfl | (simp;done) | (simp[*];done),by repeat (first | exact Drawn0.refl _ | apply Drawn0.step)⟩
end Go.Proofs.YtflfjpkmjnnodaaGreat.PRef
namespace Go.Proofs.YtflfjpkmjnnodaaGreat.PRef
open Go.RowKit Go.Proofs.YtflfjpkmjnnodaaGreatW.PrintWords Go.Proofs.YtflfjpkmjnnodaaGreatW.PrintLast Go.Proofs.YtflfjpkmjnnodaaGreatW.PrintMore
attribute [local go_sem] a2j a1Z a2k a2a a2A a2B a2C a2D   -- for this text's walks alone
set_option linter.unusedVariables false
set_option linter.unusedSimpArgs false
def puncheonref01_Bytes.l0:Nat->List Bool->List Int->Int->Option (List Int)
 | 0,_,_,_=>none
 | k+1,x0,x3,x4=>if x4<(x0.length:Int) then (if 0<=x4 then (if rdOf false x0 x4=true then (if 0<=(wrap64 (Int.tdiv x4 8)) then (if (wrap64 (Int.tdiv x4 8))<(x3.length:Int) then (if 0<=(Int.tmod x4 8) then (puncheonref01_Bytes.l0 k x0 (x3.set ((wrap64 (Int.tdiv x4 8)):Int).toNat (((rd x3 (wrap64 (Int.tdiv x4 8)))+(shl .u8 1 (Int.tmod x4 8)))%256)) (wrap64 (x4+1))) else (none)) else (none)) else (none)) else (puncheonref01_Bytes.l0 k x0 x3 (wrap64 (x4+1)))) else (none)) else (some x3)
def puncheonref01_Bytes.f (k:Nat) (l0:List Bool):Option (List Int):=if 0<=(wrap64 (Int.tdiv (wrap64 ((l0.length:Int)+7)) 8)) then (if (wrap64 (Int.tdiv (wrap64 ((l0.length:Int)+7)) 8):Int).toNat<=281474976710656 then (puncheonref01_Bytes.l0 k l0 (List.replicate (wrap64 (Int.tdiv (wrap64 ((l0.length:Int)+7)) 8):Int).toNat 0) 0) else (none)) else (none)
def puncheonref01_Bytes.T6:Bool×List (List Nat×List Nat):=(true,[([],[]),([],[]),([1],[1]),([],[]),([],[]),([4],[4]),([3,5],[3,5]),([6],[6]),([],[]),([8],[8]),([9],[9]),([7,10],[7,10]),([0,2,0,1,2,3,4,5,6,7,8,9,10,11],[0,2]),([12,11,0,1,2,3,4,5,6,7,8,9,10,11],[11,12])])
def puncheonref01_Bytes.B6:List Nat:=[0,0,2,0,0,16,56,120,0,256,768,2040,4095,8191]
theorem puncheonref01_Bytes.tab6:rtab .any (opsOf Tryz.f114 6)=puncheonref01_Bytes.T6:=by kernel_rfl
theorem puncheonref01_Bytes.bits6:a2E puncheonref01_Bytes.T6.2 puncheonref01_Bytes.B6=true:=by kernel_rfl
theorem puncheonref01_Bytes.calls (k:Nat) (A0:Option Addr) (c0:Nat) (l0:List Bool) (r:List Int) (w:World) (hr0:Kd.C Kd.bool w A0 l0.length l0) (hc0:l0.length<=c0) (h:puncheonref01_Bytes.f k l0=some r) :
    Calls Tryz.prog 114 #[.slice A0 l0.length c0] w λ e w'=>∃ v0_:Value,e=.returned (v0_)/\Kd.R (Kd.int .u8) 5 w' w.heap.size (λ _=>True) v0_ r/\Below w.heap.size w w':=by
 have HR0:=Aside0.mk hr0;have HC0:=Aside0.mk hc0;clear hr0 hc0;have HB:=Aside0.mk (Below.refl w.heap.size w);have H:(if 0<=(wrap64 (Int.tdiv (wrap64 ((l0.length:Int)+7)) 8)) then (if (wrap64 (Int.tdiv (wrap64 ((l0.length:Int)+7)) 8):Int).toNat<=281474976710656 then (puncheonref01_Bytes.l0 k l0 (List.replicate (wrap64 (Int.tdiv (wrap64 ((l0.length:Int)+7)) 8):Int).toNat 0) 0) else (none)) else (none))=some r:=h;clear h;obtain⟨ji2,hji2⟩:∃ j_:Int,(wrap64 (Int.tdiv (wrap64 ((l0.length:Int)+7)) 8))=j_:=⟨_,rfl⟩
 replace H:(if 0<=(ji2) then (if (ji2:Int).toNat<=281474976710656 then (puncheonref01_Bytes.l0 k l0 (List.replicate (ji2:Int).toNat 0) 0) else (none)) else (none))=some r:=by first | (rw[hji2] at H;exact H) | (simp only[hji2] at H ⊢;exact H)
 have hji2w:(IntKind.i64.wrap (Int.tdiv (wrap64 ((l0.length:Int)+7)) 8))=ji2:=(i64_w _).trans hji2
 by_cases c3:0<=(ji2)
 · rw[if_pos c3] at H;have c3b0:=eq_true c3;have c3b1:decide (0<=(ji2))=true:=decide_eq_true c3;clear c3
   by_cases c4:(ji2:Int).toNat<=281474976710656
   · rw[if_pos c4] at H;have c4b0:=eq_true c4;have c4b1:decide ((ji2:Int).toNat<=281474976710656)=true:=decide_eq_true c4;clear c4;obtain⟨y143,hy143⟩:∃ y_:List Int,y_=(List.replicate (ji2:Int).toNat 0):=⟨_,rfl⟩
     replace H:(puncheonref01_Bytes.l0 k l0 y143 0)=some r:=by first | (rw[hy143];with_reducible exact H) | (have H2_:=(Option.bind_some _ _).symm.trans H;rw[hy143];with_reducible exact H2_) | (have H2_:=(Option.bind_some _ _).symm.trans H;with_reducible exact H2_) | with_reducible exact H | (rw[hy143];exact H) | exact H
     have Ny143:=Aside0.mk hy143;clear hy143;have H':=Aside0.mk H;clear H;go_enter Tryz.func114,Tryz.ntmps114;go_wp2_with (first | ((with_reducible refine a1L (N:=9) rfl ?_);refine Kd.R_make (Kd.int .u8) _ 5 rfl (N:=9) rfl 22 _ _ rfl ji2 rfl rfl Tryz.underlying22 (.int .u8 0) 1 info5 rfl (by decide) (by omega) 0 (ok:=λ _=>True) (okp:=λ _=>True) rfl (λ _ hk=>hk) trivial (of_decide_eq_true (by first | (with_reducible assumption) | assumption)) (Nat.le_trans (Nat.mul_le_mul_right _ (of_decide_eq_true (by first | (with_reducible assumption) | assumption):ji2.toNat<=281474976710656)) (by omega)) (Below.refl _ _) (Nat.le_refl _) ?_;intro v144 w5 ho6 hb hg_ hnew_;clear hg_ hnew_;(first | rw[<- Ny143.out] at ho6 | (simp only[Int.reduceToNat] at ho6;rw[<- Ny143.out] at ho6));have n0_:=Aside0.mk (Kd.R_lower ho6 (a0Q (by repeat (first | (with_reducible first | exact HB.out | apply a0c | apply a0b | apply a0d) | exact HB.out))));have n1_:=Aside0.mk (a1n (by repeat (first | (with_reducible first | exact HB.out | apply a0c | apply a0b | apply a0d) | exact HB.out)) hb);clear HB;have HO145:=n0_;have HB:=n1_;clear n0_ n1_;clear hb ho6));go_loopg [4] k (λ kq v4 w'=>∃ (x3_1:List Int) (x4_1:Int),v4=.int .i64 x4_1/\Aside0 (puncheonref01_Bytes.l0 kq l0 x3_1 x4_1=some r)/\Aside0 (kq<=k)/\Aside0 (Kd.R (Kd.int .u8) 5 w' w.heap.size (λ _=>True) v144 x3_1)/\Aside0 (Below w.heap.size w w'))
     case atStart=>exact⟨(y143),(0),(by first | rfl | (simp;done) | (simp[*];done)),H',⟨Nat.le_refl _⟩,⟨by (with_reducible repeat (first | apply Kd.R_alloc | apply Kd.R_drewN | apply Kd.R_drew));exact HO145.out⟩,⟨by repeat (first | (with_reducible first | exact HB.out | apply a0c | apply a0b | apply a0d) | exact HB.out)⟩⟩
     case round=>
      clear H'
      try clear c1
      try clear p2
      try clear c3
      try clear c3b0
      try clear c3b1
      try clear c4
      try clear c4b0
      try clear c4b1
      try clear p6
      obtain⟨x3_1,x4_1,rfl,HA,HK1,HO_3,HB⟩:=hrel
      cases gk with
      | zero=>exact absurd HA.out (by simp[puncheonref01_Bytes.l0])
      | succ k1=>
       have H:=HA.out;clear HA;simp only[puncheonref01_Bytes.l0] at H
       by_cases c7:x4_1<(l0.length:Int)
       · rw[if_pos c7] at H;have c7b0:decide (x4_1<(l0.length:Int))=true:=decide_eq_true c7;clear c7
         by_cases c8:0<=x4_1
         · rw[if_pos c8] at H;have c8b0:decide (0<=x4_1)=true:=decide_eq_true c8;clear c8;obtain⟨bq9,hbq9⟩:∃ b_:Bool,b_=(rdOf false l0 x4_1):=⟨_,rfl⟩
           replace H:(if bq9=true then (if 0<=(wrap64 (Int.tdiv x4_1 8)) then (if (wrap64 (Int.tdiv x4_1 8))<(x3_1.length:Int) then (if 0<=(Int.tmod x4_1 8) then (puncheonref01_Bytes.l0 k1 l0 (x3_1.set ((wrap64 (Int.tdiv x4_1 8)):Int).toNat (((rd x3_1 (wrap64 (Int.tdiv x4_1 8)))+(shl .u8 1 (Int.tmod x4_1 8)))%256)) (wrap64 (x4_1+1))) else (none)) else (none)) else (none)) else (puncheonref01_Bytes.l0 k1 l0 x3_1 (wrap64 (x4_1+1))))=some r:=by rw[<- hbq9] at H;exact H
           have Nbq9:=Aside0.mk hbq9;clear hbq9
           by_cases c10:bq9=true
           · subst c10;have H1:(if 0<=(wrap64 (Int.tdiv x4_1 8)) then (if (wrap64 (Int.tdiv x4_1 8))<(x3_1.length:Int) then (if 0<=(Int.tmod x4_1 8) then (puncheonref01_Bytes.l0 k1 l0 (x3_1.set ((wrap64 (Int.tdiv x4_1 8)):Int).toNat (((rd x3_1 (wrap64 (Int.tdiv x4_1 8)))+(shl .u8 1 (Int.tmod x4_1 8)))%256)) (wrap64 (x4_1+1))) else (none)) else (none)) else (none))=some r:=by rw[if_pos rfl] at H;exact H
             clear H;have H:=H1;clear H1;obtain⟨ji11,hji11⟩:∃ j_:Int,(wrap64 (Int.tdiv x4_1 8))=j_:=⟨_,rfl⟩
             replace H:(if 0<=(ji11) then (if (ji11)<(x3_1.length:Int) then (if 0<=(Int.tmod x4_1 8) then (puncheonref01_Bytes.l0 k1 l0 (x3_1.set ((ji11):Int).toNat (((rd x3_1 (ji11))+(shl .u8 1 (Int.tmod x4_1 8)))%256)) (wrap64 (x4_1+1))) else (none)) else (none)) else (none))=some r:=by first | (rw[hji11] at H;exact H) | (simp only[hji11] at H ⊢;exact H)
             have hji11w:(IntKind.i64.wrap (Int.tdiv x4_1 8))=ji11:=(i64_w _).trans hji11
             by_cases c12:0<=(ji11)
             · rw[if_pos c12] at H;have c12b0:decide (0<=(ji11))=true:=decide_eq_true c12;clear c12
               by_cases c13:(ji11)<(x3_1.length:Int)
               · rw[if_pos c13] at H;have c13b0:decide ((ji11)<(x3_1.length:Int))=true:=decide_eq_true c13;clear c13;obtain⟨ji14,hji14⟩:∃ j_:Int,(Int.tmod x4_1 8)=j_:=⟨_,rfl⟩
                 replace H:(if 0<=(ji14) then (puncheonref01_Bytes.l0 k1 l0 (x3_1.set ((ji11):Int).toNat (((rd x3_1 (ji11))+(shl .u8 1 (ji14)))%256)) (wrap64 (x4_1+1))) else (none))=some r:=by first | (rw[hji14] at H;exact H) | (simp only[hji14] at H ⊢;exact H)
                 by_cases c15:0<=(ji14)
                 · rw[if_pos c15] at H;have c15b0:=eq_true c15;have c15b1:decide (0<=(ji14))=true:=decide_eq_true c15;clear c15;obtain⟨ji16,hji16⟩:∃ j_:Int,(shl .u8 1 (ji14))=j_:=⟨_,rfl⟩
                   replace H:(puncheonref01_Bytes.l0 k1 l0 (x3_1.set ((ji11):Int).toNat (((rd x3_1 (ji11))+(ji16))%256)) (wrap64 (x4_1+1)))=some r:=by first | (rw[hji16] at H;exact H) | (simp only[hji16] at H ⊢;exact H)
                   have hji16_:(IntKind.u8.wrap (1*2^min (ji14).toNat 8))=ji16:=hji16;have hji16z:(ji14)<=8->(IntKind.u8.wrap (1*2^(ji14).toNat))=ji16:=a5u hji16;have hji16u:(IntKind.u8.wrap (2^min (ji14).toNat 8))=ji16:=by have h_:=hji16_;rw[Int.one_mul] at h_;exact h_
                   have hji16v:(ji14)<=8->(IntKind.u8.wrap (2^(ji14).toNat))=ji16:=λ hle_=>by have h_:=hji16z hle_;rw[Int.one_mul] at h_;exact h_
                   obtain⟨y148,hy148⟩:∃ y_:List Int,y_=(x3_1.set ((ji11):Int).toNat (((rd x3_1 (ji11))+(ji16))%256)):=⟨_,rfl⟩
                   replace H:(puncheonref01_Bytes.l0 k1 l0 y148 (wrap64 (x4_1+1)))=some r:=by first | (rw[hy148];with_reducible exact H) | (have H2_:=(Option.bind_some _ _).symm.trans H;rw[hy148];with_reducible exact H2_) | (have H2_:=(Option.bind_some _ _).symm.trans H;with_reducible exact H2_) | with_reducible exact H | (rw[hy148];exact H) | exact H
                   have Ny148:=Aside0.mk hy148;clear hy148;have H':=Aside0.mk H;clear H;have p146:0<=(x4_1:Int):=of_decide_eq_true (by first | (with_reducible assumption) | assumption);have q146:x4_1<(l0.length:Int):=of_decide_eq_true (by first | (with_reducible assumption) | assumption);obtain⟨ad146,e146,hx146_0⟩:=Kd.at_bool HR0.out x4_1 p146 q146
                   (try rw[<- Nbq9.out] at hx146_0)
                   cases e146
                   replace hx146_0:=(HB.out.cell (World.block_lt_of_cell? w _ hx146_0)).trans hx146_0
                   replace p146:=eq_true p146
                   replace q146:=eq_true q146
                   try go_wp2
                   have n0_:=Aside0.mk (Kd.R_drew HO_3.out);have n1_:=Aside0.mk (a0d HB.out);clear HO_3;clear HB;have HO_3:=n0_;have HB:=n1_;clear n0_ n1_;obtain⟨Ao19,co19,eo19⟩:=Kd.R_slice HO_3.out
                   (first | subst eo19 | (injection eo19 with f1_ f2_ f3_;have f4_:=f1_.symm;have f5_:=f3_.symm;clear f1_ f2_ f3_;subst f4_;subst f5_))
                   have p147:0<=((ji11):Int):=of_decide_eq_true (by first | (with_reducible assumption) | assumption);have q147:(ji11)<(x3_1.length:Int):=of_decide_eq_true (by first | (with_reducible assumption) | assumption);obtain⟨ad147,e147,hx147_0⟩:=Kd.at_int (Kd.R_reads' HO_3.out).2.2 (ji11) p147 q147
                   cases e147
                   replace p147:=eq_true p147
                   replace q147:=eq_true q147
                   have p17:0<=((ji11):Int):=of_decide_eq_true (by first | (with_reducible assumption) | assumption);have q17:((ji11):Int)<((x3_1.length:Int):Int):=of_decide_eq_true (by first | (with_reducible assumption) | assumption);obtain⟨go17,co17,eo17,gb17,gl17,cl17,HG17⟩:=Kd.R_form HO_3.out (by omega)
                   (first | cases eo17 | (injection eo17 with ea_ en_ ec_;(first | subst ea_ | (injection ea_ with ea_;subst ea_));subst ec_;clear en_))
                   have GB17:=Aside0.mk gb17;have GG17:=Aside0.mk HG17;clear gb17 gl17 HG17
                   (first | simp only[a2w] at hx147_0 | skip)
                   obtain⟨hx17_0,hf17_0⟩:=Kd.R_celln 0 HO_3.out ((ji11):Int) p17 q17
                   replace p17:=eq_true p17
                   replace q17:=eq_true q17
                   have HP20:=Kd.R_putn HO_3.out ((ji11):Int) (((rd x3_1 (ji11))+(ji16))%256);rw[<- Ny148.out] at HP20;have HQ20:=Aside0.mk HP20;clear HP20;refine b1Y (n:=14) (S:=λ w'=>w'.cell? ⟨go17,((ji11)).toNat,none⟩=some (.int .u8 (rd x3_1 (ji11)))) (ds:=[13]) #[false,false,false,false,false,false,false,false,false,false,false,false,false,false] (by kernel_rfl) rfl rfl (hx147_0) (λ hHeld=>?_);refine b2E puncheonref01_Bytes.tab6 puncheonref01_Bytes.bits6 (λ HT_ HW_=>?_)
                   generalize wr.drew=w18 at HO_3 HB GG17 HQ20 hf17_0 hx147_0 hx17_0 hHeld ⊢
                   refine pure_ (i:=0) (N:=some 20) (v:=?_) (a':=?_) #[true,false,false,false,false,false,false,false,false,false,false,false,false,false] rfl rfl (a1e HT_.out (by kernel_rfl)) (λ _ _ _ h=>h) (Or.inl ⟨by rfl,?_⟩) ?_ ?_
                   rotate_left
                   · intro w';go_simp
                     with_reducible rfl
                   rotate_left
                   · simp only[Act.put,List.setIfInBounds_toArray,List.set_cons_zero,List.set_cons_succ,i64_w,i32_w];rfl
                   refine pure_ (i:=1) (N:=some 21) (v:=?_) (a':=?_) #[true,true,false,false,false,false,false,false,false,false,false,false,false,false] rfl rfl (a1e HT_.out (by kernel_rfl)) (λ _ _ _ h=>h) (Or.inl ⟨by rfl,?_⟩) ?_ ?_
                   rotate_left
                   · intro w';go_simp
                     with_reducible rfl
                   rotate_left
                   · simp only[Act.put,List.setIfInBounds_toArray,List.set_cons_zero,List.set_cons_succ,i64_w,i32_w];rfl
                   refine pure_ (i:=2) (N:=some 22) (v:=?_) (a':=?_) #[true,true,true,false,false,false,false,false,false,false,false,false,false,false] rfl rfl (a1e HT_.out (by kernel_rfl)) (λ _ _ _ h=>h) (Or.inl ⟨by rfl,?_⟩) ?_ ?_
                   rotate_left
                   · intro w';go_simp
                     with_reducible rfl
                   rotate_left
                   · simp only[Act.put,List.setIfInBounds_toArray,List.set_cons_zero,List.set_cons_succ,i64_w,i32_w];rfl
                   refine pure_ (i:=3) (N:=some 23) (v:=?_) (a':=?_) #[true,true,true,true,false,false,false,false,false,false,false,false,false,false] rfl rfl (a1e HT_.out (by kernel_rfl)) (λ _ _ _ h=>h) (Or.inl ⟨by rfl,?_⟩) ?_ ?_
                   rotate_left
                   · intro w';go_simp
                     with_reducible rfl
                   rotate_left
                   · simp only[Act.put,List.setIfInBounds_toArray,List.set_cons_zero,List.set_cons_succ,i64_w,i32_w];rfl
                   refine pure_ (i:=4) (N:=some 24) (v:=?_) (a':=?_) #[true,true,true,true,true,false,false,false,false,false,false,false,false,false] rfl rfl (a1e HT_.out (by kernel_rfl)) (λ _ _ _ h=>h) (Or.inl ⟨by rfl,?_⟩) ?_ ?_
                   rotate_left
                   · intro w';go_simp
                     with_reducible rfl
                   rotate_left
                   · simp only[Act.put,List.setIfInBounds_toArray,List.set_cons_zero,List.set_cons_succ,i64_w,i32_w];rfl
                   refine pure_ (i:=5) (N:=some 25) (v:=?_) (a':=?_) #[true,true,true,true,true,true,false,false,false,false,false,false,false,false] rfl rfl (a1e HT_.out (by kernel_rfl)) (λ _ _ _ h=>h) (Or.inl ⟨by rfl,?_⟩) ?_ ?_
                   rotate_left
                   · intro w';go_simp
                     with_reducible rfl
                   rotate_left
                   · simp only[Act.put,List.setIfInBounds_toArray,List.set_cons_zero,List.set_cons_succ,i64_w,i32_w];rfl
                   refine pure_ (i:=6) (N:=some 26) (v:=?_) (a':=?_) #[true,true,true,true,true,true,true,false,false,false,false,false,false,false] rfl rfl (a1e HT_.out (by kernel_rfl)) (λ _ _ _ h=>h) (Or.inl ⟨by rfl,?_⟩) ?_ ?_
                   rotate_left
                   · intro w';go_simp
                     with_reducible rfl
                   rotate_left
                   · simp only[Act.put,List.setIfInBounds_toArray,List.set_cons_zero,List.set_cons_succ,i64_w,i32_w];rfl
                   refine pure_ (i:=8) (N:=some 28) (v:=?_) (a':=?_) #[true,true,true,true,true,true,true,false,true,false,false,false,false,false] rfl rfl (a1e HT_.out (by kernel_rfl)) (λ _ _ _ h=>h) (Or.inl ⟨by rfl,?_⟩) ?_ ?_
                   rotate_left
                   · intro w';go_simp
                     with_reducible rfl
                   rotate_left
                   · simp only[Act.put,List.setIfInBounds_toArray,List.set_cons_zero,List.set_cons_succ,i64_w,i32_w];rfl
                   refine pure_ (i:=9) (N:=some 29) (v:=?_) (a':=?_) #[true,true,true,true,true,true,true,false,true,true,false,false,false,false] rfl rfl (a1e HT_.out (by kernel_rfl)) (λ _ _ _ h=>h) (Or.inl ⟨by rfl,?_⟩) ?_ ?_
                   rotate_left
                   · intro w';go_simp
                     with_reducible rfl
                   rotate_left
                   · simp only[Act.put,List.setIfInBounds_toArray,List.set_cons_zero,List.set_cons_succ,i64_w,i32_w];rfl
                   refine pure_ (i:=10) (N:=some 30) (v:=?_) (a':=?_) #[true,true,true,true,true,true,true,false,true,true,true,false,false,false] rfl rfl (a1e HT_.out (by kernel_rfl)) (λ _ _ _ h=>h) (Or.inl ⟨by rfl,?_⟩) ?_ ?_
                   rotate_left
                   · intro w';go_simp
                     with_reducible rfl
                   rotate_left
                   · simp only[Act.put,List.setIfInBounds_toArray,List.set_cons_zero,List.set_cons_succ,i64_w,i32_w];rfl
                   refine take_ (i:=7) (N:=some 27) (v:=?_) (a':=?_) #[true,true,true,true,true,true,true,true,true,true,true,false,false,false] rfl rfl (b9W HT_.out HW_.out (by kernel_rfl)) (λ _ _ _ h=>h) (Or.inl ⟨by rfl,?_⟩) hHeld ?_ ?_
                   rotate_left
                   · intro w' s0;go_simp
                     with_reducible rfl
                   rotate_left
                   · simp only[Act.put,List.setIfInBounds_toArray,List.set_cons_zero,List.set_cons_succ,i64_w,i32_w];rfl
                   refine pure_ (i:=11) (N:=some 31) (v:=?_) (a':=?_) #[true,true,true,true,true,true,true,true,true,true,true,true,false,false] rfl rfl (a1e HT_.out (by kernel_rfl)) (λ _ _ _ h=>h) (Or.inl ⟨by rfl,?_⟩) ?_ ?_
                   rotate_left
                   · intro w';go_simp
                     with_reducible rfl
                   rotate_left
                   · simp only[Act.put,List.setIfInBounds_toArray,List.set_cons_zero,List.set_cons_succ,i64_w,i32_w];rfl
                   refine pure_ (i:=12) (N:=some 32) (v:=?_) (a':=?_) #[true,true,true,true,true,true,true,true,true,true,true,true,true,false] rfl rfl (a1e HT_.out (by kernel_rfl)) (λ _ _ _ h=>h) (Or.inl ⟨by rfl,?_⟩) ?_ ?_
                   rotate_left
                   · intro w';go_simp
                     with_reducible rfl
                   rotate_left
                   · simp only[Act.put,List.setIfInBounds_toArray,List.set_cons_zero,List.set_cons_succ,i64_w,i32_w];rfl
                   refine last_ (i:=13) (N:=none) #[true,true,true,true,true,true,true,true,true,true,true,true,true,true] rfl rfl (a8L HT_.out (by kernel_rfl)) (by decide) (λ K hK=>?_);refine skip_ (w1:=?_) (by rfl) rfl ?_ ?_
                   rotate_left
                   · go_simp;rfl
                   refine hK.out _ _ ?_;clear hK K;refine done_ (b2C HT_.out (by kernel_rfl)) ?_
                   try go_wp2
                   go_roundg k1
                   case measure=>have:=HK1.out;omega
                   case rel=>exact⟨(y148),(wrap64 (x4_1+1)),(by first | rfl | (simp;done) | (simp[*];done)),H',⟨by have:=HK1.out;omega⟩,⟨by (with_reducible repeat (first | apply Kd.R_alloc | apply Kd.R_drewN | apply Kd.R_drew));exact HQ20.out⟩,⟨by repeat (first | (with_reducible first | exact HB.out | apply a0c | apply a0b | apply a0d | refine a0j ?_ GB17.out) | exact HB.out)⟩⟩
                 · rw[if_neg c15] at H;exact absurd H (by simp)
               · rw[if_neg c13] at H;exact absurd H (by simp)
             · rw[if_neg c12] at H;exact absurd H (by simp)
           · replace c10:=Bool.eq_false_iff.mpr c10
             subst c10;have H1:(puncheonref01_Bytes.l0 k1 l0 x3_1 (wrap64 (x4_1+1)))=some r:=by rw[if_neg (show ¬ (false=true) by decide)] at H;exact H
             clear H;have H:=H1;clear H1;have H':=Aside0.mk H;clear H;have p146:0<=(x4_1:Int):=of_decide_eq_true (by first | (with_reducible assumption) | assumption);have q146:x4_1<(l0.length:Int):=of_decide_eq_true (by first | (with_reducible assumption) | assumption);obtain⟨ad146,e146,hx146_0⟩:=Kd.at_bool HR0.out x4_1 p146 q146
             (try rw[<- Nbq9.out] at hx146_0)
             cases e146
             replace hx146_0:=(HB.out.cell (World.block_lt_of_cell? w _ hx146_0)).trans hx146_0
             replace p146:=eq_true p146
             replace q146:=eq_true q146
             go_wp2;go_roundg k1
             case measure=>have:=HK1.out;omega
             case rel=>exact⟨(x3_1),(wrap64 (x4_1+1)),(by first | rfl | (simp;done) | (simp[*];done)),H',⟨by have:=HK1.out;omega⟩,⟨by (with_reducible repeat (first | apply Kd.R_alloc | apply Kd.R_drewN | apply Kd.R_drew));exact HO_3.out⟩,⟨by repeat (first | (with_reducible first | exact HB.out | apply a0c | apply a0b | apply a0d) | exact HB.out)⟩⟩
         · rw[if_neg c8] at H;exact absurd H (by simp)
       · rw[if_neg c7] at H;have c7b0:decide (x4_1<(l0.length:Int))=false:=decide_eq_false c7;clear c7;obtain rfl:=Option.some.inj H;go_wp2;go_ret;exact⟨_,by first | rfl | (simp[a0l,a0m] <;> rfl) | (simp only[<- hji2];first | rfl | (simp[a0l,a0m] <;> rfl)) | (simp[*,a0l,a0m] <;> rfl),by (with_reducible repeat (first | apply Kd.R_alloc | apply Kd.R_drewN | apply Kd.R_drew));exact HO_3.out,by repeat (first | (with_reducible first | exact HB.out | apply a0c | apply a0b | apply a0d) | exact HB.out)⟩
   · rw[if_neg c4] at H;exact absurd H (by simp)
 · rw[if_neg c3] at H;exact absurd H (by simp)
mutual
def puncheonref01_Bits.l0:Nat->List Int->List Bool->Int->Option (List Bool)
 | 0,_,_,_=>none
 | k+1,x0,x3,x4=>if x4<(x0.length:Int) then (puncheonref01_Bits.l1 k x0 x3 x4 0) else (some x3)
def puncheonref01_Bits.l1:Nat->List Int->List Bool->Int->Int->Option (List Bool)
 | 0,_,_,_,_=>none
 | k+1,x0,x3,x4,x5=>if x5<8 then (if 0<=x4 then (if x4<(x0.length:Int) then (if 0<=x5 then (if x3.length<140737488355328 then (puncheonref01_Bits.l1 k x0 (x3++[((Go.bits .and .u8 (shr .u8 (rd x0 x4) x5) 1)==1)]) x4 (wrap64 (x5+1))) else (none)) else (none)) else (none)) else (none)) else (puncheonref01_Bits.l0 k x0 x3 (wrap64 (x4+1)))
end
def puncheonref01_Bits.f (k:Nat) (l0:List Int):Option (List Bool):=puncheonref01_Bits.l0 k l0 ([]:List Bool) 0
theorem puncheonref01_Bits.mono_l:∀ k,(∀ y0 y1 y2,LeO (puncheonref01_Bits.l0 k y0 y1 y2) (puncheonref01_Bits.l0 (k+1) y0 y1 y2))/\(∀ y0 y1 y2 y3,LeO (puncheonref01_Bits.l1 k y0 y1 y2 y3) (puncheonref01_Bits.l1 (k+1) y0 y1 y2 y3))
 | 0=>⟨λ _ _ _ r h=>by simp[puncheonref01_Bits.l0] at h,λ _ _ _ _ r h=>by simp[puncheonref01_Bits.l1] at h⟩
 | k+1=>by
  obtain⟨ih0,ih1⟩:=puncheonref01_Bits.mono_l k;refine⟨?_,?_⟩
  · intro y0 y1 y2;unfold puncheonref01_Bits.l0
    repeat' first
    | (with_reducible exact ih0 _ _ _)
    | (with_reducible exact ih1 _ _ _ _)
    | (with_reducible exact LeO.refl _)
    | (with_reducible exact LeO.none _)
    | (with_reducible refine LeO.ite ?_ ?_)
    | (with_reducible refine LeO.bind ?_ (λ _=>?_))
    | exact ih0 _ _ _
    | exact ih1 _ _ _ _
    | exact LeO.none _
    | refine LeO.ite ?_ ?_
    | refine LeO.bind ?_ (λ _=>?_)
  · intro y0 y1 y2 y3;unfold puncheonref01_Bits.l1
    repeat' first
    | (with_reducible exact ih0 _ _ _)
    | (with_reducible exact ih1 _ _ _ _)
    | (with_reducible exact LeO.refl _)
    | (with_reducible exact LeO.none _)
    | (with_reducible refine LeO.ite ?_ ?_)
    | (with_reducible refine LeO.bind ?_ (λ _=>?_))
    | exact ih0 _ _ _
    | exact ih1 _ _ _ _
    | exact LeO.none _
    | refine LeO.ite ?_ ?_
    | refine LeO.bind ?_ (λ _=>?_)
theorem puncheonref01_Bits.mono:∀ a0 k,LeO (puncheonref01_Bits.f k a0) (puncheonref01_Bits.f (k+1) a0):=by
 intro a0 k;obtain⟨ih0,ih1⟩:=puncheonref01_Bits.mono_l k;unfold puncheonref01_Bits.f
 repeat' first
     | (with_reducible exact ih0 _ _ _)
     | (with_reducible exact ih1 _ _ _ _)
     | (with_reducible exact LeO.refl _)
     | (with_reducible exact LeO.none _)
     | (with_reducible refine LeO.ite ?_ ?_)
     | (with_reducible refine LeO.bind ?_ (λ _=>?_))
     | exact ih0 _ _ _
     | exact ih1 _ _ _ _
     | exact LeO.none _
     | refine LeO.ite ?_ ?_
     | refine LeO.bind ?_ (λ _=>?_)
theorem puncheonref01_Bits.calls (k:Nat) (A0:Option Addr) (c0:Nat) (l0:List Int) (r:List Bool) (w:World) (hr0:Kd.C (Kd.int .u8) w A0 l0.length l0) (hc0:l0.length<=c0) (h:puncheonref01_Bits.f k l0=some r) :
    Calls Tryz.prog 111 #[.slice A0 l0.length c0] w λ e w'=>∃ v0_:Value,e=.returned (v0_)/\Kd.R Kd.bool 4 w' w.heap.size (λ _=>True) v0_ r/\Below w.heap.size w w':=by
 have HR0:=Aside0.mk hr0;have HC0:=Aside0.mk hc0;clear hr0 hc0;have HB:=Aside0.mk (Below.refl w.heap.size w);have H:(puncheonref01_Bits.l0 k l0 ([]:List Bool) 0)=some r:=h;clear h;have H':=Aside0.mk H;clear H;go_enter Tryz.func111,Tryz.ntmps111;go_wp2;go_loopg [3,4] k (λ kq v3 v4 w'=>∃ (x3_1:List Bool) (x4_1:Int),v4=.int .i64 x4_1/\Aside0 (puncheonref01_Bits.l0 kq l0 x3_1 x4_1=some r)/\Aside0 (kq<=k)/\Aside0 (Kd.R Kd.bool 4 w' w.heap.size (λ _=>True) v3 x3_1)/\Aside0 (Below w.heap.size w w'))
 case atStart=>exact⟨(([]:List Bool)),(0),(by first | rfl | (simp;done) | (simp[*];done)),H',⟨Nat.le_refl _⟩,⟨by first | exact Kd.R_nil _ _ _ _ _ | exact Kd.N_nil _ _ _ _ _ | exact Kd.V_nil _ _ _ _ _ | exact Kd.Q_nil _ _ _ _ _ | exact Kd.S_nil _ _ _ _ _⟩,⟨by repeat (first | (with_reducible first | exact HB.out | apply a0c | apply a0b | apply a0d) | exact HB.out)⟩⟩
 case round=>
  clear H'
  try clear c1
  obtain⟨x3_1,x4_1,rfl,HA,HK1,HO_3,HB⟩:=hrel
  cases gk with
  | zero=>exact absurd HA.out (by simp[puncheonref01_Bits.l0])
  | succ k1=>
   have H:=HA.out;clear HA;simp only[puncheonref01_Bits.l0] at H
   by_cases c2:x4_1<(l0.length:Int)
   · rw[if_pos c2] at H;have c2b0:decide (x4_1<(l0.length:Int))=true:=decide_eq_true c2;clear c2;have H':=Aside0.mk H;clear H;go_wp2;go_loopg [3,5] k1 (λ kq v3 v5 w'=>∃ (x3_2:List Bool) (x5_2:Int),v5=.int .i64 x5_2/\Aside0 (puncheonref01_Bits.l1 kq l0 x3_2 x4_1 x5_2=some r)/\Aside0 (kq<=k1)/\Aside0 (Kd.R Kd.bool 4 w' w.heap.size (λ _=>True) v3 x3_2)/\Aside0 (Below w.heap.size w w'))
     case atStart=>exact⟨(x3_1),(0),(by first | rfl | (simp;done) | (simp[*];done)),H',⟨Nat.le_refl _⟩,⟨by (with_reducible repeat (first | apply Kd.R_alloc | apply Kd.R_drewN | apply Kd.R_drew));exact HO_3.out⟩,⟨by repeat (first | (with_reducible first | exact HB.out | apply a0c | apply a0b | apply a0d) | exact HB.out)⟩⟩
     case round=>
      clear H'
      try clear c1
      try clear c2
      try clear c2b0
      try clear p2
      obtain⟨x3_2,x5_2,rfl,HA,HK2,HO_3,HB⟩:=hrel
      cases gk with
      | zero=>exact absurd HA.out (by simp[puncheonref01_Bits.l1])
      | succ k2=>
       have H:=HA.out;clear HA;simp only[puncheonref01_Bits.l1] at H
       by_cases c3:x5_2<8
       · rw[if_pos c3] at H;have c3b0:decide (x5_2<8)=true:=decide_eq_true c3;clear c3
         by_cases c4:0<=x4_1
         · rw[if_pos c4] at H;have c4b0:decide (0<=x4_1)=true:=decide_eq_true c4;clear c4
           by_cases c5:x4_1<(l0.length:Int)
           · rw[if_pos c5] at H;have c5b0:decide (x4_1<(l0.length:Int))=true:=decide_eq_true c5;clear c5
             by_cases c6:0<=x5_2
             · rw[if_pos c6] at H;have c6b0:=eq_true c6;have c6b1:decide (0<=x5_2)=true:=decide_eq_true c6;clear c6;obtain⟨ji7,hji7⟩:∃ j_:Int,(shr .u8 (rd l0 x4_1) x5_2)=j_:=⟨_,rfl⟩
               replace H:(if x3_2.length<140737488355328 then (puncheonref01_Bits.l1 k2 l0 (x3_2++[((Go.bits .and .u8 (ji7) 1)==1)]) x4_1 (wrap64 (x5_2+1))) else (none))=some r:=by first | (rw[hji7] at H;exact H) | (simp only[hji7] at H ⊢;exact H)
               have hji7_:((rd l0 x4_1)/2^min x5_2.toNat 8)=ji7:=hji7;have hji7z:x5_2<=8->((rd l0 x4_1)/2^x5_2.toNat)=ji7:=a8G hji7
               by_cases c8:x3_2.length<140737488355328
               · rw[if_pos c8] at H;have LMc8:=Aside0.mk c8;clear c8;obtain⟨y162,hy162⟩:∃ y_:List Bool,y_=(x3_2++[((Go.bits .and .u8 (ji7) 1)==1)]):=⟨_,rfl⟩
                 replace H:(puncheonref01_Bits.l1 k2 l0 y162 x4_1 (wrap64 (x5_2+1)))=some r:=by first | (rw[hy162];with_reducible exact H) | (have H2_:=(Option.bind_some _ _).symm.trans H;rw[hy162];with_reducible exact H2_) | (have H2_:=(Option.bind_some _ _).symm.trans H;with_reducible exact H2_) | with_reducible exact H | (rw[hy162];exact H) | exact H
                 have Ny162:=Aside0.mk hy162;clear hy162;have H':=Aside0.mk H;clear H;have p161:0<=(x4_1:Int):=of_decide_eq_true (by first | (with_reducible assumption) | assumption);have q161:x4_1<(l0.length:Int):=of_decide_eq_true (by first | (with_reducible assumption) | assumption);obtain⟨ad161,e161,hx161_0⟩:=Kd.at_int HR0.out x4_1 p161 q161
                 cases e161
                 replace hx161_0:=(HB.out.cell (World.block_lt_of_cell? w _ hx161_0)).trans hx161_0
                 replace p161:=eq_true p161
                 replace q161:=eq_true q161
                 go_wp2_with (first | ((with_reducible refine a4g (b:=.append) (xs:=#[.tmp 16,.tmp 25]) rfl ?_);at_builtin;refine Kd.R_append Kd.bool (w0:=w) w.heap.size rfl (.tmp 16) (.tmp 25) 142 4 (.bool false) 1 rfl Tryz.underlying142 info4 rfl (by decide) (by omega) u3 x3_2 ((Go.bits .and .u8 (ji7) 1)==1) [.bool ((Go.bits .and .u8 (ji7) 1)==1)] (λ _=>True) (λ _=>False) rfl rfl ?aP (λ _ hk=>hk.elim) ?aF ?aO ?aB ?aS ?aL ?_;(case aP=>exact rfl);(case aB=>exact(by repeat (first | (with_reducible first | exact HB.out | apply a0c | apply a0b | apply a0d) | exact HB.out)));(case aF=>exact(λ _ _=>trivial));(case aO=>exact(by (with_reducible repeat (first | apply Kd.R_alloc | apply Kd.R_drewN | apply Kd.R_drew));exact HO_3.out));(case aS=>exact(a0Q (by repeat (first | (with_reducible first | exact HB.out | apply a0c | apply a0b | apply a0d) | exact HB.out))));(case aL=>have:=LMc8.out;omega);intro v163 w9 ho hb hg hat;rw[<- Ny162.out] at ho;have n0_:=Aside0.mk (hb);have n1_:=Aside0.mk (ho);clear HB;clear HO_3;have HB:=n0_;have HO164:=n1_;clear n0_ n1_;clear ho hb hg hat));go_roundg k2
                 case measure=>have:=HK1.out;have:=HK2.out;omega
                 case rel=>exact⟨(y162),(wrap64 (x5_2+1)),(by first | rfl | (simp;done) | (simp[*];done)),H',⟨by have:=HK1.out;have:=HK2.out;omega⟩,⟨by (with_reducible repeat (first | apply Kd.R_alloc | apply Kd.R_drewN | apply Kd.R_drew));exact HO164.out⟩,⟨by repeat (first | (with_reducible first | exact HB.out | apply a0c | apply a0b | apply a0d) | exact HB.out)⟩⟩
               · rw[if_neg c8] at H;exact absurd H (by simp)
             · rw[if_neg c6] at H;exact absurd H (by simp)
           · rw[if_neg c5] at H;exact absurd H (by simp)
         · rw[if_neg c4] at H;exact absurd H (by simp)
       · rw[if_neg c3] at H;have c3b0:decide (x5_2<8)=false:=decide_eq_false c3;clear c3;have H':=Aside0.mk H;clear H;go_wp2;go_roundg k2
         case measure=>have:=HK1.out;have:=HK2.out;omega
         case rel=>exact⟨(x3_2),(wrap64 (x4_1+1)),(by first | rfl | (simp;done) | (simp[*];done)),H',⟨by have:=HK1.out;have:=HK2.out;omega⟩,⟨by (with_reducible repeat (first | apply Kd.R_alloc | apply Kd.R_drewN | apply Kd.R_drew));exact HO_3.out⟩,⟨by repeat (first | (with_reducible first | exact HB.out | apply a0c | apply a0b | apply a0d) | exact HB.out)⟩⟩
   · rw[if_neg c2] at H;have c2b0:decide (x4_1<(l0.length:Int))=false:=decide_eq_false c2;clear c2;obtain rfl:=Option.some.inj H;go_wp2;go_ret;exact⟨_,by first | rfl | (simp[a0l,a0m] <;> rfl) | (simp[*,a0l,a0m] <;> rfl),by (with_reducible repeat (first | apply Kd.R_alloc | apply Kd.R_drewN | apply Kd.R_drew));exact HO_3.out,by repeat (first | (with_reducible first | exact HB.out | apply a0c | apply a0b | apply a0d) | exact HB.out)⟩
mutual
def puncheonref02_Open.j0:Nat->List Int->Bool->Option (List Bool×Int)
 | 0,_,_=>none
 | k+1,x0,x17=>if x17=true then (some (([]:List Bool),2)) else ((puncheonref01_Bits.f k x0).bind λ t166=>(puncheonref02_Open.l0 k t166 (wrap64 ((t166.length:Int)-1))))
def puncheonref02_Open.l0:Nat->List Bool->Int->Option (List Bool×Int)
 | 0,_,_=>none
 | k+1,x4,x5=>if 0<=x5 then (if x5<(x4.length:Int) then (if rdOf false x4 x5=true then (if x5<=(x4.length:Int) then (some ((x4.take (x5:Int).toNat),0)) else (none)) else (puncheonref02_Open.l0 k x4 (wrap64 (x5-1)))) else (none)) else (none)
end
def puncheonref02_Open.f (k:Nat) (l0:List Int):Option (List Bool×Int):=if (l0.length:Int)=0 then (puncheonref02_Open.j0 k l0 true) else (if 0<=(wrap64 ((l0.length:Int)-1)) then (if (wrap64 ((l0.length:Int)-1))<(l0.length:Int) then (puncheonref02_Open.j0 k l0 ((rd l0 (wrap64 ((l0.length:Int)-1)))==0)) else (none)) else (none))
theorem puncheonref02_Open.mono_l:∀ k,(∀ y0 y1,LeO (puncheonref02_Open.j0 k y0 y1) (puncheonref02_Open.j0 (k+1) y0 y1))/\(∀ y0 y1,LeO (puncheonref02_Open.l0 k y0 y1) (puncheonref02_Open.l0 (k+1) y0 y1))
 | 0=>⟨λ _ _ r h=>by simp[puncheonref02_Open.j0] at h,λ _ _ r h=>by simp[puncheonref02_Open.l0] at h⟩
 | k+1=>by
  obtain⟨ih0,ih1⟩:=puncheonref02_Open.mono_l k;refine⟨?_,?_⟩
  · intro y0 y1;unfold puncheonref02_Open.j0
    repeat' first
    | (with_reducible exact ih0 _ _)
    | (with_reducible exact ih1 _ _)
    | (with_reducible exact puncheonref01_Bits.mono _ _)
    | (with_reducible exact LeO.refl _)
    | (with_reducible exact LeO.none _)
    | (with_reducible refine LeO.ite ?_ ?_)
    | (with_reducible refine LeO.bind ?_ (λ _=>?_))
    | exact ih0 _ _
    | exact ih1 _ _
    | exact puncheonref01_Bits.mono _ _
    | exact LeO.none _
    | refine LeO.ite ?_ ?_
    | refine LeO.bind ?_ (λ _=>?_)
  · intro y0 y1;unfold puncheonref02_Open.l0
    repeat' first
    | (with_reducible exact ih0 _ _)
    | (with_reducible exact ih1 _ _)
    | (with_reducible exact puncheonref01_Bits.mono _ _)
    | (with_reducible exact LeO.refl _)
    | (with_reducible exact LeO.none _)
    | (with_reducible refine LeO.ite ?_ ?_)
    | (with_reducible refine LeO.bind ?_ (λ _=>?_))
    | exact ih0 _ _
    | exact ih1 _ _
    | exact puncheonref01_Bits.mono _ _
    | exact LeO.none _
    | refine LeO.ite ?_ ?_
    | refine LeO.bind ?_ (λ _=>?_)
theorem puncheonref02_Open.mono:∀ a0 k,LeO (puncheonref02_Open.f k a0) (puncheonref02_Open.f (k+1) a0):=by
 intro a0 k;obtain⟨ih0,ih1⟩:=puncheonref02_Open.mono_l k;unfold puncheonref02_Open.f
 repeat' first
     | (with_reducible exact ih0 _ _)
     | (with_reducible exact ih1 _ _)
     | (with_reducible exact puncheonref01_Bits.mono _ _)
     | (with_reducible exact LeO.refl _)
     | (with_reducible exact LeO.none _)
     | (with_reducible refine LeO.ite ?_ ?_)
     | (with_reducible refine LeO.bind ?_ (λ _=>?_))
     | exact ih0 _ _
     | exact ih1 _ _
     | exact puncheonref01_Bits.mono _ _
     | exact LeO.none _
     | refine LeO.ite ?_ ?_
     | refine LeO.bind ?_ (λ _=>?_)
theorem puncheonref02_Open.calls (k:Nat) (A0:Option Addr) (c0:Nat) (l0:List Int) (r1:List Bool) (r2:Int) (w:World) (hr0:Kd.C (Kd.int .u8) w A0 l0.length l0) (hc0:l0.length<=c0) (h:puncheonref02_Open.f k l0=some (r1,r2)) :
    Calls Tryz.prog 122 #[.slice A0 l0.length c0] w λ e w'=>∃ v0_:Value,e=.returned (.tuple #[v0_,.int .i64 r2])/\Kd.R Kd.bool 4 w' w.heap.size (λ _=>True) v0_ r1/\Below w.heap.size w w':=by
 have HR0:=Aside0.mk hr0;have HC0:=Aside0.mk hc0;clear hr0 hc0;have HB:=Aside0.mk (Below.refl w.heap.size w);have H:(if (l0.length:Int)=0 then (puncheonref02_Open.j0 k l0 true) else (if 0<=(wrap64 ((l0.length:Int)-1)) then (if (wrap64 ((l0.length:Int)-1))<(l0.length:Int) then (puncheonref02_Open.j0 k l0 ((rd l0 (wrap64 ((l0.length:Int)-1)))==0)) else (none)) else (none)))=some (r1,r2):=h;clear h;have HC2:=Aside0.mk H;clear H;go_enter Tryz.func122,Tryz.ntmps122;go_upto_region 1 with (fail);go_cut [17] (λ v17 wc=>∃ (kq:Nat) (x17_1:Bool),v17=.bool x17_1/\Aside0 (puncheonref02_Open.j0 kq l0 x17_1=some (r1,r2))/\Aside0 (kq<=k)/\Aside0 (Below w.heap.size w wc))
 case first=>
  have H:=HC2.out;clear HC2
  by_cases c3:(l0.length:Int)=0
  · rw[if_pos c3] at H;have c3b0:((l0.length:Int)==0)=true:=beq_iff_eq.mpr c3;have c3b1:((l0.length:Int)!=0)=false:=bne_eq_false_iff_eq.mpr c3;clear c3
    (first | rw[c3b0] | (simp only[i64_w,i32_w];rw[c3b0]) | skip)
    have H':=Aside0.mk H;clear H;go_wp2;go_meet
    case rel=>exact⟨_,(true),(by first | rfl | (simp;done) | (simp[*];done)),H',⟨by first | omega | exact Nat.le_refl _⟩,⟨by repeat (first | (with_reducible first | exact HB.out | apply a0c | apply a0b | apply a0d) | exact HB.out)⟩⟩
  · rw[if_neg c3] at H;have c3b0:((l0.length:Int)==0)=false:=beq_eq_false_iff_ne.mpr c3;have c3b1:((l0.length:Int)!=0)=true:=bne_iff_ne.mpr c3;have c3b2:¬ (l0=[]):=λ h_=>c3 (by rw[h_];rfl)
    (first | rw[c3b0] | (simp only[i64_w,i32_w];rw[c3b0]) | skip)
    obtain⟨ji4,hji4⟩:∃ j_:Int,(wrap64 ((l0.length:Int)-1))=j_:=⟨_,rfl⟩
    replace H:(if 0<=(ji4) then (if (ji4)<(l0.length:Int) then (puncheonref02_Open.j0 k l0 ((rd l0 (ji4))==0)) else (none)) else (none))=some (r1,r2):=by first | (rw[hji4] at H;exact H) | (simp only[hji4] at H ⊢;exact H)
    have hji4w:(IntKind.i64.wrap ((l0.length:Int)-1))=ji4:=(i64_w _).trans hji4
    by_cases c5:0<=(ji4)
    · rw[if_pos c5] at H;have c5b0:decide (0<=(ji4))=true:=decide_eq_true c5;clear c5
      by_cases c6:(ji4)<(l0.length:Int)
      · rw[if_pos c6] at H;have c6b0:decide ((ji4)<(l0.length:Int))=true:=decide_eq_true c6;clear c6;have H':=Aside0.mk H;clear H;have p165:0<=((ji4):Int):=of_decide_eq_true (by first | (with_reducible assumption) | assumption);have q165:(ji4)<(l0.length:Int):=of_decide_eq_true (by first | (with_reducible assumption) | assumption);obtain⟨ad165,e165,hx165_0⟩:=Kd.at_int HR0.out (ji4) p165 q165
        cases e165
        replace hx165_0:=(HB.out.cell (World.block_lt_of_cell? w _ hx165_0)).trans hx165_0
        replace p165:=eq_true p165
        replace q165:=eq_true q165
        go_wp2;go_meet
        case rel=>exact⟨_,(((rd l0 (ji4))==0)),(by first | rfl | (simp;done) | (simp only[<- hji4] <;> (first | rfl | simp)) | (simp[*];done)),H',⟨by first | omega | exact Nat.le_refl _⟩,⟨by repeat (first | (with_reducible first | exact HB.out | apply a0c | apply a0b | apply a0d) | exact HB.out)⟩⟩
      · rw[if_neg c6] at H;exact absurd H (by simp)
    · rw[if_neg c5] at H;exact absurd H (by simp)
 case rest=>
  clear HC2
  try clear c1
  try clear p1
  try clear q1
  try clear hx1
  try clear p2
  try clear c3
  try clear c3b0
  try clear c3b1
  try clear c3b2
  try clear c5
  try clear c5b0
  try clear c6
  try clear c6b0
  try clear p6
  try clear hx165_0
  try clear p165
  try clear q165
  obtain⟨kq,x17_1,rfl,HA,HJ1,HB⟩:=hcut
  cases kq with
  | zero=>exact absurd HA.out (by simp[puncheonref02_Open.j0])
  | succ kj1=>
   have H:=HA.out;clear HA;simp only[puncheonref02_Open.j0] at H
   by_cases c7:x17_1=true
   · subst c7;have H1:(some (([]:List Bool),2))=some (r1,r2):=by rw[if_pos rfl] at H;exact H
     clear H;have H:=H1;clear H1;simp only[Option.some.injEq,Prod.mk.injEq] at H;obtain⟨rfl,rfl⟩:=H;go_wp2;go_ret2;exact⟨_,by first | rfl | (simp[a0l,a0m] <;> rfl) | (simp[*,a0l,a0m] <;> rfl),by first | exact Kd.R_nil _ _ _ _ _ | exact Kd.N_nil _ _ _ _ _ | exact Kd.V_nil _ _ _ _ _ | exact Kd.Q_nil _ _ _ _ _ | exact Kd.S_nil _ _ _ _ _,by repeat (first | (with_reducible first | exact HB.out | apply a0c | apply a0b | apply a0d) | exact HB.out)⟩
   · replace c7:=Bool.eq_false_iff.mpr c7
     subst c7;have H1:((puncheonref01_Bits.f kj1 l0).bind λ t166=>(puncheonref02_Open.l0 kj1 t166 (wrap64 ((t166.length:Int)-1))))=some (r1,r2):=by rw[if_neg (show ¬ (false=true) by decide)] at H;exact H
     clear H;have H:=H1;clear H1
     replace H:=Option.bind_eq_some_iff.mp H
     obtain⟨t166,A80,H⟩:=H
     replace H:(puncheonref02_Open.l0 kj1 t166 (wrap64 ((t166.length:Int)-1)))=some (r1,r2):=H
     have A8:=Aside0.mk A80;clear A80;have H':=Aside0.mk H;clear H;go_wp2_with (first | ((with_reducible refine a1p (f:=111) rfl ?_);refine a1o (some 19) rfl rfl Tryz.func111 (by kernel_rfl) rfl #[.slice A0 l0.length c0] rfl (by (try simp only[List.map_toArray,List.map_cons,List.map_nil]);first | done | rfl | (simp only[List.length_drop,List.length_take];rfl)) ?_;(with_reducible refine(puncheonref01_Bits.calls kj1 _ _ l0 t166 _ ?side1 ?side2 A8.out).mono ?_);(case side1=>repeat (first | exact(Kd.C_below HR0.out HB.out) | (with_reducible refine Kd.C_alloc ?_ _) | (with_reducible refine Kd.C_drewN ?_ _) | (with_reducible refine Kd.C_drew ?_)));(case side2=>exact HC0.out);rintro e w9 ⟨v167,rfl,ho0,hb⟩;refine⟨_,rfl,?_⟩;have n0_:=Aside0.mk (Kd.R_lower ho0 (a0Q (by repeat (first | (with_reducible first | exact HB.out | apply a0c | apply a0b | apply a0d) | exact HB.out))));have n1_:=Aside0.mk (a1n (by repeat (first | (with_reducible first | exact HB.out | apply a0c | apply a0b | apply a0d) | exact HB.out)) hb);clear HB;have HO168:=n0_;have HB:=n1_;clear n0_ n1_;(try clear hb);(try clear hb2);(try clear hk);(try clear hi);(try clear ho0);obtain⟨Ao10,co10,eo10⟩:=Kd.R_slice HO168.out;subst eo10));go_loopg [5] kj1 (λ kq v5 w'=>∃ (x5_2:Int),v5=.int .i64 x5_2/\Aside0 (puncheonref02_Open.l0 kq t166 x5_2=some (r1,r2))/\Aside0 (kq<=kj1)/\Aside0 (Kd.R Kd.bool 4 w' w.heap.size (λ _=>True) (.slice Ao10 t166.length co10) t166)/\Aside0 (Below w.heap.size w w'))
     case atStart=>exact⟨(wrap64 ((t166.length:Int)-1)),(by first | rfl | (simp;done) | (simp[*];done)),H',⟨Nat.le_refl _⟩,⟨by (with_reducible repeat (first | apply Kd.R_alloc | apply Kd.R_drewN | apply Kd.R_drew));exact HO168.out⟩,⟨by repeat (first | (with_reducible first | exact HB.out | apply a0c | apply a0b | apply a0d) | exact HB.out)⟩⟩
     case round=>
      clear H'
      try clear c1
      try clear p1
      try clear q1
      try clear hx1
      try clear p2
      try clear c3
      try clear c3b0
      try clear c3b1
      try clear c3b2
      try clear c5
      try clear c5b0
      try clear c6
      try clear c6b0
      try clear p6
      try clear c7
      try clear hx165_0
      try clear p1
      try clear p165
      try clear p2
      try clear p6
      try clear q1
      try clear q165
      obtain⟨x5_2,rfl,HA,HK2,HO_4,HB⟩:=hrel
      cases gk with
      | zero=>exact absurd HA.out (by simp[puncheonref02_Open.l0])
      | succ k2=>
       have H:=HA.out;clear HA;simp only[puncheonref02_Open.l0] at H
       by_cases c11:0<=x5_2
       · rw[if_pos c11] at H;have c11b0:decide (0<=x5_2)=true:=decide_eq_true c11;clear c11
         by_cases c12:x5_2<(t166.length:Int)
         · rw[if_pos c12] at H;have c12b0:decide (x5_2<(t166.length:Int))=true:=decide_eq_true c12;clear c12;obtain⟨bq13,hbq13⟩:∃ b_:Bool,b_=(rdOf false t166 x5_2):=⟨_,rfl⟩
           replace H:(if bq13=true then (if x5_2<=(t166.length:Int) then (some ((t166.take (x5_2:Int).toNat),0)) else (none)) else (puncheonref02_Open.l0 k2 t166 (wrap64 (x5_2-1))))=some (r1,r2):=by rw[<- hbq13] at H;exact H
           have Nbq13:=Aside0.mk hbq13;clear hbq13
           by_cases c14:bq13=true
           · subst c14;have H1:(if x5_2<=(t166.length:Int) then (some ((t166.take (x5_2:Int).toNat),0)) else (none))=some (r1,r2):=by rw[if_pos rfl] at H;exact H
             clear H;have H:=H1;clear H1
             by_cases c15:x5_2<=(t166.length:Int)
             · rw[if_pos c15] at H;have c15b0:=eq_true c15;have c15b1:decide (x5_2<=(t166.length:Int))=true:=decide_eq_true c15;clear c15;obtain⟨y170,hy170⟩:∃ y_:List Bool,y_=(t166.take (x5_2:Int).toNat):=⟨_,rfl⟩
               replace H:(some (y170,0))=some (r1,r2):=by first | (rw[hy170];with_reducible exact H) | (have H2_:=(Option.bind_some _ _).symm.trans H;rw[hy170];with_reducible exact H2_) | (have H2_:=(Option.bind_some _ _).symm.trans H;with_reducible exact H2_) | with_reducible exact H | (rw[hy170];exact H) | exact H
               have Ny170:=Aside0.mk hy170;clear hy170;simp only[Option.some.injEq,Prod.mk.injEq] at H;obtain⟨rfl,rfl⟩:=H;have p169:0<=(x5_2:Int):=of_decide_eq_true (by first | (with_reducible assumption) | assumption);have q169:x5_2<(t166.length:Int):=of_decide_eq_true (by first | (with_reducible assumption) | assumption);obtain⟨ad169,e169,hx169_0⟩:=Kd.at_bool (Kd.R_reads' HO_4.out).2.2 x5_2 p169 q169
               (try rw[<- Nbq13.out] at hx169_0)
               cases e169
               replace p169:=eq_true p169
               replace q169:=eq_true q169
               have q16:(x5_2:Int)<=((t166.length:Int):Int):=of_decide_eq_true (by first | (with_reducible assumption) | assumption);obtain⟨i016,hi016,_,hsz16,_⟩:=info_parts info4;have hcut16:=a5o (P:=Tryz.prog) 142 4 .i64 Tryz.underlying142 hi016 (some ad169) t166.length co10 x5_2 (of_decide_eq_true (by first | (with_reducible assumption) | assumption)) q16 (Kd.R_reads' HO_4.out).2.1;have hr16:=Kd.R_take (m:=(x5_2:Int).toNat) HO_4.out (by omega);have hy16:y170.length=(x5_2:Int).toNat:=(by rw[Ny170.out,List.length_take];omega);rw[<- Ny170.out] at hr16;rw[<- hy16] at hr16 hcut16;clear hy16 hi016 hsz16 HO_4;have HO172:=Aside0.mk hr16;clear hr16
               replace q16:=eq_true q16
               go_wp2;go_ret2;exact⟨_,by first | rfl | (simp[a0l,a0m] <;> rfl) | (simp[*,a0l,a0m] <;> rfl),by (with_reducible repeat (first | apply Kd.R_alloc | apply Kd.R_drewN | apply Kd.R_drew));exact HO172.out,by repeat (first | (with_reducible first | exact HB.out | apply a0c | apply a0b | apply a0d) | exact HB.out)⟩
             · rw[if_neg c15] at H;exact absurd H (by simp)
           · replace c14:=Bool.eq_false_iff.mpr c14
             subst c14;have H1:(puncheonref02_Open.l0 k2 t166 (wrap64 (x5_2-1)))=some (r1,r2):=by rw[if_neg (show ¬ (false=true) by decide)] at H;exact H
             clear H;have H:=H1;clear H1;have H':=Aside0.mk H;clear H;have p169:0<=(x5_2:Int):=of_decide_eq_true (by first | (with_reducible assumption) | assumption);have q169:x5_2<(t166.length:Int):=of_decide_eq_true (by first | (with_reducible assumption) | assumption);obtain⟨ad169,e169,hx169_0⟩:=Kd.at_bool (Kd.R_reads' HO_4.out).2.2 x5_2 p169 q169
             (try rw[<- Nbq13.out] at hx169_0)
             cases e169
             replace p169:=eq_true p169
             replace q169:=eq_true q169
             go_wp2;go_roundg k2
             case measure=>have:=HJ1.out;have:=HK2.out;omega
             case rel=>exact⟨(wrap64 (x5_2-1)),(by first | rfl | (simp;done) | (simp[*];done)),H',⟨by have:=HJ1.out;have:=HK2.out;omega⟩,⟨by (with_reducible repeat (first | apply Kd.R_alloc | apply Kd.R_drewN | apply Kd.R_drew));exact HO_4.out⟩,⟨by repeat (first | (with_reducible first | exact HB.out | apply a0c | apply a0b | apply a0d) | exact HB.out)⟩⟩
         · rw[if_neg c12] at H;exact absurd H (by simp)
       · rw[if_neg c11] at H;exact absurd H (by simp)
end Go.Proofs.YtflfjpkmjnnodaaGreat.PRef
namespace Go.Proofs.YtflfjpkmjnnodaaGreat.PRef
open Go.RowKit Go.Proofs.YtflfjpkmjnnodaaGreatW.PrintWords Go.Proofs.YtflfjpkmjnnodaaGreatW.PrintLast Go.Proofs.YtflfjpkmjnnodaaGreatW.PrintMore
attribute [local go_sem] a2j a1Z a2k a2a a2A a2B a2C a2D   -- for this text's walks alone
set_option linter.unusedVariables false
set_option linter.unusedSimpArgs false
def puncheonref07_Floor.l0:Nat->Int->Int->Int->Option (Int)
 | 0,_,_,_=>none
 | k+1,x0,x3,x4=>if x4<=x0 then (if x3<60 then (puncheonref07_Floor.l0 k x0 (wrap64 (x3+1)) (wrap64 (2*x4))) else (some x3)) else (some x3)
def puncheonref07_Floor.f (k:Nat) (a0:Int):Option (Int):=puncheonref07_Floor.l0 k a0 0 2
theorem puncheonref07_Floor.mono_l:∀ k,(∀ y0 y1 y2,LeO (puncheonref07_Floor.l0 k y0 y1 y2) (puncheonref07_Floor.l0 (k+1) y0 y1 y2))
 | 0=>λ _ _ _ r h=>by simp[puncheonref07_Floor.l0] at h
 | k+1=>by
  have ih0:=puncheonref07_Floor.mono_l k
  · intro y0 y1 y2;unfold puncheonref07_Floor.l0
    repeat' first
    | (with_reducible exact ih0 _ _ _)
    | (with_reducible exact LeO.refl _)
    | (with_reducible exact LeO.none _)
    | (with_reducible refine LeO.ite ?_ ?_)
    | (with_reducible refine LeO.bind ?_ (λ _=>?_))
    | exact ih0 _ _ _
    | exact LeO.none _
    | refine LeO.ite ?_ ?_
    | refine LeO.bind ?_ (λ _=>?_)
theorem puncheonref07_Floor.mono:∀ a0 k,LeO (puncheonref07_Floor.f k a0) (puncheonref07_Floor.f (k+1) a0):=by
 intro a0 k;have ih0:=puncheonref07_Floor.mono_l k;unfold puncheonref07_Floor.f
 repeat' first
     | (with_reducible exact ih0 _ _ _)
     | (with_reducible exact LeO.refl _)
     | (with_reducible exact LeO.none _)
     | (with_reducible refine LeO.ite ?_ ?_)
     | (with_reducible refine LeO.bind ?_ (λ _=>?_))
     | exact ih0 _ _ _
     | exact LeO.none _
     | refine LeO.ite ?_ ?_
     | refine LeO.bind ?_ (λ _=>?_)
theorem puncheonref07_Floor.calls (k:Nat) (a0:Int) (r:Int) (w:World) (h:puncheonref07_Floor.f k a0=some r) :
    Calls Tryz.prog 174 #[.int .i64 a0] w λ e w'=>e=.returned (.int .i64 r)/\Drawn0 w w':=by
 have H:(puncheonref07_Floor.l0 k a0 0 2)=some r:=h;clear h;have H':=Aside0.mk H;clear H;go_enter Tryz.func174,Tryz.ntmps174;go_wp2;go_loopg [3,4] k (λ kq v3 v4 w'=>∃ (x3_1:Int) (x4_1:Int),v3=.int .i64 x3_1/\v4=.int .i64 x4_1/\Aside0 (puncheonref07_Floor.l0 kq a0 x3_1 x4_1=some r)/\Aside0 (kq<=k)/\Drawn0 w w')
 case atStart=>exact⟨(0),(2),(by first | rfl | (simp;done) | (simp[*];done)),(by first | rfl | (simp;done) | (simp[*];done)),H',⟨Nat.le_refl _⟩,by repeat (first | exact Drawn0.refl _ | apply Drawn0.step)⟩
 case round=>
  clear H'
  try clear c1
  obtain⟨x3_1,x4_1,rfl,rfl,HA,HK1,⟨m1,rfl⟩⟩:=hrel
  cases gk with
  | zero=>exact absurd HA.out (by simp[puncheonref07_Floor.l0])
  | succ k1=>
   have H:=HA.out;clear HA;simp only[puncheonref07_Floor.l0] at H
   by_cases c2:x4_1<=a0
   · rw[if_pos c2] at H;have c2b0:decide (x4_1<=a0)=true:=decide_eq_true c2;clear c2
     by_cases c3:x3_1<60
     · rw[if_pos c3] at H;have c3b0:decide (x3_1<60)=true:=decide_eq_true c3;clear c3;have H':=Aside0.mk H;clear H;go_wp2;go_roundg k1
       case measure=>have:=HK1.out;omega
       case rel=>exact⟨(wrap64 (x3_1+1)),(wrap64 (2*x4_1)),(by first | rfl | (simp;done) | (simp[*];done)),(by first | rfl | (simp;done) | (simp[*];done)),H',⟨by have:=HK1.out;omega⟩,by repeat (first | exact Drawn0.refl _ | apply Drawn0.step)⟩
     · rw[if_neg c3] at H;have c3b0:decide (x3_1<60)=false:=decide_eq_false c3;clear c3;obtain rfl:=Option.some.inj H;go_wp2;go_ret;exact⟨by first | rfl | (simp;done) | (simp[*];done),by repeat (first | exact Drawn0.refl _ | apply Drawn0.step)⟩
   · rw[if_neg c2] at H;have c2b0:decide (x4_1<=a0)=false:=decide_eq_false c2;clear c2;obtain rfl:=Option.some.inj H;go_wp2;go_ret;exact⟨by first | rfl | (simp;done) | (simp[*];done),by repeat (first | exact Drawn0.refl _ | apply Drawn0.step)⟩
end Go.Proofs.YtflfjpkmjnnodaaGreat.PRef
namespace Go.Proofs.YtflfjpkmjnnodaaGreat.PRef
open Go.RowKit Go.Proofs.YtflfjpkmjnnodaaGreatW.PrintWords Go.Proofs.YtflfjpkmjnnodaaGreatW.PrintLast Go.Proofs.YtflfjpkmjnnodaaGreatW.PrintMore
attribute [local go_sem] a2j a1Z a2k a2a a2A a2B a2C a2D   -- for this text's walks alone
set_option linter.unusedVariables false
set_option linter.unusedSimpArgs false
mutual
def puncheonref16_Right.j0:Nat->Bool->Int->Bool->List (List Int)->Option (Bool)
 | 0,_,_,_,_=>none
 | k+1,x32,x216000,x216001,x216002=>if x32=true then (some false) else (puncheonref16_Right.l0 k 0 x216000 x216001 x216002)
def puncheonref16_Right.l0:Nat->Int->Int->Bool->List (List Int)->Option (Bool)
 | 0,_,_,_,_=>none
 | k+1,x3,x216000,x216001,x216002=>if x3<(x216002.length:Int) then (if 0<=x3 then (if ((rd_L3 x216002 x3).length:Int)=0 then (puncheonref16_Right.j2 k x3 (!x216001) x216000 x216001 x216002) else (puncheonref16_Right.j2 k x3 false x216000 x216001 x216002)) else (none)) else (some true)
def puncheonref16_Right.j2:Nat->Int->Bool->Int->Bool->List (List Int)->Option (Bool)
 | 0,_,_,_,_,_=>none
 | k+1,x3,x51,x216000,x216001,x216002=>if x51=true then (puncheonref16_Right.l0 k (wrap64 (x3+1)) x216000 x216001 x216002) else (if 0<=x3 then (if x3<(x216002.length:Int) then ((puncheonref08_Log.f k (rd_L3 x216002 x3)).bind λ t218=>(if t218=x216000 then (puncheonref16_Right.l0 k (wrap64 (x3+1)) x216000 x216001 x216002) else (some false))) else (none)) else (none))
end
def puncheonref16_Right.f (k:Nat) (a0_0:Int) (a0_1:Bool) (l0_2:List (List Int)):Option (Bool):=if a0_0<1 then (puncheonref16_Right.j0 k true a0_0 a0_1 l0_2) else (if a0_0>12 then (puncheonref16_Right.j0 k true a0_0 a0_1 l0_2) else (if a0_1=true then (if (l0_2.length:Int)=1 then (puncheonref16_Right.j0 k false a0_0 a0_1 l0_2) else (puncheonref16_Right.j0 k true a0_0 a0_1 l0_2)) else (puncheonref16_Right.j0 k ((l0_2.length:Int)!=256) a0_0 a0_1 l0_2)))
theorem puncheonref16_Right.mono_l:∀ k,(∀ y0 y1 y2 y3,LeO (puncheonref16_Right.j0 k y0 y1 y2 y3) (puncheonref16_Right.j0 (k+1) y0 y1 y2 y3))/\(∀ y0 y1 y2 y3,LeO (puncheonref16_Right.l0 k y0 y1 y2 y3) (puncheonref16_Right.l0 (k+1) y0 y1 y2 y3))/\(∀ y0 y1 y2 y3 y4,LeO (puncheonref16_Right.j2 k y0 y1 y2 y3 y4) (puncheonref16_Right.j2 (k+1) y0 y1 y2 y3 y4))
 | 0=>⟨λ _ _ _ _ r h=>by simp[puncheonref16_Right.j0] at h,λ _ _ _ _ r h=>by simp[puncheonref16_Right.l0] at h,λ _ _ _ _ _ r h=>by simp[puncheonref16_Right.j2] at h⟩
 | k+1=>by
  obtain⟨ih0,ih1,ih2⟩:=puncheonref16_Right.mono_l k;refine⟨?_,?_,?_⟩
  · intro y0 y1 y2 y3;unfold puncheonref16_Right.j0
    repeat' first
    | (with_reducible exact ih0 _ _ _ _)
    | (with_reducible exact ih1 _ _ _ _)
    | (with_reducible exact ih2 _ _ _ _ _)
    | (with_reducible exact puncheonref08_Log.mono _ _)
    | (with_reducible exact LeO.refl _)
    | (with_reducible exact LeO.none _)
    | (with_reducible refine LeO.ite ?_ ?_)
    | (with_reducible refine LeO.bind ?_ (λ _=>?_))
    | exact ih0 _ _ _ _
    | exact ih1 _ _ _ _
    | exact ih2 _ _ _ _ _
    | exact puncheonref08_Log.mono _ _
    | exact LeO.none _
    | refine LeO.ite ?_ ?_
    | refine LeO.bind ?_ (λ _=>?_)
  · intro y0 y1 y2 y3;unfold puncheonref16_Right.l0
    repeat' first
    | (with_reducible exact ih0 _ _ _ _)
    | (with_reducible exact ih1 _ _ _ _)
    | (with_reducible exact ih2 _ _ _ _ _)
    | (with_reducible exact puncheonref08_Log.mono _ _)
    | (with_reducible exact LeO.refl _)
    | (with_reducible exact LeO.none _)
    | (with_reducible refine LeO.ite ?_ ?_)
    | (with_reducible refine LeO.bind ?_ (λ _=>?_))
    | exact ih0 _ _ _ _
    | exact ih1 _ _ _ _
    | exact ih2 _ _ _ _ _
    | exact puncheonref08_Log.mono _ _
    | exact LeO.none _
    | refine LeO.ite ?_ ?_
    | refine LeO.bind ?_ (λ _=>?_)
  · intro y0 y1 y2 y3 y4;unfold puncheonref16_Right.j2
    repeat' first
    | (with_reducible exact ih0 _ _ _ _)
    | (with_reducible exact ih1 _ _ _ _)
    | (with_reducible exact ih2 _ _ _ _ _)
    | (with_reducible exact puncheonref08_Log.mono _ _)
    | (with_reducible exact LeO.refl _)
    | (with_reducible exact LeO.none _)
    | (with_reducible refine LeO.ite ?_ ?_)
    | (with_reducible refine LeO.bind ?_ (λ _=>?_))
    | exact ih0 _ _ _ _
    | exact ih1 _ _ _ _
    | exact ih2 _ _ _ _ _
    | exact puncheonref08_Log.mono _ _
    | exact LeO.none _
    | refine LeO.ite ?_ ?_
    | refine LeO.bind ?_ (λ _=>?_)
theorem puncheonref16_Right.mono:∀ a0 a1 a2 k,LeO (puncheonref16_Right.f k a0 a1 a2) (puncheonref16_Right.f (k+1) a0 a1 a2):=by
 intro a0 a1 a2 k;obtain⟨ih0,ih1,ih2⟩:=puncheonref16_Right.mono_l k;unfold puncheonref16_Right.f
 repeat' first
     | (with_reducible exact ih0 _ _ _ _)
     | (with_reducible exact ih1 _ _ _ _)
     | (with_reducible exact ih2 _ _ _ _ _)
     | (with_reducible exact puncheonref08_Log.mono _ _)
     | (with_reducible exact LeO.refl _)
     | (with_reducible exact LeO.none _)
     | (with_reducible refine LeO.ite ?_ ?_)
     | (with_reducible refine LeO.bind ?_ (λ _=>?_))
     | exact ih0 _ _ _ _
     | exact ih1 _ _ _ _
     | exact ih2 _ _ _ _ _
     | exact puncheonref08_Log.mono _ _
     | exact LeO.none _
     | refine LeO.ite ?_ ?_
     | refine LeO.bind ?_ (λ _=>?_)
theorem puncheonref16_Right.calls (k:Nat) (a0_0:Int) (a0_1:Bool) (A0_2:Option Addr) (c0_2:Nat) (l0_2:List (List Int)) (r:Bool) (w:World) (hr0_2:Kd.C (Kd.slice 3 (Kd.int .i64)) w A0_2 l0_2.length l0_2) (hc0_2:l0_2.length<=c0_2) (h:puncheonref16_Right.f k a0_0 a0_1 l0_2=some r) :
    Calls Tryz.prog 121 #[.agg #[.int .i64 a0_0,.bool a0_1,.slice A0_2 l0_2.length c0_2]] w λ e w'=>e=.returned (.bool r)/\Below w.heap.size w w':=by
 have hu26:=Tryz.underlying26;have HR0_2:=Aside0.mk hr0_2;have HC0_2:=Aside0.mk hc0_2;clear hr0_2 hc0_2;have HB:=Aside0.mk (Below.refl w.heap.size w);have H:(if a0_0<1 then (puncheonref16_Right.j0 k true a0_0 a0_1 l0_2) else (if a0_0>12 then (puncheonref16_Right.j0 k true a0_0 a0_1 l0_2) else (if a0_1=true then (if (l0_2.length:Int)=1 then (puncheonref16_Right.j0 k false a0_0 a0_1 l0_2) else (puncheonref16_Right.j0 k true a0_0 a0_1 l0_2)) else (puncheonref16_Right.j0 k ((l0_2.length:Int)!=256) a0_0 a0_1 l0_2))))=some r:=h;clear h;have HC2:=Aside0.mk H;clear H;go_enter Tryz.func121,Tryz.ntmps121;go_upto_region 1 with (first | ((with_reducible refine a1L (N:=1) rfl ?_);(try (refine a2J (by rfl) ?_;dsimp only));refine a3f ?hg (N:=1) ?hd (cs:=#[.int .i64 a0_0,.bool a0_1,.slice A0_2 l0_2.length c0_2]) (t:=26) ?hr ?_;(case hd=>rfl);(case hg=>rfl);(case hr=>first | (go_simp;done) | (go_simp;rfl));intro gb215 hg w3 hbox hb;have n0_:=Aside0.mk (a1n (by repeat (first | (with_reducible first | exact HB.out | apply a0c | apply a0b | apply a0d) | exact HB.out)) hb);have n1_:=Aside0.mk (hbox);have n2_:=Aside0.mk ((by rw[hg];exact(a0Q (by repeat (first | (with_reducible first | exact HB.out | apply a0c | apply a0b | apply a0d) | exact HB.out))):w.heap.size<=gb215));have n3_:=Aside0.mk ((by rw[hg];exact(a0Q (by repeat (first | (with_reducible first | exact HB.out | apply a0c | apply a0b | apply a0d) | exact HB.out))):w.heap.size<=gb215));clear HB;have HB:=n0_;have BK215:=n1_;have GW215:=n2_;have GE215:=n3_;clear n0_ n1_ n2_ n3_;clear hb hbox hg))
 repeat (go_quiet (first | ((with_reducible refine a1L (N:=1) rfl ?_);(try (refine a2J (by rfl) ?_;dsimp only));refine a3f ?hg (N:=1) ?hd (cs:=#[.int .i64 a0_0,.bool a0_1,.slice A0_2 l0_2.length c0_2]) (t:=26) ?hr ?_;(case hd=>rfl);(case hg=>rfl);(case hr=>first | (go_simp;done) | (go_simp;rfl));intro gb215 hg w3 hbox hb;have n0_:=Aside0.mk (a1n (by repeat (first | (with_reducible first | exact HB.out | apply a0c | apply a0b | apply a0d) | exact HB.out)) hb);have n1_:=Aside0.mk (hbox);have n2_:=Aside0.mk ((by rw[hg];exact(a0Q (by repeat (first | (with_reducible first | exact HB.out | apply a0c | apply a0b | apply a0d) | exact HB.out))):w.heap.size<=gb215));have n3_:=Aside0.mk ((by rw[hg];exact(a0Q (by repeat (first | (with_reducible first | exact HB.out | apply a0c | apply a0b | apply a0d) | exact HB.out))):w.heap.size<=gb215));clear HB;have HB:=n0_;have BK215:=n1_;have GW215:=n2_;have GE215:=n3_;clear n0_ n1_ n2_ n3_;clear hb hbox hg));go_upto_region 1 with (first | ((with_reducible refine a1L (N:=1) rfl ?_);(try (refine a2J (by rfl) ?_;dsimp only));refine a3f ?hg (N:=1) ?hd (cs:=#[.int .i64 a0_0,.bool a0_1,.slice A0_2 l0_2.length c0_2]) (t:=26) ?hr ?_;(case hd=>rfl);(case hg=>rfl);(case hr=>first | (go_simp;done) | (go_simp;rfl));intro gb215 hg w3 hbox hb;have n0_:=Aside0.mk (a1n (by repeat (first | (with_reducible first | exact HB.out | apply a0c | apply a0b | apply a0d) | exact HB.out)) hb);have n1_:=Aside0.mk (hbox);have n2_:=Aside0.mk ((by rw[hg];exact(a0Q (by repeat (first | (with_reducible first | exact HB.out | apply a0c | apply a0b | apply a0d) | exact HB.out))):w.heap.size<=gb215));have n3_:=Aside0.mk ((by rw[hg];exact(a0Q (by repeat (first | (with_reducible first | exact HB.out | apply a0c | apply a0b | apply a0d) | exact HB.out))):w.heap.size<=gb215));clear HB;have HB:=n0_;have BK215:=n1_;have GW215:=n2_;have GE215:=n3_;clear n0_ n1_ n2_ n3_;clear hb hbox hg)))
 (try simp only[Act.put,List.setIfInBounds_toArray,List.set_cons_zero,List.set_cons_succ])
 go_cut [32] (λ v32 wc=>∃ (kq:Nat) (x32_1:Bool),v32=.bool x32_1/\Aside0 (puncheonref16_Right.j0 kq x32_1 a0_0 a0_1 l0_2=some r)/\Aside0 (kq<=k)/\Aside0 (wc.heap[gb215]?=some (.cells #[.int .i64 a0_0,.bool a0_1,(.slice A0_2 l0_2.length c0_2)] 26 (0,0)))/\Aside0 (Below w.heap.size w wc))
 case first=>
  have H:=HC2.out;clear HC2
  by_cases c4:a0_0<1
  · rw[if_pos c4] at H;have c4b0:decide (a0_0<1)=true:=decide_eq_true c4;clear c4
    (first | rw[c4b0] | (simp only[i64_w,i32_w];rw[c4b0]) | skip)
    have H':=Aside0.mk H;clear H;have hcz5_0:w3.cell? ⟨gb215,0,none⟩=some (.int .i64 a0_0):=(a0a BK215.out 0).trans rfl;have hcz5_1:w3.cell? ⟨gb215,1,none⟩=some (.bool a0_1):=(a0a BK215.out 1).trans rfl;have hcz5_2:w3.cell? ⟨gb215,2,none⟩=some (.slice A0_2 l0_2.length c0_2):=(a0a BK215.out 2).trans rfl;have hfz5_0:=a0e BK215.out 0;have hfz5_1:=a0e BK215.out 1;have hfz5_2:=a0e BK215.out 2;go_wp2
    repeat (go_quiet (fail);try go_wp2)
    go_meet
    case rel=>exact⟨_,(true),(by first | rfl | (simp;done) | (simp[*];done)),H',⟨by first | omega | exact Nat.le_refl _⟩,⟨by (with_reducible repeat (first | refine a1a ?_ _ | refine a0Y ?_ | refine a0o ?_ _));exact BK215.out⟩,⟨by repeat (first | (with_reducible first | exact HB.out | apply a0c | apply a0b | apply a0d | refine a0j ?_ GE215.out) | exact HB.out)⟩⟩
  · rw[if_neg c4] at H;have c4b0:decide (a0_0<1)=false:=decide_eq_false c4;clear c4
    (first | rw[c4b0] | (simp only[i64_w,i32_w];rw[c4b0]) | skip)
    by_cases c6:a0_0>12
    · rw[if_pos c6] at H;have c6b0:decide (12<a0_0)=true:=decide_eq_true c6;clear c6;have H':=Aside0.mk H;clear H;have hcz7_0:w3.cell? ⟨gb215,0,none⟩=some (.int .i64 a0_0):=(a0a BK215.out 0).trans rfl;have hcz7_1:w3.cell? ⟨gb215,1,none⟩=some (.bool a0_1):=(a0a BK215.out 1).trans rfl;have hcz7_2:w3.cell? ⟨gb215,2,none⟩=some (.slice A0_2 l0_2.length c0_2):=(a0a BK215.out 2).trans rfl;have hfz7_0:=a0e BK215.out 0;have hfz7_1:=a0e BK215.out 1;have hfz7_2:=a0e BK215.out 2;go_wp2
      repeat (go_quiet (fail);try go_wp2)
      go_meet
      case rel=>exact⟨_,(true),(by first | rfl | (simp;done) | (simp[*];done)),H',⟨by first | omega | exact Nat.le_refl _⟩,⟨by (with_reducible repeat (first | refine a1a ?_ _ | refine a0Y ?_ | refine a0o ?_ _));exact BK215.out⟩,⟨by repeat (first | (with_reducible first | exact HB.out | apply a0c | apply a0b | apply a0d | refine a0j ?_ GE215.out) | exact HB.out)⟩⟩
    · rw[if_neg c6] at H;have c6b0:decide (12<a0_0)=false:=decide_eq_false c6;clear c6
      by_cases c8:a0_1=true
      · subst c8;have H1:(if (l0_2.length:Int)=1 then (puncheonref16_Right.j0 k false a0_0 true l0_2) else (puncheonref16_Right.j0 k true a0_0 true l0_2))=some r:=by rw[if_pos rfl] at H;exact H
        clear H;have H:=H1;clear H1
        by_cases c9:(l0_2.length:Int)=1
        · rw[if_pos c9] at H;have c9b0:((l0_2.length:Int)==1)=true:=beq_iff_eq.mpr c9;have c9b1:((l0_2.length:Int)!=1)=false:=bne_eq_false_iff_eq.mpr c9;clear c9;have H':=Aside0.mk H;clear H;have hcz10_0:w3.cell? ⟨gb215,0,none⟩=some (.int .i64 a0_0):=(a0a BK215.out 0).trans rfl;have hcz10_1:w3.cell? ⟨gb215,1,none⟩=some (.bool true):=(a0a BK215.out 1).trans rfl;have hcz10_2:w3.cell? ⟨gb215,2,none⟩=some (.slice A0_2 l0_2.length c0_2):=(a0a BK215.out 2).trans rfl;have hfz10_0:=a0e BK215.out 0;have hfz10_1:=a0e BK215.out 1;have hfz10_2:=a0e BK215.out 2;go_wp2
          repeat (go_quiet (fail);try go_wp2)
          go_meet
          case rel=>exact⟨_,(false),(by first | rfl | (simp;done) | (simp[*];done)),H',⟨by first | omega | exact Nat.le_refl _⟩,⟨by (with_reducible repeat (first | refine a1a ?_ _ | refine a0Y ?_ | refine a0o ?_ _));exact BK215.out⟩,⟨by repeat (first | (with_reducible first | exact HB.out | apply a0c | apply a0b | apply a0d | refine a0j ?_ GE215.out) | exact HB.out)⟩⟩
        · rw[if_neg c9] at H;have c9b0:((l0_2.length:Int)==1)=false:=beq_eq_false_iff_ne.mpr c9;have c9b1:((l0_2.length:Int)!=1)=true:=bne_iff_ne.mpr c9;have H':=Aside0.mk H;clear H;have hcz11_0:w3.cell? ⟨gb215,0,none⟩=some (.int .i64 a0_0):=(a0a BK215.out 0).trans rfl;have hcz11_1:w3.cell? ⟨gb215,1,none⟩=some (.bool true):=(a0a BK215.out 1).trans rfl;have hcz11_2:w3.cell? ⟨gb215,2,none⟩=some (.slice A0_2 l0_2.length c0_2):=(a0a BK215.out 2).trans rfl;have hfz11_0:=a0e BK215.out 0;have hfz11_1:=a0e BK215.out 1;have hfz11_2:=a0e BK215.out 2;go_wp2
          repeat (go_quiet (fail);try go_wp2)
          go_meet
          case rel=>exact⟨_,(true),(by first | rfl | (simp;done) | (simp[*];done)),H',⟨by first | omega | exact Nat.le_refl _⟩,⟨by (with_reducible repeat (first | refine a1a ?_ _ | refine a0Y ?_ | refine a0o ?_ _));exact BK215.out⟩,⟨by repeat (first | (with_reducible first | exact HB.out | apply a0c | apply a0b | apply a0d | refine a0j ?_ GE215.out) | exact HB.out)⟩⟩
      · replace c8:=Bool.eq_false_iff.mpr c8
        subst c8;have H1:(puncheonref16_Right.j0 k ((l0_2.length:Int)!=256) a0_0 false l0_2)=some r:=by rw[if_neg (show ¬ (false=true) by decide)] at H;exact H
        clear H;have H:=H1;clear H1;have H':=Aside0.mk H;clear H;have hcz12_0:w3.cell? ⟨gb215,0,none⟩=some (.int .i64 a0_0):=(a0a BK215.out 0).trans rfl;have hcz12_1:w3.cell? ⟨gb215,1,none⟩=some (.bool false):=(a0a BK215.out 1).trans rfl;have hcz12_2:w3.cell? ⟨gb215,2,none⟩=some (.slice A0_2 l0_2.length c0_2):=(a0a BK215.out 2).trans rfl;have hfz12_0:=a0e BK215.out 0;have hfz12_1:=a0e BK215.out 1;have hfz12_2:=a0e BK215.out 2;go_wp2
        repeat (go_quiet (fail);try go_wp2)
        go_meet
        case rel=>exact⟨_,(((l0_2.length:Int)!=256)),(by first | rfl | (simp;done) | (simp[*];done)),H',⟨by first | omega | exact Nat.le_refl _⟩,⟨by (with_reducible repeat (first | refine a1a ?_ _ | refine a0Y ?_ | refine a0o ?_ _));exact BK215.out⟩,⟨by repeat (first | (with_reducible first | exact HB.out | apply a0c | apply a0b | apply a0d | refine a0j ?_ GE215.out) | exact HB.out)⟩⟩
 case rest=>
  clear HC2
  try clear c1
  try clear p2
  try clear c4
  try clear c4b0
  try clear c6
  try clear c6b0
  try clear c8
  try clear c9
  try clear c9b0
  try clear c9b1
  try clear c12
  try clear hcz10_0
  try clear hcz10_1
  try clear hcz10_2
  try clear hcz11_0
  try clear hcz11_1
  try clear hcz11_2
  try clear hcz12_0
  try clear hcz12_1
  try clear hcz12_2
  try clear hcz5_0
  try clear hcz5_1
  try clear hcz5_2
  try clear hcz7_0
  try clear hcz7_1
  try clear hcz7_2
  try clear hfz10_0
  try clear hfz10_1
  try clear hfz10_2
  try clear hfz11_0
  try clear hfz11_1
  try clear hfz11_2
  try clear hfz12_0
  try clear hfz12_1
  try clear hfz12_2
  try clear hfz5_0
  try clear hfz5_1
  try clear hfz5_2
  try clear hfz7_0
  try clear hfz7_1
  try clear hfz7_2
  obtain⟨kq,x32_1,rfl,HA,HJ1,BK215,HB⟩:=hcut
  cases kq with
  | zero=>exact absurd HA.out (by simp[puncheonref16_Right.j0])
  | succ kj1=>
   have H:=HA.out;clear HA;simp only[puncheonref16_Right.j0] at H
   by_cases c13:x32_1=true
   · subst c13;have H1:(some false)=some r:=by rw[if_pos rfl] at H;exact H
     clear H;have H:=H1;clear H1;obtain rfl:=Option.some.inj H;go_wp2
     repeat (go_quiet (fail);try go_wp2)
     go_ret;exact⟨by first | rfl | (simp[a0l,a0m] <;> rfl) | (simp[*,a0l,a0m] <;> rfl),by repeat (first | (with_reducible first | exact HB.out | apply a0c | apply a0b | apply a0d | refine a0j ?_ GE215.out) | exact HB.out)⟩
   · replace c13:=Bool.eq_false_iff.mpr c13
     subst c13;have H1:(puncheonref16_Right.l0 kj1 0 a0_0 a0_1 l0_2)=some r:=by rw[if_neg (show ¬ (false=true) by decide)] at H;exact H
     clear H;have H:=H1;clear H1;have H':=Aside0.mk H;clear H;go_wp2
     repeat (go_quiet (fail);try go_wp2)
     go_loopg [3] kj1 (λ kq v3 w'=>∃ (x3_2:Int),v3=.int .i64 x3_2/\Aside0 (puncheonref16_Right.l0 kq x3_2 a0_0 a0_1 l0_2=some r)/\Aside0 (kq<=kj1)/\Aside0 (w'.heap[gb215]?=some (.cells #[.int .i64 a0_0,.bool a0_1,(.slice A0_2 l0_2.length c0_2)] 26 (0,0)))/\Aside0 (Below w.heap.size w w'))
     case atStart=>exact⟨(0),(by first | rfl | (simp;done) | (simp[*];done)),H',⟨Nat.le_refl _⟩,⟨by (with_reducible repeat (first | refine a1a ?_ _ | refine a0Y ?_ | refine a0o ?_ _));exact BK215.out⟩,⟨by repeat (first | (with_reducible first | exact HB.out | apply a0c | apply a0b | apply a0d | refine a0j ?_ GE215.out) | exact HB.out)⟩⟩
     case round=>
      clear H'
      try clear c1
      try clear p2
      try clear c4
      try clear c4b0
      try clear c6
      try clear c6b0
      try clear c8
      try clear c9
      try clear c9b0
      try clear c9b1
      try clear c12
      try clear c13
      try clear hcz10_0
      try clear hcz10_1
      try clear hcz10_2
      try clear hcz11_0
      try clear hcz11_1
      try clear hcz11_2
      try clear hcz12_0
      try clear hcz12_1
      try clear hcz12_2
      try clear hcz5_0
      try clear hcz5_1
      try clear hcz5_2
      try clear hcz7_0
      try clear hcz7_1
      try clear hcz7_2
      try clear hfz10_0
      try clear hfz10_1
      try clear hfz10_2
      try clear hfz11_0
      try clear hfz11_1
      try clear hfz11_2
      try clear hfz12_0
      try clear hfz12_1
      try clear hfz12_2
      try clear hfz5_0
      try clear hfz5_1
      try clear hfz5_2
      try clear hfz7_0
      try clear hfz7_1
      try clear hfz7_2
      try clear p2
      obtain⟨x3_2,rfl,HA,HK2,BK215,HB⟩:=hrel
      cases gk with
      | zero=>exact absurd HA.out (by simp[puncheonref16_Right.l0])
      | succ k2=>
       have H:=HA.out;clear HA;simp only[puncheonref16_Right.l0] at H
       by_cases c14:x3_2<(l0_2.length:Int)
       · rw[if_pos c14] at H;have c14b0:decide (x3_2<(l0_2.length:Int))=true:=decide_eq_true c14;clear c14;have HC15:=Aside0.mk H;clear H;have hcz16_0:wr.cell? ⟨gb215,0,none⟩=some (.int .i64 a0_0):=(a0a BK215.out 0).trans rfl;have hcz16_1:wr.cell? ⟨gb215,1,none⟩=some (.bool a0_1):=(a0a BK215.out 1).trans rfl;have hcz16_2:wr.cell? ⟨gb215,2,none⟩=some (.slice A0_2 l0_2.length c0_2):=(a0a BK215.out 2).trans rfl;have hfz16_0:=a0e BK215.out 0;have hfz16_1:=a0e BK215.out 1;have hfz16_2:=a0e BK215.out 2;go_upto_region 6 with (fail)
         repeat (go_quiet (fail);go_upto_region 6 with (fail))
         go_cut [51] (λ v51 wc=>∃ (kq:Nat) (x51_14:Bool),v51=.bool x51_14/\Aside0 (puncheonref16_Right.j2 kq x3_2 x51_14 a0_0 a0_1 l0_2=some r)/\Aside0 (kq<=k2)/\Aside0 (wc.heap[gb215]?=some (.cells #[.int .i64 a0_0,.bool a0_1,(.slice A0_2 l0_2.length c0_2)] 26 (0,0)))/\Aside0 (Below w.heap.size w wc))
         case first=>
          have H:=HC15.out;clear HC15
          by_cases c17:0<=x3_2
          · rw[if_pos c17] at H;have c17b0:decide (0<=x3_2)=true:=decide_eq_true c17;clear c17
            (first | rw[c17b0] | (simp only[i64_w,i32_w];rw[c17b0]) | skip)
            by_cases c18:((rd_L3 l0_2 x3_2).length:Int)=0
            · rw[if_pos c18] at H;have c18b0:(((rd_L3 l0_2 x3_2).length:Int)==0)=true:=beq_iff_eq.mpr c18;have c18b1:(((rd_L3 l0_2 x3_2).length:Int)!=0)=false:=bne_eq_false_iff_eq.mpr c18;clear c18;have H':=Aside0.mk H;clear H;have hcz19_0:wr.cell? ⟨gb215,0,none⟩=some (.int .i64 a0_0):=(a0a BK215.out 0).trans rfl;have hcz19_1:wr.cell? ⟨gb215,1,none⟩=some (.bool a0_1):=(a0a BK215.out 1).trans rfl;have hcz19_2:wr.cell? ⟨gb215,2,none⟩=some (.slice A0_2 l0_2.length c0_2):=(a0a BK215.out 2).trans rfl;have hfz19_0:=a0e BK215.out 0;have hfz19_1:=a0e BK215.out 1;have hfz19_2:=a0e BK215.out 2;have p216:0<=(x3_2:Int):=of_decide_eq_true (by first | (with_reducible assumption) | assumption);have q216:x3_2<(l0_2.length:Int):=of_decide_eq_true (by first | (with_reducible assumption) | assumption);obtain⟨ad216,A216_0,c216_0,e216,hx216_0,hl216_0,hi216_0⟩:=at_L3 HR0_2.out x3_2 p216 q216
              cases e216
              replace hx216_0:=(HB.out.cell (World.block_lt_of_cell? w _ hx216_0)).trans hx216_0
              have HR216_0:=Aside0.mk hi216_0;have HC216_0:=Aside0.mk hl216_0;clear hi216_0 hl216_0
              replace p216:=eq_true p216
              replace q216:=eq_true q216
              go_wp2
              repeat (go_quiet (fail);try go_wp2)
              go_meet
              case rel=>exact⟨_,(!a0_1),(by first | rfl | (simp;done) | (simp[*];done)),H',⟨by have:=HJ1.out;have:=HK2.out;first | omega | exact Nat.le_refl _⟩,⟨by (with_reducible repeat (first | refine a1a ?_ _ | refine a0Y ?_ | refine a0o ?_ _));exact BK215.out⟩,⟨by repeat (first | (with_reducible first | exact HB.out | apply a0c | apply a0b | apply a0d | refine a0j ?_ GE215.out) | exact HB.out)⟩⟩
            · rw[if_neg c18] at H;have c18b0:(((rd_L3 l0_2 x3_2).length:Int)==0)=false:=beq_eq_false_iff_ne.mpr c18;have c18b1:(((rd_L3 l0_2 x3_2).length:Int)!=0)=true:=bne_iff_ne.mpr c18;have c18b2:¬ ((rd_L3 l0_2 x3_2)=[]):=λ h_=>c18 (by rw[h_];rfl);have H':=Aside0.mk H;clear H;have hcz20_0:wr.cell? ⟨gb215,0,none⟩=some (.int .i64 a0_0):=(a0a BK215.out 0).trans rfl;have hcz20_1:wr.cell? ⟨gb215,1,none⟩=some (.bool a0_1):=(a0a BK215.out 1).trans rfl;have hcz20_2:wr.cell? ⟨gb215,2,none⟩=some (.slice A0_2 l0_2.length c0_2):=(a0a BK215.out 2).trans rfl;have hfz20_0:=a0e BK215.out 0;have hfz20_1:=a0e BK215.out 1;have hfz20_2:=a0e BK215.out 2;have p216:0<=(x3_2:Int):=of_decide_eq_true (by first | (with_reducible assumption) | assumption);have q216:x3_2<(l0_2.length:Int):=of_decide_eq_true (by first | (with_reducible assumption) | assumption);obtain⟨ad216,A216_0,c216_0,e216,hx216_0,hl216_0,hi216_0⟩:=at_L3 HR0_2.out x3_2 p216 q216
              cases e216
              replace hx216_0:=(HB.out.cell (World.block_lt_of_cell? w _ hx216_0)).trans hx216_0
              have HR216_0:=Aside0.mk hi216_0;have HC216_0:=Aside0.mk hl216_0;clear hi216_0 hl216_0
              replace p216:=eq_true p216
              replace q216:=eq_true q216
              go_wp2
              repeat (go_quiet (fail);try go_wp2)
              go_meet
              case rel=>exact⟨_,(false),(by first | rfl | (simp;done) | (simp[*];done)),H',⟨by have:=HJ1.out;have:=HK2.out;first | omega | exact Nat.le_refl _⟩,⟨by (with_reducible repeat (first | refine a1a ?_ _ | refine a0Y ?_ | refine a0o ?_ _));exact BK215.out⟩,⟨by repeat (first | (with_reducible first | exact HB.out | apply a0c | apply a0b | apply a0d | refine a0j ?_ GE215.out) | exact HB.out)⟩⟩
          · rw[if_neg c17] at H;exact absurd H (by simp)
         case rest=>
          clear HC15
          try clear c1
          try clear c2
          try clear p2
          try clear q2
          try clear hx2
          try clear c4
          try clear c4b0
          try clear c6
          try clear c6b0
          try clear c8
          try clear c9
          try clear c9b0
          try clear c9b1
          try clear c12
          try clear c13
          try clear c14
          try clear c14b0
          try clear c17
          try clear c17b0
          try clear c18
          try clear c18b0
          try clear c18b1
          try clear c18b2
          try clear hcz10_0
          try clear hcz10_1
          try clear hcz10_2
          try clear hcz11_0
          try clear hcz11_1
          try clear hcz11_2
          try clear hcz12_0
          try clear hcz12_1
          try clear hcz12_2
          try clear hcz16_0
          try clear hcz16_1
          try clear hcz16_2
          try clear hcz19_0
          try clear hcz19_1
          try clear hcz19_2
          try clear hcz20_0
          try clear hcz20_1
          try clear hcz20_2
          try clear hcz5_0
          try clear hcz5_1
          try clear hcz5_2
          try clear hcz7_0
          try clear hcz7_1
          try clear hcz7_2
          try clear hfz10_0
          try clear hfz10_1
          try clear hfz10_2
          try clear hfz11_0
          try clear hfz11_1
          try clear hfz11_2
          try clear hfz12_0
          try clear hfz12_1
          try clear hfz12_2
          try clear hfz16_0
          try clear hfz16_1
          try clear hfz16_2
          try clear hfz19_0
          try clear hfz19_1
          try clear hfz19_2
          try clear hfz20_0
          try clear hfz20_1
          try clear hfz20_2
          try clear hfz5_0
          try clear hfz5_1
          try clear hfz5_2
          try clear hfz7_0
          try clear hfz7_1
          try clear hfz7_2
          try clear hx216_0
          try clear p2
          try clear p216
          try clear q216
          obtain⟨kq,x51_14,rfl,HA,HJ14,BK215,HB⟩:=hcut
          cases kq with
          | zero=>exact absurd HA.out (by simp[puncheonref16_Right.j2])
          | succ kj14=>
           have H:=HA.out;clear HA;simp only[puncheonref16_Right.j2] at H
           by_cases c21:x51_14=true
           · subst c21;have H1:(puncheonref16_Right.l0 kj14 (wrap64 (x3_2+1)) a0_0 a0_1 l0_2)=some r:=by rw[if_pos rfl] at H;exact H
             clear H;have H:=H1;clear H1;have H':=Aside0.mk H;clear H;go_wp2
             repeat (go_quiet (fail);try go_wp2)
             go_roundg kj14
             case measure=>have:=HJ1.out;have:=HK2.out;have:=HJ14.out;omega
             case rel=>exact⟨(wrap64 (x3_2+1)),(by first | rfl | (simp;done) | (simp[*];done)),H',⟨by have:=HJ1.out;have:=HK2.out;have:=HJ14.out;omega⟩,⟨by (with_reducible repeat (first | refine a1a ?_ _ | refine a0Y ?_ | refine a0o ?_ _));exact BK215.out⟩,⟨by repeat (first | (with_reducible first | exact HB.out | apply a0c | apply a0b | apply a0d | refine a0j ?_ GE215.out) | exact HB.out)⟩⟩
           · replace c21:=Bool.eq_false_iff.mpr c21
             subst c21;have H1:(if 0<=x3_2 then (if x3_2<(l0_2.length:Int) then ((puncheonref08_Log.f kj14 (rd_L3 l0_2 x3_2)).bind λ t218=>(if t218=a0_0 then (puncheonref16_Right.l0 kj14 (wrap64 (x3_2+1)) a0_0 a0_1 l0_2) else (some false))) else (none)) else (none))=some r:=by rw[if_neg (show ¬ (false=true) by decide)] at H;exact H
             clear H;have H:=H1;clear H1
             by_cases c22:0<=x3_2
             · rw[if_pos c22] at H;have c22b0:decide (0<=x3_2)=true:=decide_eq_true c22;clear c22
               by_cases c23:x3_2<(l0_2.length:Int)
               · rw[if_pos c23] at H;have c23b0:decide (x3_2<(l0_2.length:Int))=true:=decide_eq_true c23;clear c23
                 replace H:=Option.bind_eq_some_iff.mp H
                 obtain⟨t218,A240,H⟩:=H
                 replace H:(if t218=a0_0 then (puncheonref16_Right.l0 kj14 (wrap64 (x3_2+1)) a0_0 a0_1 l0_2) else (some false))=some r:=H
                 have A24:=Aside0.mk A240;clear A240
                 by_cases c25:t218=a0_0
                 · rw[if_pos c25] at H;have c25b0:(t218==a0_0)=true:=beq_iff_eq.mpr c25;have c25b1:(t218 != a0_0)=false:=bne_eq_false_iff_eq.mpr c25;clear c25;have H':=Aside0.mk H;clear H;have hcz26_0:wc.cell? ⟨gb215,0,none⟩=some (.int .i64 a0_0):=(a0a BK215.out 0).trans rfl;have hcz26_1:wc.cell? ⟨gb215,1,none⟩=some (.bool a0_1):=(a0a BK215.out 1).trans rfl;have hcz26_2:wc.cell? ⟨gb215,2,none⟩=some (.slice A0_2 l0_2.length c0_2):=(a0a BK215.out 2).trans rfl;have hfz26_0:=a0e BK215.out 0;have hfz26_1:=a0e BK215.out 1;have hfz26_2:=a0e BK215.out 2;have p217:0<=(x3_2:Int):=of_decide_eq_true (by first | (with_reducible assumption) | assumption);have q217:x3_2<(l0_2.length:Int):=of_decide_eq_true (by first | (with_reducible assumption) | assumption);obtain⟨ad217,A217_0,c217_0,e217,hx217_0,hl217_0,hi217_0⟩:=at_L3 HR0_2.out x3_2 p217 q217
                   cases e217
                   replace hx217_0:=(HB.out.cell (World.block_lt_of_cell? w _ hx217_0)).trans hx217_0
                   have HR217_0:=Aside0.mk hi217_0;have HC217_0:=Aside0.mk hl217_0;clear hi217_0 hl217_0
                   replace p217:=eq_true p217
                   replace q217:=eq_true q217
                   go_wp2_with (first | (go_at_call 172;(with_reducible refine(puncheonref08_Log.calls kj14 _ _ (rd_L3 l0_2 x3_2) t218 _ ?side1 ?side2 A24.out).mono ?_);(case side1=>repeat (first | exact(Kd.C_below HR217_0.out HB.out) | (with_reducible refine Kd.C_alloc ?_ _) | (with_reducible refine Kd.C_drewN ?_ _) | (with_reducible refine Kd.C_drew ?_)));(case side2=>exact HC217_0.out);rintro e w' ⟨rfl,⟨nd,rfl⟩⟩;(try first | exact⟨rfl,_,World.drewN_drewN _ _ _⟩ | exact⟨rfl,_,Eq.trans (World.drewN_drewN _ _ _) (congrArg (World.drewN _) (Nat.add_assoc _ _ _))⟩)))
                   repeat (go_quiet (first | (go_at_call 172;(with_reducible refine(puncheonref08_Log.calls kj14 _ _ (rd_L3 l0_2 x3_2) t218 _ ?side1 ?side2 A24.out).mono ?_);(case side1=>repeat (first | exact(Kd.C_below HR217_0.out HB.out) | (with_reducible refine Kd.C_alloc ?_ _) | (with_reducible refine Kd.C_drewN ?_ _) | (with_reducible refine Kd.C_drew ?_)));(case side2=>exact HC217_0.out);rintro e w' ⟨rfl,⟨nd,rfl⟩⟩;(try first | exact⟨rfl,_,World.drewN_drewN _ _ _⟩ | exact⟨rfl,_,Eq.trans (World.drewN_drewN _ _ _) (congrArg (World.drewN _) (Nat.add_assoc _ _ _))⟩)));try go_wp2_with (first | (go_at_call 172;(with_reducible refine(puncheonref08_Log.calls kj14 _ _ (rd_L3 l0_2 x3_2) t218 _ ?side1 ?side2 A24.out).mono ?_);(case side1=>repeat (first | exact(Kd.C_below HR217_0.out HB.out) | (with_reducible refine Kd.C_alloc ?_ _) | (with_reducible refine Kd.C_drewN ?_ _) | (with_reducible refine Kd.C_drew ?_)));(case side2=>exact HC217_0.out);rintro e w' ⟨rfl,⟨nd,rfl⟩⟩;(try first | exact⟨rfl,_,World.drewN_drewN _ _ _⟩ | exact⟨rfl,_,Eq.trans (World.drewN_drewN _ _ _) (congrArg (World.drewN _) (Nat.add_assoc _ _ _))⟩))))
                   go_roundg kj14
                   case measure=>have:=HJ1.out;have:=HK2.out;have:=HJ14.out;omega
                   case rel=>exact⟨(wrap64 (x3_2+1)),(by first | rfl | (simp;done) | (simp[*];done)),H',⟨by have:=HJ1.out;have:=HK2.out;have:=HJ14.out;omega⟩,⟨by (with_reducible repeat (first | refine a1a ?_ _ | refine a0Y ?_ | refine a0o ?_ _));exact BK215.out⟩,⟨by repeat (first | (with_reducible first | exact HB.out | apply a0c | apply a0b | apply a0d | refine a0j ?_ GE215.out) | exact HB.out)⟩⟩
                 · rw[if_neg c25] at H;have c25b0:(t218==a0_0)=false:=beq_eq_false_iff_ne.mpr c25;have c25b1:(t218 != a0_0)=true:=bne_iff_ne.mpr c25;obtain rfl:=Option.some.inj H;have hcz27_0:wc.cell? ⟨gb215,0,none⟩=some (.int .i64 a0_0):=(a0a BK215.out 0).trans rfl;have hcz27_1:wc.cell? ⟨gb215,1,none⟩=some (.bool a0_1):=(a0a BK215.out 1).trans rfl;have hcz27_2:wc.cell? ⟨gb215,2,none⟩=some (.slice A0_2 l0_2.length c0_2):=(a0a BK215.out 2).trans rfl;have hfz27_0:=a0e BK215.out 0;have hfz27_1:=a0e BK215.out 1;have hfz27_2:=a0e BK215.out 2;have p217:0<=(x3_2:Int):=of_decide_eq_true (by first | (with_reducible assumption) | assumption);have q217:x3_2<(l0_2.length:Int):=of_decide_eq_true (by first | (with_reducible assumption) | assumption);obtain⟨ad217,A217_0,c217_0,e217,hx217_0,hl217_0,hi217_0⟩:=at_L3 HR0_2.out x3_2 p217 q217
                   cases e217
                   replace hx217_0:=(HB.out.cell (World.block_lt_of_cell? w _ hx217_0)).trans hx217_0
                   have HR217_0:=Aside0.mk hi217_0;have HC217_0:=Aside0.mk hl217_0;clear hi217_0 hl217_0
                   replace p217:=eq_true p217
                   replace q217:=eq_true q217
                   go_wp2_with (first | (go_at_call 172;(with_reducible refine(puncheonref08_Log.calls kj14 _ _ (rd_L3 l0_2 x3_2) t218 _ ?side1 ?side2 A24.out).mono ?_);(case side1=>repeat (first | exact(Kd.C_below HR217_0.out HB.out) | (with_reducible refine Kd.C_alloc ?_ _) | (with_reducible refine Kd.C_drewN ?_ _) | (with_reducible refine Kd.C_drew ?_)));(case side2=>exact HC217_0.out);rintro e w' ⟨rfl,⟨nd,rfl⟩⟩;(try first | exact⟨rfl,_,World.drewN_drewN _ _ _⟩ | exact⟨rfl,_,Eq.trans (World.drewN_drewN _ _ _) (congrArg (World.drewN _) (Nat.add_assoc _ _ _))⟩)))
                   repeat (go_quiet (first | (go_at_call 172;(with_reducible refine(puncheonref08_Log.calls kj14 _ _ (rd_L3 l0_2 x3_2) t218 _ ?side1 ?side2 A24.out).mono ?_);(case side1=>repeat (first | exact(Kd.C_below HR217_0.out HB.out) | (with_reducible refine Kd.C_alloc ?_ _) | (with_reducible refine Kd.C_drewN ?_ _) | (with_reducible refine Kd.C_drew ?_)));(case side2=>exact HC217_0.out);rintro e w' ⟨rfl,⟨nd,rfl⟩⟩;(try first | exact⟨rfl,_,World.drewN_drewN _ _ _⟩ | exact⟨rfl,_,Eq.trans (World.drewN_drewN _ _ _) (congrArg (World.drewN _) (Nat.add_assoc _ _ _))⟩)));try go_wp2_with (first | (go_at_call 172;(with_reducible refine(puncheonref08_Log.calls kj14 _ _ (rd_L3 l0_2 x3_2) t218 _ ?side1 ?side2 A24.out).mono ?_);(case side1=>repeat (first | exact(Kd.C_below HR217_0.out HB.out) | (with_reducible refine Kd.C_alloc ?_ _) | (with_reducible refine Kd.C_drewN ?_ _) | (with_reducible refine Kd.C_drew ?_)));(case side2=>exact HC217_0.out);rintro e w' ⟨rfl,⟨nd,rfl⟩⟩;(try first | exact⟨rfl,_,World.drewN_drewN _ _ _⟩ | exact⟨rfl,_,Eq.trans (World.drewN_drewN _ _ _) (congrArg (World.drewN _) (Nat.add_assoc _ _ _))⟩))))
                   go_ret;exact⟨by first | rfl | (simp[a0l,a0m] <;> rfl) | (simp[*,a0l,a0m] <;> rfl),by repeat (first | (with_reducible first | exact HB.out | apply a0c | apply a0b | apply a0d | refine a0j ?_ GE215.out) | exact HB.out)⟩
               · rw[if_neg c23] at H;exact absurd H (by simp)
             · rw[if_neg c22] at H;exact absurd H (by simp)
       · rw[if_neg c14] at H;have c14b0:decide (x3_2<(l0_2.length:Int))=false:=decide_eq_false c14;clear c14;obtain rfl:=Option.some.inj H;have hcz28_0:wr.cell? ⟨gb215,0,none⟩=some (.int .i64 a0_0):=(a0a BK215.out 0).trans rfl;have hcz28_1:wr.cell? ⟨gb215,1,none⟩=some (.bool a0_1):=(a0a BK215.out 1).trans rfl;have hcz28_2:wr.cell? ⟨gb215,2,none⟩=some (.slice A0_2 l0_2.length c0_2):=(a0a BK215.out 2).trans rfl;have hfz28_0:=a0e BK215.out 0;have hfz28_1:=a0e BK215.out 1;have hfz28_2:=a0e BK215.out 2;go_wp2
         repeat (go_quiet (fail);try go_wp2)
         go_ret;exact⟨by first | rfl | (simp[a0l,a0m] <;> rfl) | (simp[*,a0l,a0m] <;> rfl),by repeat (first | (with_reducible first | exact HB.out | apply a0c | apply a0b | apply a0d | refine a0j ?_ GE215.out) | exact HB.out)⟩
end Go.Proofs.YtflfjpkmjnnodaaGreat.PRef
namespace Go.Proofs.YtflfjpkmjnnodaaGreat.PRef
open Go.RowKit Go.Proofs.YtflfjpkmjnnodaaGreatW.PrintWords Go.Proofs.YtflfjpkmjnnodaaGreatW.PrintLast Go.Proofs.YtflfjpkmjnnodaaGreatW.PrintMore
attribute [local go_sem] a2j a1Z a2k a2a a2A a2B a2C a2D   -- for this text's walks alone
set_option linter.unusedVariables false
set_option linter.unusedSimpArgs false
mutual
def puncheonref11_Of.l0:Nat->List Int->Int->Int->List (S170)->Int->Option ((List (S170))×Int)
 | 0,_,_,_,_,_=>none
 | k+1,x0,x4,x5,x6,x7=>if x7<256 then (if 0<=x7 then (if x7<(x0.length:Int) then (puncheonref11_Of.l1 k x0 x4 x5 x6 x7 (rd x0 x7)) else (none)) else (none)) else (some (x6,0))
def puncheonref11_Of.l1:Nat->List Int->Int->Int->List (S170)->Int->Int->Option ((List (S170))×Int)
 | 0,_,_,_,_,_,_=>none
 | k+1,x0,x4,x5,x6,x7,x8=>if 0<=x7 then (if x7<(x0.length:Int) then (if x8<(wrap64 (2*(rd x0 x7))) then ((puncheonref07_Floor.f k x8).bind λ t225=>((puncheonref10_Place.f k x0 x7 x8).bind λ t226=>(if 0<=(wrap64 (x4-t225)) then (if 0<=t226 then (if t226<(x6.length:Int) then (puncheonref11_Of.l1 k x0 x4 x5 (x6.set (t226:Int).toNat (⟨(x7)%256,wrap64 (x4-t225),wrap64 ((wrap64 (x8*(shl .i64 1 (wrap64 (x4-t225)))))-x5)⟩:S170)) x7 (wrap64 (x8+1))) else (none)) else (none)) else (none)))) else (puncheonref11_Of.l0 k x0 x4 x5 x6 (wrap64 (x7+1)))) else (none)) else (none)
end
def puncheonref11_Of.f (k:Nat) (l0:List Int):Option ((List (S170))×Int):=(puncheonref08_Log.f k l0).bind λ t219=>(if t219=0 then (some (([]:List (S170)),1)) else (if 0<=t219 then (if 0<=(shl .i64 1 t219) then (if (shl .i64 1 t219:Int).toNat<=11728124029610 then (puncheonref11_Of.l0 k l0 t219 (shl .i64 1 t219) (List.replicate (shl .i64 1 t219:Int).toNat z170) 0) else (none)) else (none)) else (none)))
theorem puncheonref11_Of.mono_l:∀ k,(∀ y0 y1 y2 y3 y4,LeO (puncheonref11_Of.l0 k y0 y1 y2 y3 y4) (puncheonref11_Of.l0 (k+1) y0 y1 y2 y3 y4))/\(∀ y0 y1 y2 y3 y4 y5,LeO (puncheonref11_Of.l1 k y0 y1 y2 y3 y4 y5) (puncheonref11_Of.l1 (k+1) y0 y1 y2 y3 y4 y5))
 | 0=>⟨λ _ _ _ _ _ r h=>by simp[puncheonref11_Of.l0] at h,λ _ _ _ _ _ _ r h=>by simp[puncheonref11_Of.l1] at h⟩
 | k+1=>by
  obtain⟨ih0,ih1⟩:=puncheonref11_Of.mono_l k;refine⟨?_,?_⟩
  · intro y0 y1 y2 y3 y4;unfold puncheonref11_Of.l0
    repeat' first
    | (with_reducible exact ih0 _ _ _ _ _)
    | (with_reducible exact ih1 _ _ _ _ _ _)
    | (with_reducible exact puncheonref07_Floor.mono _ _)
    | (with_reducible exact puncheonref08_Log.mono _ _)
    | (with_reducible exact puncheonref10_Place.mono _ _ _ _)
    | (with_reducible exact LeO.refl _)
    | (with_reducible exact LeO.none _)
    | (with_reducible refine LeO.ite ?_ ?_)
    | (with_reducible refine LeO.bind ?_ (λ _=>?_))
    | exact ih0 _ _ _ _ _
    | exact ih1 _ _ _ _ _ _
    | exact puncheonref07_Floor.mono _ _
    | exact puncheonref08_Log.mono _ _
    | exact puncheonref10_Place.mono _ _ _ _
    | exact LeO.none _
    | refine LeO.ite ?_ ?_
    | refine LeO.bind ?_ (λ _=>?_)
  · intro y0 y1 y2 y3 y4 y5;unfold puncheonref11_Of.l1
    repeat' first
    | (with_reducible exact ih0 _ _ _ _ _)
    | (with_reducible exact ih1 _ _ _ _ _ _)
    | (with_reducible exact puncheonref07_Floor.mono _ _)
    | (with_reducible exact puncheonref08_Log.mono _ _)
    | (with_reducible exact puncheonref10_Place.mono _ _ _ _)
    | (with_reducible exact LeO.refl _)
    | (with_reducible exact LeO.none _)
    | (with_reducible refine LeO.ite ?_ ?_)
    | (with_reducible refine LeO.bind ?_ (λ _=>?_))
    | exact ih0 _ _ _ _ _
    | exact ih1 _ _ _ _ _ _
    | exact puncheonref07_Floor.mono _ _
    | exact puncheonref08_Log.mono _ _
    | exact puncheonref10_Place.mono _ _ _ _
    | exact LeO.none _
    | refine LeO.ite ?_ ?_
    | refine LeO.bind ?_ (λ _=>?_)
theorem puncheonref11_Of.mono:∀ a0 k,LeO (puncheonref11_Of.f k a0) (puncheonref11_Of.f (k+1) a0):=by
 intro a0 k;obtain⟨ih0,ih1⟩:=puncheonref11_Of.mono_l k;unfold puncheonref11_Of.f
 repeat' first
     | (with_reducible exact ih0 _ _ _ _ _)
     | (with_reducible exact ih1 _ _ _ _ _ _)
     | (with_reducible exact puncheonref07_Floor.mono _ _)
     | (with_reducible exact puncheonref08_Log.mono _ _)
     | (with_reducible exact puncheonref10_Place.mono _ _ _ _)
     | (with_reducible exact LeO.refl _)
     | (with_reducible exact LeO.none _)
     | (with_reducible refine LeO.ite ?_ ?_)
     | (with_reducible refine LeO.bind ?_ (λ _=>?_))
     | exact ih0 _ _ _ _ _
     | exact ih1 _ _ _ _ _ _
     | exact puncheonref07_Floor.mono _ _
     | exact puncheonref08_Log.mono _ _
     | exact puncheonref10_Place.mono _ _ _ _
     | exact LeO.none _
     | refine LeO.ite ?_ ?_
     | refine LeO.bind ?_ (λ _=>?_)
def puncheonref11_Of.T13:Bool×List (List Nat×List Nat):=(true,[([],[]),([],[]),([],[]),([],[]),([1,2,3],[1,2,3]),([],[]),([5],[5]),([],[]),([],[]),([],[]),([9],[9]),([8,10],[8,10]),([],[]),([11,12],[11,12]),([6,7,13],[6,7,13]),([0,4,0,1,2,3,4,5,6,7,8,9,10,11,12,13,14],[0,4]),([15,14,4,0,1,2,3,4,5,6,7,8,9,10,11,12,13,14],[14,15])])
def puncheonref11_Of.B13:List Nat:=[0,0,0,0,14,0,32,0,0,0,512,1792,0,7936,16352,32767,65535]
theorem puncheonref11_Of.tab13:rtab .any (opsOf Tryz.f124 13)=puncheonref11_Of.T13:=by kernel_rfl
theorem puncheonref11_Of.bits13:a2E puncheonref11_Of.T13.2 puncheonref11_Of.B13=true:=by kernel_rfl
theorem puncheonref11_Of.calls (k:Nat) (A0:Option Addr) (c0:Nat) (l0:List Int) (r1:List (S170)) (r2:Int) (w:World) (hr0:Kd.C (Kd.int .i64) w A0 l0.length l0) (hc0:l0.length<=c0) (h:puncheonref11_Of.f k l0=some (r1,r2)) :
    Calls Tryz.prog 124 #[.slice A0 l0.length c0] w λ e w'=>∃ v0_:Value,e=.returned (.tuple #[v0_,.int .i64 r2])/\Kd.R k170 170 w' w.heap.size (λ _=>True) v0_ r1/\Below w.heap.size w w':=by
 have hu170:=Tryz.underlying170;have HR0:=Aside0.mk hr0;have HC0:=Aside0.mk hc0;clear hr0 hc0;have HB:=Aside0.mk (Below.refl w.heap.size w);have H:((puncheonref08_Log.f k l0).bind λ t219=>(if t219=0 then (some (([]:List (S170)),1)) else (if 0<=t219 then (if 0<=(shl .i64 1 t219) then (if (shl .i64 1 t219:Int).toNat<=11728124029610 then (puncheonref11_Of.l0 k l0 t219 (shl .i64 1 t219) (List.replicate (shl .i64 1 t219:Int).toNat z170) 0) else (none)) else (none)) else (none))))=some (r1,r2):=h;clear h
 replace H:=Option.bind_eq_some_iff.mp H
 obtain⟨t219,A20,H⟩:=H
 replace H:(if t219=0 then (some (([]:List (S170)),1)) else (if 0<=t219 then (if 0<=(shl .i64 1 t219) then (if (shl .i64 1 t219:Int).toNat<=11728124029610 then (puncheonref11_Of.l0 k l0 t219 (shl .i64 1 t219) (List.replicate (shl .i64 1 t219:Int).toNat z170) 0) else (none)) else (none)) else (none)))=some (r1,r2):=H
 have A2:=Aside0.mk A20;clear A20
 by_cases c3:t219=0
 · rw[if_pos c3] at H;have c3b0:(t219==0)=true:=beq_iff_eq.mpr c3;have c3b1:(t219 != 0)=false:=bne_eq_false_iff_eq.mpr c3;clear c3;simp only[Option.some.injEq,Prod.mk.injEq] at H;obtain⟨rfl,rfl⟩:=H;go_enter Tryz.func124,Tryz.ntmps124;go_wp2_with (first | ((with_reducible refine a1p (f:=172) rfl ?_);refine a1o (some 11) rfl rfl Tryz.func172 (by kernel_rfl) rfl #[.slice A0 l0.length c0] rfl (by (try simp only[List.map_toArray,List.map_cons,List.map_nil]);first | done | rfl | (simp only[List.length_drop,List.length_take];rfl)) ?_;(with_reducible refine(puncheonref08_Log.calls k _ _ l0 t219 _ ?side1 ?side2 A2.out).mono ?_);(case side1=>repeat (first | exact HR0.out | (with_reducible refine Kd.C_alloc ?_ _) | (with_reducible refine Kd.C_drewN ?_ _) | (with_reducible refine Kd.C_drew ?_)));(case side2=>exact HC0.out);rintro e w' ⟨rfl,⟨nd,rfl⟩⟩;refine⟨_,rfl,?_⟩));go_ret2;exact⟨_,by first | rfl | (simp[a0l,a0m] <;> rfl) | (simp[*,a0l,a0m] <;> rfl),by first | exact Kd.R_nil _ _ _ _ _ | exact Kd.N_nil _ _ _ _ _ | exact Kd.V_nil _ _ _ _ _ | exact Kd.Q_nil _ _ _ _ _ | exact Kd.S_nil _ _ _ _ _,by repeat (first | (with_reducible first | exact HB.out | apply a0c | apply a0b | apply a0d) | exact HB.out)⟩
 · rw[if_neg c3] at H;have c3b0:(t219==0)=false:=beq_eq_false_iff_ne.mpr c3;have c3b1:(t219 != 0)=true:=bne_iff_ne.mpr c3
   by_cases c4:0<=t219
   · rw[if_pos c4] at H;have c4b0:=eq_true c4;have c4b1:decide (0<=t219)=true:=decide_eq_true c4;clear c4;obtain⟨ji5,hji5⟩:∃ j_:Int,(shl .i64 1 t219)=j_:=⟨_,rfl⟩
     replace H:(if 0<=(ji5) then (if (ji5:Int).toNat<=11728124029610 then (puncheonref11_Of.l0 k l0 t219 ji5 (List.replicate (ji5:Int).toNat z170) 0) else (none)) else (none))=some (r1,r2):=by first | (rw[hji5] at H;exact H) | (simp only[hji5] at H ⊢;exact H)
     (try rw[hji5] at A2)
     have hji5_:(IntKind.i64.wrap (1*2^min t219.toNat 64))=ji5:=hji5;have hji5z:t219<=64->(IntKind.i64.wrap (1*2^t219.toNat))=ji5:=a5u hji5;have hji5u:(IntKind.i64.wrap (2^min t219.toNat 64))=ji5:=by have h_:=hji5_;rw[Int.one_mul] at h_;exact h_
     have hji5v:t219<=64->(IntKind.i64.wrap (2^t219.toNat))=ji5:=λ hle_=>by have h_:=hji5z hle_;rw[Int.one_mul] at h_;exact h_
     have hji5y:(wrap64 (1*2^min t219.toNat 64))=ji5:=(i64_w _).symm.trans hji5_;have hji5x:t219<=64->(wrap64 (1*2^t219.toNat))=ji5:=λ h_=>(i64_w _).symm.trans (hji5z h_)
     by_cases c6:0<=(ji5)
     · rw[if_pos c6] at H;have c6b0:=eq_true c6;have c6b1:decide (0<=(ji5))=true:=decide_eq_true c6;clear c6
       by_cases c7:(ji5:Int).toNat<=11728124029610
       · rw[if_pos c7] at H;have c7b0:=eq_true c7;have c7b1:decide ((ji5:Int).toNat<=11728124029610)=true:=decide_eq_true c7;clear c7;obtain⟨y220,hy220⟩:∃ y_:List (S170),y_=(List.replicate (ji5:Int).toNat z170):=⟨_,rfl⟩
         replace H:(puncheonref11_Of.l0 k l0 t219 ji5 y220 0)=some (r1,r2):=by first | (rw[hy220];with_reducible exact H) | (have H2_:=(Option.bind_some _ _).symm.trans H;rw[hy220];with_reducible exact H2_) | (have H2_:=(Option.bind_some _ _).symm.trans H;with_reducible exact H2_) | with_reducible exact H | (rw[hy220];exact H) | exact H
         have Ny220:=Aside0.mk hy220;clear hy220;have H':=Aside0.mk H;clear H;go_enter Tryz.func124,Tryz.ntmps124;go_wp2_with (first | ((with_reducible refine a1p (f:=172) rfl ?_);refine a1o (some 11) rfl rfl Tryz.func172 (by kernel_rfl) rfl #[.slice A0 l0.length c0] rfl (by (try simp only[List.map_toArray,List.map_cons,List.map_nil]);first | done | rfl | (simp only[List.length_drop,List.length_take];rfl)) ?_;(with_reducible refine(puncheonref08_Log.calls k _ _ l0 t219 _ ?side1 ?side2 A2.out).mono ?_);(case side1=>repeat (first | exact HR0.out | (with_reducible refine Kd.C_alloc ?_ _) | (with_reducible refine Kd.C_drewN ?_ _) | (with_reducible refine Kd.C_drew ?_)));(case side2=>exact HC0.out);rintro e w' ⟨rfl,⟨nd,rfl⟩⟩;refine⟨_,rfl,?_⟩) | ((with_reducible refine a1L (N:=17) rfl ?_);refine Kd.R_make k170 _ 170 rfl (N:=17) rfl 165 _ _ rfl ji5 rfl rfl Tryz.underlying165 (.agg #[(.int .u8 0),(.int .i64 0),(.int .i64 0)]) 24 c3j rfl (by decide) (by omega) z170 (ok:=λ _=>True) (okp:=λ _=>True) (b4z _ _ _ z170 ) (λ _ hk=>hk) trivial (of_decide_eq_true (by first | (with_reducible assumption) | assumption)) (Nat.le_trans (Nat.mul_le_mul_right _ (of_decide_eq_true (by first | (with_reducible assumption) | assumption):ji5.toNat<=11728124029610)) (by omega)) (Below.refl _ _) (Nat.le_refl _) ?_;intro v221 w8 ho9 hb hg_ hnew_;clear hg_ hnew_;(first | rw[<- Ny220.out] at ho9 | (simp only[Int.reduceToNat] at ho9;rw[<- Ny220.out] at ho9));have n0_:=Aside0.mk (Kd.R_lower ho9 (a0Q (by repeat (first | (with_reducible first | exact HB.out | apply a0c | apply a0b | apply a0d) | exact HB.out))));have n1_:=Aside0.mk (a1n (by repeat (first | (with_reducible first | exact HB.out | apply a0c | apply a0b | apply a0d) | exact HB.out)) hb);clear HB;have HO222:=n0_;have HB:=n1_;clear n0_ n1_;clear hb ho9))
         go_loopg [7] k (λ kq v7 w'=>∃ (x6_1:List (S170)) (x7_1:Int),v7=.int .i64 x7_1/\Aside0 (puncheonref11_Of.l0 kq l0 t219 ji5 x6_1 x7_1=some (r1,r2))/\Aside0 (kq<=k)/\Aside0 (Kd.R k170 170 w' w.heap.size (λ _=>True) v221 x6_1)/\Aside0 (Below w.heap.size w w'))
         case atStart=>exact⟨(y220),(0),(by first | rfl | (simp;done) | (simp[*];done)),H',⟨Nat.le_refl _⟩,⟨by (with_reducible repeat (first | apply Kd.R_alloc | apply Kd.R_drewN | apply Kd.R_drew));exact HO222.out⟩,⟨by repeat (first | (with_reducible first | exact HB.out | apply a0c | apply a0b | apply a0d) | exact HB.out)⟩⟩
         case round=>
          clear H'
          try clear c1
          try clear p2
          try clear c3
          try clear c3b0
          try clear c3b1
          try clear c4
          try clear c4b0
          try clear c4b1
          try clear c6
          try clear c6b0
          try clear c6b1
          try clear p6
          try clear c7
          try clear c7b0
          try clear c7b1
          obtain⟨x6_1,x7_1,rfl,HA,HK1,HO_6,HB⟩:=hrel
          cases gk with
          | zero=>exact absurd HA.out (by simp[puncheonref11_Of.l0])
          | succ k1=>
           have H:=HA.out;clear HA;simp only[puncheonref11_Of.l0] at H
           by_cases c10:x7_1<256
           · rw[if_pos c10] at H;have c10b0:decide (x7_1<256)=true:=decide_eq_true c10;clear c10
             by_cases c11:0<=x7_1
             · rw[if_pos c11] at H;have c11b0:decide (0<=x7_1)=true:=decide_eq_true c11;clear c11
               by_cases c12:x7_1<(l0.length:Int)
               · rw[if_pos c12] at H;have c12b0:decide (x7_1<(l0.length:Int))=true:=decide_eq_true c12;clear c12;have H':=Aside0.mk H;clear H;have p223:0<=(x7_1:Int):=of_decide_eq_true (by first | (with_reducible assumption) | assumption);have q223:x7_1<(l0.length:Int):=of_decide_eq_true (by first | (with_reducible assumption) | assumption);obtain⟨ad223,e223,hx223_0⟩:=Kd.at_int HR0.out x7_1 p223 q223
                 cases e223
                 replace hx223_0:=(HB.out.cell (World.block_lt_of_cell? w _ hx223_0)).trans hx223_0
                 replace p223:=eq_true p223
                 replace q223:=eq_true q223
                 go_wp2;go_loopg [8] k1 (λ kq v8 w'=>∃ (x6_2:List (S170)) (x8_2:Int),v8=.int .i64 x8_2/\Aside0 (puncheonref11_Of.l1 kq l0 t219 ji5 x6_2 x7_1 x8_2=some (r1,r2))/\Aside0 (kq<=k1)/\Aside0 (Kd.R k170 170 w' w.heap.size (λ _=>True) v221 x6_2)/\Aside0 (Below w.heap.size w w'))
                 case atStart=>exact⟨(x6_1),(rd l0 x7_1),(by first | rfl | (simp;done) | (simp[*];done)),H',⟨Nat.le_refl _⟩,⟨by (with_reducible repeat (first | apply Kd.R_alloc | apply Kd.R_drewN | apply Kd.R_drew));exact HO_6.out⟩,⟨by repeat (first | (with_reducible first | exact HB.out | apply a0c | apply a0b | apply a0d) | exact HB.out)⟩⟩
                 case round=>
                  clear H'
                  try clear c1
                  try clear p2
                  try clear q2
                  try clear hx2
                  try clear c3
                  try clear c3b0
                  try clear c3b1
                  try clear c4
                  try clear c4b0
                  try clear c4b1
                  try clear c6
                  try clear c6b0
                  try clear c6b1
                  try clear p6
                  try clear c7
                  try clear c7b0
                  try clear c7b1
                  try clear c10
                  try clear c10b0
                  try clear c11
                  try clear c11b0
                  try clear c12
                  try clear c12b0
                  try clear hx223_0
                  try clear p2
                  try clear p223
                  try clear p6
                  try clear q223
                  obtain⟨x6_2,x8_2,rfl,HA,HK2,HO_6,HB⟩:=hrel
                  cases gk with
                  | zero=>exact absurd HA.out (by simp[puncheonref11_Of.l1])
                  | succ k2=>
                   have H:=HA.out;clear HA;simp only[puncheonref11_Of.l1] at H
                   by_cases c13:0<=x7_1
                   · rw[if_pos c13] at H;have c13b0:decide (0<=x7_1)=true:=decide_eq_true c13;clear c13
                     by_cases c14:x7_1<(l0.length:Int)
                     · rw[if_pos c14] at H;have c14b0:decide (x7_1<(l0.length:Int))=true:=decide_eq_true c14;clear c14
                       by_cases c15:x8_2<(wrap64 (2*(rd l0 x7_1)))
                       · rw[if_pos c15] at H;have c15b0:decide (x8_2<(wrap64 (2*(rd l0 x7_1))))=true:=decide_eq_true c15;clear c15
                         replace H:=Option.bind_eq_some_iff.mp H
                         obtain⟨t225,A160,H⟩:=H
                         replace H:((puncheonref10_Place.f k2 l0 x7_1 x8_2).bind λ t226=>(if 0<=(wrap64 (t219-t225)) then (if 0<=t226 then (if t226<(x6_2.length:Int) then (puncheonref11_Of.l1 k2 l0 t219 ji5 (x6_2.set (t226:Int).toNat (⟨(x7_1)%256,wrap64 (t219-t225),wrap64 ((wrap64 (x8_2*(shl .i64 1 (wrap64 (t219-t225)))))-ji5)⟩:S170)) x7_1 (wrap64 (x8_2+1))) else (none)) else (none)) else (none)))=some (r1,r2):=H
                         have A16:=Aside0.mk A160;clear A160
                         replace H:=Option.bind_eq_some_iff.mp H
                         obtain⟨t226,A170,H⟩:=H
                         replace H:(if 0<=(wrap64 (t219-t225)) then (if 0<=t226 then (if t226<(x6_2.length:Int) then (puncheonref11_Of.l1 k2 l0 t219 ji5 (x6_2.set (t226:Int).toNat (⟨(x7_1)%256,wrap64 (t219-t225),wrap64 ((wrap64 (x8_2*(shl .i64 1 (wrap64 (t219-t225)))))-ji5)⟩:S170)) x7_1 (wrap64 (x8_2+1))) else (none)) else (none)) else (none))=some (r1,r2):=H
                         have A17:=Aside0.mk A170;clear A170;obtain⟨ji18,hji18⟩:∃ j_:Int,(wrap64 (t219-t225))=j_:=⟨_,rfl⟩
                         replace H:(if 0<=(ji18) then (if 0<=t226 then (if t226<(x6_2.length:Int) then (puncheonref11_Of.l1 k2 l0 t219 ji5 (x6_2.set (t226:Int).toNat (⟨(x7_1)%256,ji18,wrap64 ((wrap64 (x8_2*(shl .i64 1 (ji18))))-ji5)⟩:S170)) x7_1 (wrap64 (x8_2+1))) else (none)) else (none)) else (none))=some (r1,r2):=by first | (rw[hji18] at H;exact H) | (simp only[hji18] at H ⊢;exact H)
                         (try rw[hji18] at A16)
                         (try rw[hji18] at A17)
                         have hji18w:(IntKind.i64.wrap (t219-t225))=ji18:=(i64_w _).trans hji18
                         by_cases c19:0<=(ji18)
                         · rw[if_pos c19] at H;have c19b0:=eq_true c19;have c19b1:decide (0<=(ji18))=true:=decide_eq_true c19;clear c19;obtain⟨ji20,hji20⟩:∃ j_:Int,(shl .i64 1 (ji18))=j_:=⟨_,rfl⟩
                           replace H:(if 0<=t226 then (if t226<(x6_2.length:Int) then (puncheonref11_Of.l1 k2 l0 t219 ji5 (x6_2.set (t226:Int).toNat (⟨(x7_1)%256,ji18,wrap64 ((wrap64 (x8_2*(ji20)))-ji5)⟩:S170)) x7_1 (wrap64 (x8_2+1))) else (none)) else (none))=some (r1,r2):=by first | (rw[hji20] at H;exact H) | (simp only[hji20] at H ⊢;exact H)
                           (try rw[hji20] at A16)
                           (try rw[hji20] at A17)
                           have hji20_:(IntKind.i64.wrap (1*2^min (ji18).toNat 64))=ji20:=hji20;have hji20z:(ji18)<=64->(IntKind.i64.wrap (1*2^(ji18).toNat))=ji20:=a5u hji20;have hji20u:(IntKind.i64.wrap (2^min (ji18).toNat 64))=ji20:=by have h_:=hji20_;rw[Int.one_mul] at h_;exact h_
                           have hji20v:(ji18)<=64->(IntKind.i64.wrap (2^(ji18).toNat))=ji20:=λ hle_=>by have h_:=hji20z hle_;rw[Int.one_mul] at h_;exact h_
                           have hji20y:(wrap64 (1*2^min (ji18).toNat 64))=ji20:=(i64_w _).symm.trans hji20_;have hji20x:(ji18)<=64->(wrap64 (1*2^(ji18).toNat))=ji20:=λ h_=>(i64_w _).symm.trans (hji20z h_)
                           by_cases c21:0<=t226
                           · rw[if_pos c21] at H;have c21b0:decide (0<=t226)=true:=decide_eq_true c21;clear c21
                             by_cases c22:t226<(x6_2.length:Int)
                             · rw[if_pos c22] at H;have c22b0:decide (t226<(x6_2.length:Int))=true:=decide_eq_true c22;clear c22;obtain⟨y227,hy227⟩:∃ y_:List (S170),y_=(x6_2.set (t226:Int).toNat (⟨(x7_1)%256,ji18,wrap64 ((wrap64 (x8_2*(ji20)))-ji5)⟩:S170)):=⟨_,rfl⟩
                               replace H:(puncheonref11_Of.l1 k2 l0 t219 ji5 y227 x7_1 (wrap64 (x8_2+1)))=some (r1,r2):=by first | (rw[hy227];with_reducible exact H) | (have H2_:=(Option.bind_some _ _).symm.trans H;rw[hy227];with_reducible exact H2_) | (have H2_:=(Option.bind_some _ _).symm.trans H;with_reducible exact H2_) | with_reducible exact H | (rw[hy227];exact H) | exact H
                               have Ny227:=Aside0.mk hy227;clear hy227;have H':=Aside0.mk H;clear H;have p224:0<=(x7_1:Int):=of_decide_eq_true (by first | (with_reducible assumption) | assumption);have q224:x7_1<(l0.length:Int):=of_decide_eq_true (by first | (with_reducible assumption) | assumption);obtain⟨ad224,e224,hx224_0⟩:=Kd.at_int HR0.out x7_1 p224 q224;obtain rfl:ad223=ad224:=(by injection e224)
                               replace hx224_0:=(HB.out.cell (World.block_lt_of_cell? w _ hx224_0)).trans hx224_0
                               replace p224:=eq_true p224
                               replace q224:=eq_true q224
                               try go_wp2_with (first | ((with_reducible refine a1p (f:=174) rfl ?_);refine a1o (some 37) rfl rfl Tryz.func174 (by kernel_rfl) rfl #[.int .i64 x8_2] rfl (by (try simp only[List.map_toArray,List.map_cons,List.map_nil]);first | done | rfl | (simp only[List.length_drop,List.length_take];rfl)) ?_;(with_reducible refine(puncheonref07_Floor.calls k2 x8_2 t225 _ A16.out).mono ?_);rintro e w' ⟨rfl,⟨nd,rfl⟩⟩;refine⟨_,rfl,?_⟩;(try (rw[b9J wr];generalize hq_:World.drewN wr _=wr;have n0_:Aside0 (Kd.R k170 170 wr w.heap.size (λ _=>True) v221 x6_2):=⟨by rw[<- hq_];exact(by (with_reducible repeat (first | apply Kd.R_alloc | apply Kd.R_drewN | apply Kd.R_drew));exact HO_6.out)⟩;have n1_:Aside0 (Below w.heap.size w wr):=⟨by rw[<- hq_];exact(by repeat (first | (with_reducible first | exact HB.out | apply a0c | apply a0b | apply a0d) | exact HB.out))⟩;clear HO_6 HB hq_;have HO_6:=n0_;have HB:=n1_;clear n0_ n1_))))
                               have n0_:=Aside0.mk (Kd.R_drew HO_6.out);have n1_:=Aside0.mk (a0d HB.out);clear HO_6;clear HB;have HO_6:=n0_;have HB:=n1_;clear n0_ n1_;refine b1Y (n:=17) (S:=λ w'=>True) (ds:=[16]) #[false,false,false,false,false,false,false,false,false,false,false,false,false,false,false,false,false] (by kernel_rfl) rfl rfl trivial (λ hHeld=>?_);refine b2E puncheonref11_Of.tab13 puncheonref11_Of.bits13 (λ HT_ HW_=>?_)
                               generalize wr.drew=w24 at HO_6 HB hHeld ⊢
                               refine pure_ (i:=0) (N:=some 39) (v:=?_) (a':=?_) #[true,false,false,false,false,false,false,false,false,false,false,false,false,false,false,false,false] rfl rfl (a1e HT_.out (by kernel_rfl)) (λ _ _ _ h=>h) (Or.inl ⟨by rfl,?_⟩) ?_ ?_
                               rotate_left
                               · intro w';go_simp
                                 with_reducible rfl
                               rotate_left
                               · simp only[Act.put,List.setIfInBounds_toArray,List.set_cons_zero,List.set_cons_succ,i64_w,i32_w];rfl
                               refine pure_ (i:=1) (N:=some 40) (v:=?_) (a':=?_) #[true,true,false,false,false,false,false,false,false,false,false,false,false,false,false,false,false] rfl rfl (a1e HT_.out (by kernel_rfl)) (λ _ _ _ h=>h) (Or.inl ⟨by rfl,?_⟩) ?_ ?_
                               rotate_left
                               · intro w';go_simp
                                 with_reducible rfl
                               rotate_left
                               · simp only[Act.put,List.setIfInBounds_toArray,List.set_cons_zero,List.set_cons_succ,i64_w,i32_w];rfl
                               refine pure_ (i:=2) (N:=some 41) (v:=?_) (a':=?_) #[true,true,true,false,false,false,false,false,false,false,false,false,false,false,false,false,false] rfl rfl (a1e HT_.out (by kernel_rfl)) (λ _ _ _ h=>h) (Or.inl ⟨by rfl,?_⟩) ?_ ?_
                               rotate_left
                               · intro w';go_simp
                                 with_reducible rfl
                               rotate_left
                               · simp only[Act.put,List.setIfInBounds_toArray,List.set_cons_zero,List.set_cons_succ,i64_w,i32_w];rfl
                               refine pure_ (i:=3) (N:=some 42) (v:=?_) (a':=?_) #[true,true,true,true,false,false,false,false,false,false,false,false,false,false,false,false,false] rfl rfl (a1e HT_.out (by kernel_rfl)) (λ _ _ _ h=>h) (Or.inl ⟨by rfl,?_⟩) ?_ ?_
                               rotate_left
                               · intro w';go_simp
                                 with_reducible rfl
                               rotate_left
                               · simp only[Act.put,List.setIfInBounds_toArray,List.set_cons_zero,List.set_cons_succ,i64_w,i32_w];rfl
                               refine pure_ (i:=5) (N:=some 44) (v:=?_) (a':=?_) #[true,true,true,true,false,true,false,false,false,false,false,false,false,false,false,false,false] rfl rfl (a1e HT_.out (by kernel_rfl)) (λ _ _ _ h=>h) (Or.inl ⟨by rfl,?_⟩) ?_ ?_
                               rotate_left
                               · intro w';go_simp
                                 with_reducible rfl
                               rotate_left
                               · simp only[Act.put,List.setIfInBounds_toArray,List.set_cons_zero,List.set_cons_succ,i64_w,i32_w];rfl
                               refine pure_ (i:=6) (N:=some 45) (v:=?_) (a':=?_) #[true,true,true,true,false,true,true,false,false,false,false,false,false,false,false,false,false] rfl rfl (a1e HT_.out (by kernel_rfl)) (λ _ _ _ h=>h) (Or.inl ⟨by rfl,?_⟩) ?_ ?_
                               rotate_left
                               · intro w';go_simp
                                 with_reducible rfl
                               rotate_left
                               · simp only[Act.put,List.setIfInBounds_toArray,List.set_cons_zero,List.set_cons_succ,i64_w,i32_w];rfl
                               refine pure_ (i:=7) (N:=some 46) (v:=?_) (a':=?_) #[true,true,true,true,false,true,true,true,false,false,false,false,false,false,false,false,false] rfl rfl (a1e HT_.out (by kernel_rfl)) (λ _ _ _ h=>h) (Or.inl ⟨by rfl,?_⟩) ?_ ?_
                               rotate_left
                               · intro w';go_simp
                                 with_reducible rfl
                               rotate_left
                               · simp only[Act.put,List.setIfInBounds_toArray,List.set_cons_zero,List.set_cons_succ,i64_w,i32_w];rfl
                               refine pure_ (i:=8) (N:=some 47) (v:=?_) (a':=?_) #[true,true,true,true,false,true,true,true,true,false,false,false,false,false,false,false,false] rfl rfl (a1e HT_.out (by kernel_rfl)) (λ _ _ _ h=>h) (Or.inl ⟨by rfl,?_⟩) ?_ ?_
                               rotate_left
                               · intro w';go_simp
                                 with_reducible rfl
                               rotate_left
                               · simp only[Act.put,List.setIfInBounds_toArray,List.set_cons_zero,List.set_cons_succ,i64_w,i32_w];rfl
                               refine pure_ (i:=9) (N:=some 48) (v:=?_) (a':=?_) #[true,true,true,true,false,true,true,true,true,true,false,false,false,false,false,false,false] rfl rfl (a1e HT_.out (by kernel_rfl)) (λ _ _ _ h=>h) (Or.inl ⟨by rfl,?_⟩) ?_ ?_
                               rotate_left
                               · intro w';go_simp
                                 with_reducible rfl
                               rotate_left
                               · simp only[Act.put,List.setIfInBounds_toArray,List.set_cons_zero,List.set_cons_succ,i64_w,i32_w];rfl
                               refine pure_ (i:=10) (N:=some 49) (v:=?_) (a':=?_) #[true,true,true,true,false,true,true,true,true,true,true,false,false,false,false,false,false] rfl rfl (a1e HT_.out (by kernel_rfl)) (λ _ _ _ h=>h) (Or.inl ⟨by rfl,?_⟩) ?_ ?_
                               rotate_left
                               · intro w';go_simp
                                 with_reducible rfl
                               rotate_left
                               · simp only[Act.put,List.setIfInBounds_toArray,List.set_cons_zero,List.set_cons_succ,i64_w,i32_w];rfl
                               refine pure_ (i:=11) (N:=some 50) (v:=?_) (a':=?_) #[true,true,true,true,false,true,true,true,true,true,true,true,false,false,false,false,false] rfl rfl (a1e HT_.out (by kernel_rfl)) (λ _ _ _ h=>h) (Or.inl ⟨by rfl,?_⟩) ?_ ?_
                               rotate_left
                               · intro w';go_simp
                                 with_reducible rfl
                               rotate_left
                               · simp only[Act.put,List.setIfInBounds_toArray,List.set_cons_zero,List.set_cons_succ,i64_w,i32_w];rfl
                               refine pure_ (i:=12) (N:=some 51) (v:=?_) (a':=?_) #[true,true,true,true,false,true,true,true,true,true,true,true,true,false,false,false,false] rfl rfl (a1e HT_.out (by kernel_rfl)) (λ _ _ _ h=>h) (Or.inl ⟨by rfl,?_⟩) ?_ ?_
                               rotate_left
                               · intro w';go_simp
                                 with_reducible rfl
                               rotate_left
                               · simp only[Act.put,List.setIfInBounds_toArray,List.set_cons_zero,List.set_cons_succ,i64_w,i32_w];rfl
                               refine pure_ (i:=13) (N:=some 52) (v:=?_) (a':=?_) #[true,true,true,true,false,true,true,true,true,true,true,true,true,true,false,false,false] rfl rfl (a1e HT_.out (by kernel_rfl)) (λ _ _ _ h=>h) (Or.inl ⟨by rfl,?_⟩) ?_ ?_
                               rotate_left
                               · intro w';go_simp
                                 with_reducible rfl
                               rotate_left
                               · simp only[Act.put,List.setIfInBounds_toArray,List.set_cons_zero,List.set_cons_succ,i64_w,i32_w];rfl
                               refine pure_ (i:=14) (N:=some 53) (v:=?_) (a':=?_) #[true,true,true,true,false,true,true,true,true,true,true,true,true,true,true,false,false] rfl rfl (a1e HT_.out (by kernel_rfl)) (λ _ _ _ h=>h) (Or.inl ⟨by rfl,?_⟩) ?_ ?_
                               rotate_left
                               · intro w';go_simp
                                 with_reducible rfl
                               rotate_left
                               · simp only[Act.put,List.setIfInBounds_toArray,List.set_cons_zero,List.set_cons_succ,i64_w,i32_w];rfl
                               refine one_ (i:=4) (N:=some 43) #[true,true,true,true,true,true,true,true,true,true,true,true,true,true,true,false,false] rfl rfl (a8L HT_.out (by kernel_rfl)) (by decide) (λ K hK=>?_);refine goes_ Tryz.func175 (by kernel_rfl) rfl #[.slice (some ad223) l0.length c0,.int .i64 x7_1,.int .i64 x8_2] (by rfl) rfl rfl (by (try simp only[List.map_toArray,List.map_cons,List.map_nil]);first | done | rfl | (simp only[List.length_drop,List.length_take];rfl)) ?_
                               with_reducible refine(puncheonref10_Place.calls k2 _ _ l0 x7_1 x8_2 t226 _ ?side1 ?side2 A17.out).mono ?_
                               (case side1=>repeat (first | exact(Kd.C_below HR0.out HB.out) | (with_reducible refine Kd.C_alloc ?_ _) | (with_reducible refine Kd.C_drewN ?_ _) | (with_reducible refine Kd.C_drew ?_)))
                               (case side2=>exact HC0.out)
                               rintro e w' ⟨rfl,⟨nd,rfl⟩⟩;refine⟨_,rfl,?_⟩;have p23:0<=(t226:Int):=of_decide_eq_true (by first | (with_reducible assumption) | assumption);have q23:(t226:Int)<((x6_2.length:Int):Int):=of_decide_eq_true (by first | (with_reducible assumption) | assumption);obtain⟨go23,co23,eo23,gb23,gl23,cl23,HG23⟩:=Kd.R_form HO_6.out (by omega)
                               (first | cases eo23 | (injection eo23 with ea_ en_ ec_;(first | subst ea_ | (injection ea_ with ea_;subst ea_));subst ec_;clear en_))
                               have GB23:=Aside0.mk gb23;have GG23:=Aside0.mk HG23;clear gb23 gl23 HG23;obtain⟨ce23,hcl23,hM23,hcc23,hfr23⟩:=Kd.R_elem HO_6.out z170 (t226:Int) p23 q23;obtain rfl:=b4y hM23;have hx23_0:World.cell? _ ⟨go23,(t226:Int).toNat*3,none⟩=some (.int .u8 ((a4U x6_2 t226).f0)):=hcc23 0 _ rfl;have hx23_1:World.cell? _ ⟨go23,(t226:Int).toNat*3+1,none⟩=some (.int .i64 ((a4U x6_2 t226).f1)):=hcc23 1 _ rfl;have hx23_2:World.cell? _ ⟨go23,(t226:Int).toNat*3+2,none⟩=some (.int .i64 ((a4U x6_2 t226).f2)):=hcc23 2 _ rfl;have hf23_0:World.frozen? _ ⟨go23,(t226:Int).toNat*3,none⟩=false:=hfr23 0;have hf23_1:World.frozen? _ ⟨go23,(t226:Int).toNat*3+1,none⟩=false:=hfr23 1;have hf23_2:World.frozen? _ ⟨go23,(t226:Int).toNat*3+2,none⟩=false:=hfr23 2;clear hcl23 hcc23 hfr23 hM23
                               replace p23:=eq_true p23
                               replace q23:=eq_true q23
                               obtain⟨ce25,hcl25,hM25,hcc25,hfr25⟩:=Kd.R_elem HO_6.out z170 (t226:Int) (of_decide_eq_true (by first | (with_reducible assumption) | assumption)) (by have h_:(t226:Int)<((x6_2.length:Int):Int):=of_decide_eq_true (by first | (with_reducible assumption) | assumption);first | exact h_ | (have e_:=(Kd.R_reads' HO_6.out).1;omega) | simpa using h_);obtain rfl:=b4y hM25;have HP25:=(Kd.R_seg HO_6.out (t226:Int) (of_decide_eq_true (by first | (with_reducible assumption) | assumption)) (by have h_:(t226:Int)<((x6_2.length:Int):Int):=of_decide_eq_true (by first | (with_reducible assumption) | assumption);first | exact h_ | (have e_:=(Kd.R_reads' HO_6.out).1;omega) | simpa using h_) (seg:=[.int .u8 ((x7_1)%256),.int .i64 ji18,.int .i64 (wrap64 ((wrap64 (x8_2*(ji20)))-ji5))]) (j:=0) hcl25 hcc25 (show 3<=3 from by decide) (x':=(⟨(x7_1)%256,ji18,wrap64 ((wrap64 (x8_2*(ji20)))-ji5)⟩:S170)) (b4z _ _ _ (⟨(x7_1)%256,ji18,wrap64 ((wrap64 (x8_2*(ji20)))-ji5)⟩:S170) ) (λ _ hk=>hk)).1;rw[<- Ny227.out] at HP25;have HQ25:=Aside0.mk HP25;clear hcl25 hcc25 hfr25 hM25 HP25;refine hK.out _ _ trivial (λ hHeld=>?_);clear hK K;refine norm_ (a':=?_) ?_ ?_
                               rotate_left
                               · show Act.put _ (some 43) _=_
                                 simp only[Act.put,List.setIfInBounds_toArray,List.set_cons_zero,List.set_cons_succ,i64_w,i32_w];rfl
                               refine pure_ (i:=15) (N:=some 54) (v:=?_) (a':=?_) #[true,true,true,true,true,true,true,true,true,true,true,true,true,true,true,true,false] rfl rfl (a1e HT_.out (by kernel_rfl)) (λ _ _ _ h=>h) (Or.inl ⟨by rfl,?_⟩) ?_ ?_
                               rotate_left
                               · intro w';go_simp
                                 with_reducible rfl
                               rotate_left
                               · simp only[Act.put,List.setIfInBounds_toArray,List.set_cons_zero,List.set_cons_succ,i64_w,i32_w];rfl
                               refine last_ (i:=16) (N:=none) #[true,true,true,true,true,true,true,true,true,true,true,true,true,true,true,true,true] rfl rfl (a8L HT_.out (by kernel_rfl)) (by decide) (λ K hK=>?_);refine skip_ (w1:=?_) (by rfl) rfl ?_ ?_
                               rotate_left
                               · go_simp;rfl
                               refine hK.out _ _ ?_;clear hK K;refine done_ (b2C HT_.out (by kernel_rfl)) ?_
                               try go_wp2
                               go_roundg k2
                               case measure=>have:=HK1.out;have:=HK2.out;omega
                               case rel=>exact⟨(y227),(wrap64 (x8_2+1)),(by first | rfl | (simp;done) | (simp[*];done)),H',⟨by have:=HK1.out;have:=HK2.out;omega⟩,⟨by (with_reducible repeat (first | apply Kd.R_alloc | apply Kd.R_drewN | apply Kd.R_drew));exact HQ25.out⟩,⟨by repeat (first | (with_reducible first | exact HB.out | apply a0c | apply a0b | apply a0d | refine a0j ?_ GB23.out | refine a0j ?_ GB23.out | refine a0j ?_ GB23.out) | exact HB.out)⟩⟩
                             · rw[if_neg c22] at H;exact absurd H (by simp)
                           · rw[if_neg c21] at H;exact absurd H (by simp)
                         · rw[if_neg c19] at H;exact absurd H (by simp)
                       · rw[if_neg c15] at H;have c15b0:decide (x8_2<(wrap64 (2*(rd l0 x7_1))))=false:=decide_eq_false c15;clear c15;have H':=Aside0.mk H;clear H;have p224:0<=(x7_1:Int):=of_decide_eq_true (by first | (with_reducible assumption) | assumption);have q224:x7_1<(l0.length:Int):=of_decide_eq_true (by first | (with_reducible assumption) | assumption);obtain⟨ad224,e224,hx224_0⟩:=Kd.at_int HR0.out x7_1 p224 q224;obtain rfl:ad223=ad224:=(by injection e224)
                         replace hx224_0:=(HB.out.cell (World.block_lt_of_cell? w _ hx224_0)).trans hx224_0
                         replace p224:=eq_true p224
                         replace q224:=eq_true q224
                         go_wp2;go_roundg k2
                         case measure=>have:=HK1.out;have:=HK2.out;omega
                         case rel=>exact⟨(x6_2),(wrap64 (x7_1+1)),(by first | rfl | (simp;done) | (simp[*];done)),H',⟨by have:=HK1.out;have:=HK2.out;omega⟩,⟨by (with_reducible repeat (first | apply Kd.R_alloc | apply Kd.R_drewN | apply Kd.R_drew));exact HO_6.out⟩,⟨by repeat (first | (with_reducible first | exact HB.out | apply a0c | apply a0b | apply a0d) | exact HB.out)⟩⟩
                     · rw[if_neg c14] at H;exact absurd H (by simp)
                   · rw[if_neg c13] at H;exact absurd H (by simp)
               · rw[if_neg c12] at H;exact absurd H (by simp)
             · rw[if_neg c11] at H;exact absurd H (by simp)
           · rw[if_neg c10] at H;have c10b0:decide (x7_1<256)=false:=decide_eq_false c10;clear c10;simp only[Option.some.injEq,Prod.mk.injEq] at H;obtain⟨rfl,rfl⟩:=H;go_wp2;go_ret2;exact⟨_,by first | rfl | (simp[a0l,a0m] <;> rfl) | (simp only[<- hji5];first | rfl | (simp[a0l,a0m] <;> rfl)) | (simp[*,a0l,a0m] <;> rfl),by (with_reducible repeat (first | apply Kd.R_alloc | apply Kd.R_drewN | apply Kd.R_drew));exact HO_6.out,by repeat (first | (with_reducible first | exact HB.out | apply a0c | apply a0b | apply a0d) | exact HB.out)⟩
       · rw[if_neg c7] at H;exact absurd H (by simp)
     · rw[if_neg c6] at H;exact absurd H (by simp)
   · rw[if_neg c4] at H;exact absurd H (by simp)
end Go.Proofs.YtflfjpkmjnnodaaGreat.PRef
