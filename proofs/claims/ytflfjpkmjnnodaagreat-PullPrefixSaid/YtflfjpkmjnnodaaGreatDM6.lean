/- The walk of block.Put. -/
import Derived.Test.YtflfjpkmjnnodaaGreatDS1
import Derived.Test.YtflfjpkmjnnodaaGreatDM1
import Derived.Test.YtflfjpkmjnnodaaGreatDM4
import Derived.Test.YtflfjpkmjnnodaaGreatDM5
import Derived.Test.YtflfjpkmjnnodaaGreatDM2
import Derived.Test.YtflfjpkmjnnodaaGreatDM0
import Derived.WalkMore
import Derived.ArgAppend
import Derived.Lib.SlBytesConst
import Derived.RangeFuncRecord
import Derived.RangeFuncSeq
import Derived.WalkKit
import Derived.OwnWalkIn
import Derived.TacticsInMore
import Derived.BigFrameIn
import Derived.LoopNIn
import Derived.LoopIn
import Derived.RangeFuncBox
import Derived.Stop.RegionWithIn
import Derived.RangeFuncLeaves
import Derived.RangeFuncCalls
import Derived.Laws.EntriesVeiled
import Derived.Lib.MinMax
import Derived.Deep.RegionHeld3
import Derived.BigQuiet
namespace Go.Proofs.YtflfjpkmjnnodaaGreat
open Go.RowKit Go.IntWalk Go.Proofs.YtflfjpkmjnnodaaGreatW.PrintWords
theorem or_4 {k : Nat} (h : k <= 3) : bits .or .i64 (k : Int) 4 = ((k + 4 : Nat) : Int):=by
 have h1:=b7S k 4 (by omega) (by decide)
 have h2 : k ||| 4 = k + 4:=by
  have : k = 0 \/ k = 1 \/ k = 2 \/ k = 3:=by omega
  rcases this with rfl | rfl | rfl | rfl <;> rfl
 rw [h2] at h1; exact h1
structure PutF (k kk sm : Nat) (x e1 e2 e3 B : List Int) : Prop where
 kk7 : kk <= 7
 sm' : sm = a0F 0 x
 e1l : e1.length = 3
 e2l : e2.length = 3
 e3l : e3.length = 4
 all : B = (([(kk : Int)] ++ e1) ++ e2) ++ e3 ++ x
theorem putF {b : List Int} (hl : b.length <= 40000) (last : Bool) : ∃ k kk sm : Nat,(bestP b).1 = k /\ k <= 3 /\ kk = k + (if last then 4 else 0) /\ sm < 4294967296 /\ PutF k kk sm (bestP b).2 (leN b.length 3) (leN (bestP b).2.length 3) (leN sm 4) (putM b last):=by
 obtain ⟨k,hk,hk3⟩:=b0R (b:=b) (by omega)
 have hcl:=a4B 0 (bestP b).2
 refine ⟨k,_,a0F 0 (bestP b).2,hk,hk3,rfl,by omega,by split <;> omega,rfl,a2b _ _,a2b _ _,a2b _ _,?_⟩
 unfold putM
 rw [hk]
 cases last <;> simp
set_option maxRecDepth 100000 in
set_option maxHeartbeats 2000000 in
theorem d0d (A : Option Addr) (c : Nat) (b : List Int) (w : World) (hr : (Kd.int .u8).C w A b.length b) (hb : Bytes b) (hl : b.length <= 40000) (h0 : 0 < b.length) :
    Calls Tryz.prog 33 #[.slice A b.length c,.bool false] w (Told 0 (putM b false) w):=by
 have d1 : decide ((131072 : Int) < (b.length : Int)) = false:=decide_eq_false (by omega)
 have hn0 : ((b.length : Int) == 0) = false:=by simp; intro e; subst e; simp at h0
 have HBest:=Lib.hid (a5B A c b w hr hb hl)
 have HBy:=Lib.hid (a6m hb)
 have hbl:=a2T b
 obtain ⟨k,kk,sm,hk,hk3,hkk,hsm4,hF⟩:=putF hl false
 have HF:=Lib.hid hF
 obtain ⟨x,hx⟩ : ∃ x,x = (bestP b).2:=⟨_,rfl⟩
 unfold BestPost at HBest
 rw [hk,<- hx] at HBest
 rw [<- hx] at HBy hbl HF
 have hxl : x.length <= 40000:=by omega
 have hw1 : IntKind.u32.wrap (b.length : Int) = (b.length : Int):=by rw [IntKind.wrap_u32']; omega
 have hw2 : IntKind.u32.wrap (x.length : Int) = (x.length : Int):=by rw [IntKind.wrap_u32']; omega
 have hkk7:=hF.kk7
 have hw3 : IntKind.u8.wrap (kk : Int) = (kk : Int):=by rw [IntKind.wrap_u8']; omega
 have HLit1:=Lib.hid (λ W : World=>a3G b.length 3 W (by omega) (by decide))
 have HLit2:=Lib.hid (λ W : World=>a3G x.length 3 W (by omega) (by decide))
 have HLit3:=Lib.hid (λ W : World=>a3G sm 4 W hsm4 (by decide))
 obtain ⟨e1,he1⟩ : ∃ l,l = leN b.length 3:=⟨_,rfl⟩
 obtain ⟨e2,he2⟩ : ∃ l,l = leN x.length 3:=⟨_,rfl⟩
 obtain ⟨e3,he3⟩ : ∃ l,l = leN sm 4:=⟨_,rfl⟩
 rw [<- he1] at HF HLit1
 rw [<- he2] at HF HLit2
 rw [<- he3] at HF HLit3
 have hk2 : kk = k:=by rw [hkk]; rfl
 subst hk2
 obtain ⟨B,hB⟩ : ∃ l,l = putM b false:=⟨_,rfl⟩
 rw [<- hB] at HF ⊢
 have HXl:=Lib.hid hxl
 clear hr hb hk hk3 hkk hx he1 he2 he3 hl hbl hkk7 hsm4 hF hB
 go_enter Tryz.func33,Tryz.ntmps33
 go_wp2_with fail
 refine HBest.out.mono ?_
 rintro e w1 ⟨Ax,cx,rfl,hvx,hb1⟩
 have HX1:=Lib.hid (Kd.R_reads' hvx).2.2
 have HB1:=Lib.hid hb1
 have hbl2 : Below w1.heap.size w1 (w1.alloc (.cells #[.int .u8 (kk : Int)] 5)):=(Below.refl _ _).alloc (Nat.le_refl _) _
 have HO1 : Hid ((Kd.int .u8).R 5 (w1.alloc (.cells #[.int .u8 (kk : Int)] 5)) w1.heap.size (λ _=>True) (.slice (some ⟨w1.heap.size,0,none⟩) 1 1) [(kk : Int)]):=Lib.hid (a2A .u8 5 w1 w1.heap.size (λ _=>True) trivial (Nat.le_refl _) [(kk : Int)] (by simp))
 have HBl2:=Lib.hid hbl2
 clear hvx hb1 hbl2
 go_wp2_with fail
 refine (HLit1.out _).mono ?_
 rintro e w2 ⟨v2,rfl,hv2,hb2⟩
 obtain ⟨A2,c2,rfl⟩:=Kd.R_slice hv2
 have HO2:=Lib.hid (Kd.R_below HO1.out hb2)
 have HD2 : Hid ((Kd.int .u8).C w2 A2 3 e1):=Lib.hid (by have:=(Kd.R_reads' hv2).2.2; rw [HF.out.e1l] at this; exact this)
 have HB2:=Lib.hid (a0h HBl2.out hb2)
 have HS2:=Lib.hid (a0h HBl2.out hb2).size
 have HN2 : Hid (([(kk : Int)].length + 3) * 1 <= 140737488355328):=Lib.hid (by simp)
 have HZ2 : Hid (([(kk : Int)] ++ e1).length = 4):=Lib.hid (by rw [List.length_append,HF.out.e1l]; rfl)
 rw [HF.out.e1l]
 clear hv2 hb2
 go_wp2_with (at_builtin; refine Kd.R_append_rows (Kd.int .u8) (Rr:=(Kd.int .u8).K w2) (w0:=w1) (W:=w2) w1.heap.size rfl (.tmp 33) (.tmp 37) 22 5 (.int .u8 0) 1 rfl Tryz.underlying22 a0E rfl (by decide) (by decide) (.slice (some ⟨w1.heap.size,0,none⟩) 1 1) ([(kk : Int)]) (e1) A2 3 c2 (λ _=>True) (λ _=>False) rfl rfl HO2.out HD2.out (λ _ _ h=>h) (λ _ h=>h.elim) (λ _ _=>trivial) HB2.out HS2.out HN2.out ?_; intro v3 w3 hr3 hb3 hg3 hat3; obtain ⟨A3,c3,rfl⟩:=Kd.R_slice hr3; rw [HZ2.out] at hr3 ⊢; have HR3:=Lib.hid (And.intro hr3 hb3); clear hr3 hb3 hg3 hat3)
 obtain ⟨L1,hL1⟩ : ∃ l,l = [(kk : Int)] ++ e1:=⟨_,rfl⟩
 rw [<- hL1] at HR3 HZ2
 have HL1:=Lib.hid hL1
 clear hL1
 refine (HLit2.out _).mono ?_
 rintro e w4 ⟨v4,rfl,hv4,hb4⟩
 obtain ⟨A4,c4,rfl⟩:=Kd.R_slice hv4
 have HO4:=Lib.hid (Kd.R_below HR3.out.1 hb4)
 have HD4 : Hid ((Kd.int .u8).C w4 A4 3 e2):=Lib.hid (by have:=(Kd.R_reads' hv4).2.2; rw [HF.out.e2l] at this; exact this)
 have HB4:=Lib.hid (HR3.out.2.trans (hb4.mono HR3.out.2.size))
 have HS4:=Lib.hid HB4.out.size
 have HN4 : Hid ((L1.length + 3) * 1 <= 140737488355328):=Lib.hid (by rw [HZ2.out]; decide)
 have HZ4 : Hid ((L1 ++ e2).length = 7):=Lib.hid (by rw [List.length_append,HZ2.out,HF.out.e2l])
 rw [HF.out.e2l]
 clear hv4 hb4
 go_wp2_with (at_builtin; refine Kd.R_append_rows (Kd.int .u8) (Rr:=(Kd.int .u8).K w4) (w0:=w1) (W:=w4) w1.heap.size rfl (.tmp 39) (.tmp 43) 22 5 (.int .u8 0) 1 rfl Tryz.underlying22 a0E rfl (by decide) (by decide) (.slice A3 4 c3) (L1) (e2) A4 3 c4 (λ _=>True) (λ _=>False) rfl rfl HO4.out HD4.out (λ _ _ h=>h) (λ _ h=>h.elim) (λ _ _=>trivial) HB4.out HS4.out HN4.out ?_; intro v5 w5 hr5 hb5 hg5 hat5; obtain ⟨A5,c5,rfl⟩:=Kd.R_slice hr5; rw [HZ4.out] at hr5 ⊢; have HR5:=Lib.hid (And.intro hr5 hb5); clear hr5 hb5 hg5 hat5)
 obtain ⟨L2,hL2⟩ : ∃ l,l = L1 ++ e2:=⟨_,rfl⟩
 rw [<- hL2] at HR5 HZ4
 have HL2:=Lib.hid hL2
 clear hL2
 refine (a3Z w5).mono ?_
 rintro e w6 ⟨p,rfl,hp6,ht6,hb6⟩
 have HT6:=Lib.hid ht6
 have HB6:=Lib.hid (HR5.out.2.trans (hb6.mono HR5.out.2.size))
 have HO6:=Lib.hid (Kd.R_below HR5.out.1 hb6)
 have HX6:=Lib.hid (Kd.C_below HX1.out HB6.out)
 have HCr:=Lib.hid (a6q p Ax cx x w6 HT6.out HX6.out (by have:=HXl.out; omega) HBy.out)
 rw [<- HF.out.sm'] at HCr
 clear hp6 ht6 hb6
 go_wp2_with fail
 refine HCr.out.mono ?_
 rintro e w6' ⟨rfl,rfl⟩
 go_wp2_with fail
 refine (HLit3.out _).mono ?_
 rintro e w7 ⟨v7,rfl,hv7,hb7⟩
 obtain ⟨A7,c7,rfl⟩:=Kd.R_slice hv7
 have HO7:=Lib.hid (Kd.R_below HO6.out hb7)
 have HD7 : Hid ((Kd.int .u8).C w7 A7 4 e3):=Lib.hid (by have:=(Kd.R_reads' hv7).2.2; rw [HF.out.e3l] at this; exact this)
 have HB7:=Lib.hid (HB6.out.trans (hb7.mono HB6.out.size))
 have HS7:=Lib.hid HB7.out.size
 have HN7 : Hid ((L2.length + 4) * 1 <= 140737488355328):=Lib.hid (by rw [HZ4.out]; decide)
 have HZ7 : Hid ((L2 ++ e3).length = 11):=Lib.hid (by rw [List.length_append,HZ4.out,HF.out.e3l])
 have HALL : Hid (L2 ++ e3 ++ x = B):=Lib.hid (by rw [HL2.out,HL1.out]; exact HF.out.all.symm)
 rw [HF.out.e3l]
 clear hv7 hb7
 go_wp2_with (at_builtin; first
  | (refine Kd.R_append_rows (Kd.int .u8) (Rr:=(Kd.int .u8).K w7) (w0:=w1) (W:=w7) w1.heap.size rfl (.tmp 45) (.tmp 49) 22 5 (.int .u8 0) 1 rfl Tryz.underlying22 a0E rfl (by decide) (by decide) (.slice A5 7 c5) (L2) (e3) A7 4 c7 (λ _=>True) (λ _=>False) rfl rfl HO7.out HD7.out (λ _ _ h=>h) (λ _ h=>h.elim) (λ _ _=>trivial) HB7.out HS7.out HN7.out ?_; intro v8 w8 hr8 hb8 hg8 hat8; obtain ⟨A8,c8,rfl⟩:=Kd.R_slice hr8; rw [HZ7.out] at hr8 ⊢; have HR8:=Lib.hid (And.intro hr8 hb8); clear hr8 hb8 hg8 hat8; have HS8:=Lib.hid HR8.out.2.size; have HX8:=Lib.hid (Kd.C_below HX1.out HR8.out.2); have HN8 : Hid (((L2 ++ e3).length + x.length) * 1 <= 140737488355328):=Lib.hid (by rw [HZ7.out]; have:=HXl.out; omega))
  | (refine Kd.R_append_rows (Kd.int .u8) (Rr:=(Kd.int .u8).K w8) (w0:=w1) (W:=w8) w1.heap.size rfl (.tmp 51) (.tmp 52) 22 5 (.int .u8 0) 1 rfl Tryz.underlying22 a0E rfl (by decide) (by decide) (.slice A8 11 c8) (L2 ++ e3) x Ax x.length cx (λ _=>True) (λ _=>False) rfl rfl HR8.out.1 HX8.out (λ _ _ h=>h) (λ _ h=>h.elim) (λ _ _=>trivial) HR8.out.2 HS8.out HN8.out ?_; intro v9 w9 hr9 hb9 hg9 hat9; rw [HALL.out] at hr9; obtain ⟨A9,c9,rfl⟩:=Kd.R_slice hr9; have HR9:=Lib.hid (And.intro hr9 hb9); clear hr9 hb9 hg9 hat9))
 go_ret2
 exact ⟨A9,c9,rfl,Kd.R_lower HR9.out.1 HB1.out.size,a0h HB1.out HR9.out.2⟩
set_option maxRecDepth 100000 in
set_option maxHeartbeats 2000000 in
theorem d0e (A : Option Addr) (c : Nat) (b : List Int) (w : World) (hr : (Kd.int .u8).C w A b.length b) (hb : Bytes b) (hl : b.length <= 40000) (h0 : 0 < b.length) :
    Calls Tryz.prog 33 #[.slice A b.length c,.bool true] w (Told 0 (putM b true) w):=by
 have d1 : decide ((131072 : Int) < (b.length : Int)) = false:=decide_eq_false (by omega)
 have hn0 : ((b.length : Int) == 0) = false:=by simp; intro e; subst e; simp at h0
 have HBest:=Lib.hid (a5B A c b w hr hb hl)
 have HBy:=Lib.hid (a6m hb)
 have hbl:=a2T b
 obtain ⟨k,kk,sm,hk,hk3,hkk,hsm4,hF⟩:=putF hl true
 have HF:=Lib.hid hF
 obtain ⟨x,hx⟩ : ∃ x,x = (bestP b).2:=⟨_,rfl⟩
 unfold BestPost at HBest
 rw [hk,<- hx] at HBest
 rw [<- hx] at HBy hbl HF
 have hxl : x.length <= 40000:=by omega
 have hw1 : IntKind.u32.wrap (b.length : Int) = (b.length : Int):=by rw [IntKind.wrap_u32']; omega
 have hw2 : IntKind.u32.wrap (x.length : Int) = (x.length : Int):=by rw [IntKind.wrap_u32']; omega
 have hkk7:=hF.kk7
 have hw3 : IntKind.u8.wrap (kk : Int) = (kk : Int):=by rw [IntKind.wrap_u8']; omega
 have HLit1:=Lib.hid (λ W : World=>a3G b.length 3 W (by omega) (by decide))
 have HLit2:=Lib.hid (λ W : World=>a3G x.length 3 W (by omega) (by decide))
 have HLit3:=Lib.hid (λ W : World=>a3G sm 4 W hsm4 (by decide))
 obtain ⟨e1,he1⟩ : ∃ l,l = leN b.length 3:=⟨_,rfl⟩
 obtain ⟨e2,he2⟩ : ∃ l,l = leN x.length 3:=⟨_,rfl⟩
 obtain ⟨e3,he3⟩ : ∃ l,l = leN sm 4:=⟨_,rfl⟩
 rw [<- he1] at HF HLit1
 rw [<- he2] at HF HLit2
 rw [<- he3] at HF HLit3
 have hor : bits .or .i64 (k : Int) 4 = (kk : Int):=by rw [hkk]; exact or_4 hk3
 obtain ⟨B,hB⟩ : ∃ l,l = putM b true:=⟨_,rfl⟩
 rw [<- hB] at HF ⊢
 have HXl:=Lib.hid hxl
 clear hr hb hk hk3 hkk hx he1 he2 he3 hl hbl hkk7 hsm4 hF hB
 go_enter Tryz.func33,Tryz.ntmps33
 go_wp2_with fail
 refine HBest.out.mono ?_
 rintro e w1 ⟨Ax,cx,rfl,hvx,hb1⟩
 have HX1:=Lib.hid (Kd.R_reads' hvx).2.2
 have HB1:=Lib.hid hb1
 have hbl2 : Below w1.heap.size w1 (w1.alloc (.cells #[.int .u8 (kk : Int)] 5)):=(Below.refl _ _).alloc (Nat.le_refl _) _
 have HO1 : Hid ((Kd.int .u8).R 5 (w1.alloc (.cells #[.int .u8 (kk : Int)] 5)) w1.heap.size (λ _=>True) (.slice (some ⟨w1.heap.size,0,none⟩) 1 1) [(kk : Int)]):=Lib.hid (a2A .u8 5 w1 w1.heap.size (λ _=>True) trivial (Nat.le_refl _) [(kk : Int)] (by simp))
 have HBl2:=Lib.hid hbl2
 clear hvx hb1 hbl2
 go_wp2_with fail
 refine (HLit1.out _).mono ?_
 rintro e w2 ⟨v2,rfl,hv2,hb2⟩
 obtain ⟨A2,c2,rfl⟩:=Kd.R_slice hv2
 have HO2:=Lib.hid (Kd.R_below HO1.out hb2)
 have HD2 : Hid ((Kd.int .u8).C w2 A2 3 e1):=Lib.hid (by have:=(Kd.R_reads' hv2).2.2; rw [HF.out.e1l] at this; exact this)
 have HB2:=Lib.hid (a0h HBl2.out hb2)
 have HS2:=Lib.hid (a0h HBl2.out hb2).size
 have HN2 : Hid (([(kk : Int)].length + 3) * 1 <= 140737488355328):=Lib.hid (by simp)
 have HZ2 : Hid (([(kk : Int)] ++ e1).length = 4):=Lib.hid (by rw [List.length_append,HF.out.e1l]; rfl)
 rw [HF.out.e1l]
 clear hv2 hb2
 go_wp2_with (at_builtin; refine Kd.R_append_rows (Kd.int .u8) (Rr:=(Kd.int .u8).K w2) (w0:=w1) (W:=w2) w1.heap.size rfl (.tmp 33) (.tmp 37) 22 5 (.int .u8 0) 1 rfl Tryz.underlying22 a0E rfl (by decide) (by decide) (.slice (some ⟨w1.heap.size,0,none⟩) 1 1) ([(kk : Int)]) (e1) A2 3 c2 (λ _=>True) (λ _=>False) rfl rfl HO2.out HD2.out (λ _ _ h=>h) (λ _ h=>h.elim) (λ _ _=>trivial) HB2.out HS2.out HN2.out ?_; intro v3 w3 hr3 hb3 hg3 hat3; obtain ⟨A3,c3,rfl⟩:=Kd.R_slice hr3; rw [HZ2.out] at hr3 ⊢; have HR3:=Lib.hid (And.intro hr3 hb3); clear hr3 hb3 hg3 hat3)
 obtain ⟨L1,hL1⟩ : ∃ l,l = [(kk : Int)] ++ e1:=⟨_,rfl⟩
 rw [<- hL1] at HR3 HZ2
 have HL1:=Lib.hid hL1
 clear hL1
 refine (HLit2.out _).mono ?_
 rintro e w4 ⟨v4,rfl,hv4,hb4⟩
 obtain ⟨A4,c4,rfl⟩:=Kd.R_slice hv4
 have HO4:=Lib.hid (Kd.R_below HR3.out.1 hb4)
 have HD4 : Hid ((Kd.int .u8).C w4 A4 3 e2):=Lib.hid (by have:=(Kd.R_reads' hv4).2.2; rw [HF.out.e2l] at this; exact this)
 have HB4:=Lib.hid (HR3.out.2.trans (hb4.mono HR3.out.2.size))
 have HS4:=Lib.hid HB4.out.size
 have HN4 : Hid ((L1.length + 3) * 1 <= 140737488355328):=Lib.hid (by rw [HZ2.out]; decide)
 have HZ4 : Hid ((L1 ++ e2).length = 7):=Lib.hid (by rw [List.length_append,HZ2.out,HF.out.e2l])
 rw [HF.out.e2l]
 clear hv4 hb4
 go_wp2_with (at_builtin; refine Kd.R_append_rows (Kd.int .u8) (Rr:=(Kd.int .u8).K w4) (w0:=w1) (W:=w4) w1.heap.size rfl (.tmp 39) (.tmp 43) 22 5 (.int .u8 0) 1 rfl Tryz.underlying22 a0E rfl (by decide) (by decide) (.slice A3 4 c3) (L1) (e2) A4 3 c4 (λ _=>True) (λ _=>False) rfl rfl HO4.out HD4.out (λ _ _ h=>h) (λ _ h=>h.elim) (λ _ _=>trivial) HB4.out HS4.out HN4.out ?_; intro v5 w5 hr5 hb5 hg5 hat5; obtain ⟨A5,c5,rfl⟩:=Kd.R_slice hr5; rw [HZ4.out] at hr5 ⊢; have HR5:=Lib.hid (And.intro hr5 hb5); clear hr5 hb5 hg5 hat5)
 obtain ⟨L2,hL2⟩ : ∃ l,l = L1 ++ e2:=⟨_,rfl⟩
 rw [<- hL2] at HR5 HZ4
 have HL2:=Lib.hid hL2
 clear hL2
 refine (a3Z w5).mono ?_
 rintro e w6 ⟨p,rfl,hp6,ht6,hb6⟩
 have HT6:=Lib.hid ht6
 have HB6:=Lib.hid (HR5.out.2.trans (hb6.mono HR5.out.2.size))
 have HO6:=Lib.hid (Kd.R_below HR5.out.1 hb6)
 have HX6:=Lib.hid (Kd.C_below HX1.out HB6.out)
 have HCr:=Lib.hid (a6q p Ax cx x w6 HT6.out HX6.out (by have:=HXl.out; omega) HBy.out)
 rw [<- HF.out.sm'] at HCr
 clear hp6 ht6 hb6
 go_wp2_with fail
 refine HCr.out.mono ?_
 rintro e w6' ⟨rfl,rfl⟩
 go_wp2_with fail
 refine (HLit3.out _).mono ?_
 rintro e w7 ⟨v7,rfl,hv7,hb7⟩
 obtain ⟨A7,c7,rfl⟩:=Kd.R_slice hv7
 have HO7:=Lib.hid (Kd.R_below HO6.out hb7)
 have HD7 : Hid ((Kd.int .u8).C w7 A7 4 e3):=Lib.hid (by have:=(Kd.R_reads' hv7).2.2; rw [HF.out.e3l] at this; exact this)
 have HB7:=Lib.hid (HB6.out.trans (hb7.mono HB6.out.size))
 have HS7:=Lib.hid HB7.out.size
 have HN7 : Hid ((L2.length + 4) * 1 <= 140737488355328):=Lib.hid (by rw [HZ4.out]; decide)
 have HZ7 : Hid ((L2 ++ e3).length = 11):=Lib.hid (by rw [List.length_append,HZ4.out,HF.out.e3l])
 have HALL : Hid (L2 ++ e3 ++ x = B):=Lib.hid (by rw [HL2.out,HL1.out]; exact HF.out.all.symm)
 rw [HF.out.e3l]
 clear hv7 hb7
 go_wp2_with (at_builtin; first
  | (refine Kd.R_append_rows (Kd.int .u8) (Rr:=(Kd.int .u8).K w7) (w0:=w1) (W:=w7) w1.heap.size rfl (.tmp 45) (.tmp 49) 22 5 (.int .u8 0) 1 rfl Tryz.underlying22 a0E rfl (by decide) (by decide) (.slice A5 7 c5) (L2) (e3) A7 4 c7 (λ _=>True) (λ _=>False) rfl rfl HO7.out HD7.out (λ _ _ h=>h) (λ _ h=>h.elim) (λ _ _=>trivial) HB7.out HS7.out HN7.out ?_; intro v8 w8 hr8 hb8 hg8 hat8; obtain ⟨A8,c8,rfl⟩:=Kd.R_slice hr8; rw [HZ7.out] at hr8 ⊢; have HR8:=Lib.hid (And.intro hr8 hb8); clear hr8 hb8 hg8 hat8; have HS8:=Lib.hid HR8.out.2.size; have HX8:=Lib.hid (Kd.C_below HX1.out HR8.out.2); have HN8 : Hid (((L2 ++ e3).length + x.length) * 1 <= 140737488355328):=Lib.hid (by rw [HZ7.out]; have:=HXl.out; omega))
  | (refine Kd.R_append_rows (Kd.int .u8) (Rr:=(Kd.int .u8).K w8) (w0:=w1) (W:=w8) w1.heap.size rfl (.tmp 51) (.tmp 52) 22 5 (.int .u8 0) 1 rfl Tryz.underlying22 a0E rfl (by decide) (by decide) (.slice A8 11 c8) (L2 ++ e3) x Ax x.length cx (λ _=>True) (λ _=>False) rfl rfl HR8.out.1 HX8.out (λ _ _ h=>h) (λ _ h=>h.elim) (λ _ _=>trivial) HR8.out.2 HS8.out HN8.out ?_; intro v9 w9 hr9 hb9 hg9 hat9; rw [HALL.out] at hr9; obtain ⟨A9,c9,rfl⟩:=Kd.R_slice hr9; have HR9:=Lib.hid (And.intro hr9 hb9); clear hr9 hb9 hg9 hat9))
 go_ret2
 exact ⟨A9,c9,rfl,Kd.R_lower HR9.out.1 HB1.out.size,a0h HB1.out HR9.out.2⟩
set_option maxRecDepth 100000 in
set_option maxHeartbeats 2000000 in
theorem d0f (A : Option Addr) (c : Nat) (b : List Int) (w : World) (hr : (Kd.int .u8).C w A b.length b) (hb : Bytes b) (hl : b.length <= 40000) (h0 : b = []) :
    Calls Tryz.prog 33 #[.slice A 0 c,.bool true] w (Told 0 (putM b true) w):=by
 have hb0 : b.length = 0:=by rw [h0]; rfl
 have HBest:=Lib.hid (a5B A c b w hr hb hl)
 have HBy:=Lib.hid (a6m hb)
 have hbl:=a2T b
 obtain ⟨k,kk,sm,hk,hk3,hkk,hsm4,hF⟩:=putF hl true
 have HF:=Lib.hid hF
 obtain ⟨x,hx⟩ : ∃ x,x = (bestP b).2:=⟨_,rfl⟩
 unfold BestPost at HBest
 rw [hb0] at HBest
 rw [hk,<- hx] at HBest
 rw [<- hx] at HBy hbl HF
 have hxl : x.length <= 40000:=by omega
 have hw2 : IntKind.u32.wrap (x.length : Int) = (x.length : Int):=by rw [IntKind.wrap_u32']; omega
 have hkk7:=hF.kk7
 have hw3 : IntKind.u8.wrap (kk : Int) = (kk : Int):=by rw [IntKind.wrap_u8']; omega
 have HLit1:=Lib.hid (λ W : World=>a3G b.length 3 W (by omega) (by decide))
 rw [hb0] at HLit1 HF
 have HLit2:=Lib.hid (λ W : World=>a3G x.length 3 W (by omega) (by decide))
 have HLit3:=Lib.hid (λ W : World=>a3G sm 4 W hsm4 (by decide))
 obtain ⟨e1,he1⟩ : ∃ l,l = leN 0 3:=⟨_,rfl⟩
 obtain ⟨e2,he2⟩ : ∃ l,l = leN x.length 3:=⟨_,rfl⟩
 obtain ⟨e3,he3⟩ : ∃ l,l = leN sm 4:=⟨_,rfl⟩
 rw [<- he1] at HF HLit1
 rw [<- he2] at HF HLit2
 rw [<- he3] at HF HLit3
 have hor : bits .or .i64 (k : Int) 4 = (kk : Int):=by rw [hkk]; exact or_4 hk3
 obtain ⟨B,hB⟩ : ∃ l,l = putM b true:=⟨_,rfl⟩
 rw [<- hB] at HF ⊢
 have HXl:=Lib.hid hxl
 clear hr hb hk hk3 hkk hx he1 he2 he3 hl hbl hkk7 hsm4 hF hB
 go_enter Tryz.func33,Tryz.ntmps33
 go_wp2_with fail
 refine HBest.out.mono ?_
 rintro e w1 ⟨Ax,cx,rfl,hvx,hb1⟩
 have HX1:=Lib.hid (Kd.R_reads' hvx).2.2
 have HB1:=Lib.hid hb1
 have hbl2 : Below w1.heap.size w1 (w1.alloc (.cells #[.int .u8 (kk : Int)] 5)):=(Below.refl _ _).alloc (Nat.le_refl _) _
 have HO1 : Hid ((Kd.int .u8).R 5 (w1.alloc (.cells #[.int .u8 (kk : Int)] 5)) w1.heap.size (λ _=>True) (.slice (some ⟨w1.heap.size,0,none⟩) 1 1) [(kk : Int)]):=Lib.hid (a2A .u8 5 w1 w1.heap.size (λ _=>True) trivial (Nat.le_refl _) [(kk : Int)] (by simp))
 have HBl2:=Lib.hid hbl2
 clear hvx hb1 hbl2
 go_wp2_with fail
 refine (HLit1.out _).mono ?_
 rintro e w2 ⟨v2,rfl,hv2,hb2⟩
 obtain ⟨A2,c2,rfl⟩:=Kd.R_slice hv2
 have HO2:=Lib.hid (Kd.R_below HO1.out hb2)
 have HD2 : Hid ((Kd.int .u8).C w2 A2 3 e1):=Lib.hid (by have:=(Kd.R_reads' hv2).2.2; rw [HF.out.e1l] at this; exact this)
 have HB2:=Lib.hid (a0h HBl2.out hb2)
 have HS2:=Lib.hid (a0h HBl2.out hb2).size
 have HN2 : Hid (([(kk : Int)].length + 3) * 1 <= 140737488355328):=Lib.hid (by simp)
 have HZ2 : Hid (([(kk : Int)] ++ e1).length = 4):=Lib.hid (by rw [List.length_append,HF.out.e1l]; rfl)
 rw [HF.out.e1l]
 clear hv2 hb2
 go_wp2_with (at_builtin; refine Kd.R_append_rows (Kd.int .u8) (Rr:=(Kd.int .u8).K w2) (w0:=w1) (W:=w2) w1.heap.size rfl (.tmp 33) (.tmp 37) 22 5 (.int .u8 0) 1 rfl Tryz.underlying22 a0E rfl (by decide) (by decide) (.slice (some ⟨w1.heap.size,0,none⟩) 1 1) ([(kk : Int)]) (e1) A2 3 c2 (λ _=>True) (λ _=>False) rfl rfl HO2.out HD2.out (λ _ _ h=>h) (λ _ h=>h.elim) (λ _ _=>trivial) HB2.out HS2.out HN2.out ?_; intro v3 w3 hr3 hb3 hg3 hat3; obtain ⟨A3,c3,rfl⟩:=Kd.R_slice hr3; rw [HZ2.out] at hr3 ⊢; have HR3:=Lib.hid (And.intro hr3 hb3); clear hr3 hb3 hg3 hat3)
 obtain ⟨L1,hL1⟩ : ∃ l,l = [(kk : Int)] ++ e1:=⟨_,rfl⟩
 rw [<- hL1] at HR3 HZ2
 have HL1:=Lib.hid hL1
 clear hL1
 refine (HLit2.out _).mono ?_
 rintro e w4 ⟨v4,rfl,hv4,hb4⟩
 obtain ⟨A4,c4,rfl⟩:=Kd.R_slice hv4
 have HO4:=Lib.hid (Kd.R_below HR3.out.1 hb4)
 have HD4 : Hid ((Kd.int .u8).C w4 A4 3 e2):=Lib.hid (by have:=(Kd.R_reads' hv4).2.2; rw [HF.out.e2l] at this; exact this)
 have HB4:=Lib.hid (HR3.out.2.trans (hb4.mono HR3.out.2.size))
 have HS4:=Lib.hid HB4.out.size
 have HN4 : Hid ((L1.length + 3) * 1 <= 140737488355328):=Lib.hid (by rw [HZ2.out]; decide)
 have HZ4 : Hid ((L1 ++ e2).length = 7):=Lib.hid (by rw [List.length_append,HZ2.out,HF.out.e2l])
 rw [HF.out.e2l]
 clear hv4 hb4
 go_wp2_with (at_builtin; refine Kd.R_append_rows (Kd.int .u8) (Rr:=(Kd.int .u8).K w4) (w0:=w1) (W:=w4) w1.heap.size rfl (.tmp 39) (.tmp 43) 22 5 (.int .u8 0) 1 rfl Tryz.underlying22 a0E rfl (by decide) (by decide) (.slice A3 4 c3) (L1) (e2) A4 3 c4 (λ _=>True) (λ _=>False) rfl rfl HO4.out HD4.out (λ _ _ h=>h) (λ _ h=>h.elim) (λ _ _=>trivial) HB4.out HS4.out HN4.out ?_; intro v5 w5 hr5 hb5 hg5 hat5; obtain ⟨A5,c5,rfl⟩:=Kd.R_slice hr5; rw [HZ4.out] at hr5 ⊢; have HR5:=Lib.hid (And.intro hr5 hb5); clear hr5 hb5 hg5 hat5)
 obtain ⟨L2,hL2⟩ : ∃ l,l = L1 ++ e2:=⟨_,rfl⟩
 rw [<- hL2] at HR5 HZ4
 have HL2:=Lib.hid hL2
 clear hL2
 refine (a3Z w5).mono ?_
 rintro e w6 ⟨p,rfl,hp6,ht6,hb6⟩
 have HT6:=Lib.hid ht6
 have HB6:=Lib.hid (HR5.out.2.trans (hb6.mono HR5.out.2.size))
 have HO6:=Lib.hid (Kd.R_below HR5.out.1 hb6)
 have HX6:=Lib.hid (Kd.C_below HX1.out HB6.out)
 have HCr:=Lib.hid (a6q p Ax cx x w6 HT6.out HX6.out (by have:=HXl.out; omega) HBy.out)
 rw [<- HF.out.sm'] at HCr
 clear hp6 ht6 hb6
 go_wp2_with fail
 refine HCr.out.mono ?_
 rintro e w6' ⟨rfl,rfl⟩
 go_wp2_with fail
 refine (HLit3.out _).mono ?_
 rintro e w7 ⟨v7,rfl,hv7,hb7⟩
 obtain ⟨A7,c7,rfl⟩:=Kd.R_slice hv7
 have HO7:=Lib.hid (Kd.R_below HO6.out hb7)
 have HD7 : Hid ((Kd.int .u8).C w7 A7 4 e3):=Lib.hid (by have:=(Kd.R_reads' hv7).2.2; rw [HF.out.e3l] at this; exact this)
 have HB7:=Lib.hid (HB6.out.trans (hb7.mono HB6.out.size))
 have HS7:=Lib.hid HB7.out.size
 have HN7 : Hid ((L2.length + 4) * 1 <= 140737488355328):=Lib.hid (by rw [HZ4.out]; decide)
 have HZ7 : Hid ((L2 ++ e3).length = 11):=Lib.hid (by rw [List.length_append,HZ4.out,HF.out.e3l])
 have HALL : Hid (L2 ++ e3 ++ x = B):=Lib.hid (by rw [HL2.out,HL1.out]; exact HF.out.all.symm)
 rw [HF.out.e3l]
 clear hv7 hb7
 go_wp2_with (at_builtin; first
  | (refine Kd.R_append_rows (Kd.int .u8) (Rr:=(Kd.int .u8).K w7) (w0:=w1) (W:=w7) w1.heap.size rfl (.tmp 45) (.tmp 49) 22 5 (.int .u8 0) 1 rfl Tryz.underlying22 a0E rfl (by decide) (by decide) (.slice A5 7 c5) (L2) (e3) A7 4 c7 (λ _=>True) (λ _=>False) rfl rfl HO7.out HD7.out (λ _ _ h=>h) (λ _ h=>h.elim) (λ _ _=>trivial) HB7.out HS7.out HN7.out ?_; intro v8 w8 hr8 hb8 hg8 hat8; obtain ⟨A8,c8,rfl⟩:=Kd.R_slice hr8; rw [HZ7.out] at hr8 ⊢; have HR8:=Lib.hid (And.intro hr8 hb8); clear hr8 hb8 hg8 hat8; have HS8:=Lib.hid HR8.out.2.size; have HX8:=Lib.hid (Kd.C_below HX1.out HR8.out.2); have HN8 : Hid (((L2 ++ e3).length + x.length) * 1 <= 140737488355328):=Lib.hid (by rw [HZ7.out]; have:=HXl.out; omega))
  | (refine Kd.R_append_rows (Kd.int .u8) (Rr:=(Kd.int .u8).K w8) (w0:=w1) (W:=w8) w1.heap.size rfl (.tmp 51) (.tmp 52) 22 5 (.int .u8 0) 1 rfl Tryz.underlying22 a0E rfl (by decide) (by decide) (.slice A8 11 c8) (L2 ++ e3) x Ax x.length cx (λ _=>True) (λ _=>False) rfl rfl HR8.out.1 HX8.out (λ _ _ h=>h) (λ _ h=>h.elim) (λ _ _=>trivial) HR8.out.2 HS8.out HN8.out ?_; intro v9 w9 hr9 hb9 hg9 hat9; rw [HALL.out] at hr9; obtain ⟨A9,c9,rfl⟩:=Kd.R_slice hr9; have HR9:=Lib.hid (And.intro hr9 hb9); clear hr9 hb9 hg9 hat9))
 go_ret2
 exact ⟨A9,c9,rfl,Kd.R_lower HR9.out.1 HB1.out.size,a0h HB1.out HR9.out.2⟩
theorem a5C (A : Option Addr) (c : Nat) (b : List Int) (last : Bool) (w : World) (hr : (Kd.int .u8).C w A b.length b) (hb : Bytes b) (hl : b.length <= 40000) (h0 : last = true \/ 0 < b.length) :
    Calls Tryz.prog 33 #[.slice A b.length c,.bool last] w (Told 0 (putM b last) w):=by
 rcases Nat.eq_zero_or_pos b.length with hz | hz
 · obtain rfl : last = true:=by rcases h0 with h | h; (· exact h); (· omega)
   have:=d0f A c b w hr hb hl (List.eq_nil_of_length_eq_zero hz)
   rw [hz]; exact this
 · cases last with
   | false=>exact d0d A c b w hr hb hl hz
   | true=>exact d0e A c b w hr hb hl hz
def logP (log : Int) : Bool:=decide (10 <= log) && decide (log <= 17)
theorem logP_iff {log : Int} : logP log = true ↔ 10 <= log /\ log <= 17:=by unfold logP; rw [Bool.and_eq_true,decide_eq_true_eq,decide_eq_true_eq]
set_option maxRecDepth 100000 in
theorem b1t (log : Int) (w : World) : Calls Tryz.prog 92 #[.int .i64 log] w (λ e w'=>e = .returned (.bool (logP log)) /\ Drawn0 w w'):=by
 go_enter Tryz.func92,Tryz.ntmps92
 go_wp2_with fail
 all_goals
  go_ret
  refine ⟨a1d ?_,Drawn0.refl _⟩
  unfold logP
  first | rfl | (rw [Bool.eq_iff_iff]; simp; done) | (rw [Bool.eq_iff_iff]; simp; omega)
set_option maxRecDepth 100000 in
set_option maxHeartbeats 1000000 in
theorem d0g (n : Nat) (w : World) (hn : n < 4294967296) :
    Calls Tryz.prog 93 #[.int .u32 n] w (λ e w'=>∃ A c,e = .returned (.slice A 4 c) /\ (Kd.int .u8).R 5 w' w.heap.size (λ _=>True) (.slice A 4 c) (leN n 4) /\ Below w.heap.size w w'):=by
 have hk : (4 : Nat) <= 4:=by omega
 go_enter Tryz.func93,Tryz.ntmps93
 go_wp2_with fail
 go_loopw [3,4,5] (λ v _ kv wr=>∃ i : Nat,i <= 4 /\ kv = .int .i64 i /\ Hid ((Kd.int .u8).R 5 wr w.heap.size (λ _=>True) v (leN n i) /\ Below w.heap.size w wr)) (λ _ _ kv _=>4 - (intOf kv).toNat)
 case atStart=>exact ⟨0,by omega,rfl,Lib.hid ⟨Kd.R_nil _ _ _ _ _,Below.refl _ _⟩⟩
 case round=>
  obtain ⟨i,hi,rfl,H⟩:=hrel
  by_cases hlt : i < 4
  · obtain ⟨Av,cv,rfl⟩:=Kd.R_slice H.out.1
    have hI : (i : Int) < 4:=by omega
    have HN:=Lib.hid (b0O n i)
    have hLl : (leN n i).length = i:=a2b n i
    obtain ⟨L,hL⟩ : ∃ L,L = leN n i:=⟨_,rfl⟩
    rw [<- hL] at H HN hLl ⊢
    have HLn : Hid (L.length + 1 <= 140737488355328):=Lib.hid (by omega)
    have HO:=Lib.hid H.out.1
    have HB:=Lib.hid H.out.2
    have HE : Hid (∀ y : Int,y = ((n / 256 ^ i % 256 : Nat) : Int) -> leN n (i + 1) = L ++ [y]):=Lib.hid (λ y hy=>by rw [hy]; exact HN.out)
    have hi4 : i = 0 \/ i = 1 \/ i = 2 \/ i = 3:=by omega
    clear hL HN
    rcases hi4 with rfl | rfl | rfl | rfl
    all_goals
     go_wp2_with (at_builtin; refine app8i rfl rfl rfl rfl HO HB HB.out.size HLn ?_; intro A1 c1 w3 hr3 hb3 _; have HA:=Lib.hid (And.intro hr3 hb3); clear hr3 hb3)
     go_roundw
     case rel=>
      have hnn:=hn
      have HV:=HA.out.1
      rw [hLl] at HV
      first
       | exact ⟨0 + 1,by omega,by go_num,Lib.hid ⟨by rw [HE.out ((n : Int) % 256) (by clear HA HV; first | rfl | (simp; done) | (simp; omega))]; exact HV,HA.out.2⟩⟩
       | exact ⟨1 + 1,by omega,by go_num,Lib.hid ⟨by rw [HE.out ((n : Int) / 256 % 256) (by clear HA HV; first | rfl | (simp; done) | (simp; omega))]; exact HV,HA.out.2⟩⟩
       | exact ⟨2 + 1,by omega,by go_num,Lib.hid ⟨by rw [HE.out ((n : Int) / 65536 % 256) (by clear HA HV; first | rfl | (simp; done) | (simp; omega))]; exact HV,HA.out.2⟩⟩
       | exact ⟨3 + 1,by omega,by go_num,Lib.hid ⟨by rw [HE.out ((n : Int) / 16777216) (by clear HA HV; simp; omega)]; exact HV,HA.out.2⟩⟩
     case measure=>first | (simp [intOf]; done) | (simp [intOf]; omega)
  · obtain rfl : i = 4:=by omega
    obtain ⟨Av,cv,rfl⟩:=Kd.R_slice H.out.1
    rw [a2b] at H ⊢
    go_wp2_with fail
    go_ret
    exact ⟨_,_,rfl,H.out.1,H.out.2⟩
set_option maxRecDepth 100000 in
theorem b8o (A : Option Addr) (c : Nat) (b : List Int) (w : World) (hr : (Kd.int .u8).C w A b.length b) (hl : b.length <= 1000000000000) (hb : Bytes b) :
    Calls Tryz.prog 43 #[.slice A b.length c] w (λ e w'=>∃ A c,e = .returned (.slice A 4 c) /\ (Kd.int .u8).R 5 w' w.heap.size (λ _=>True) (.slice A 4 c) (tailL b) /\ Below w.heap.size w w'):=by
 have HR:=Lib.hid hr
 have HX:=Lib.hid hb
 have HS : Hid (a0F 0 b < 4294967296):=Lib.hid (by have:=a4B 0 b; omega)
 clear hr hb
 go_enter Tryz.func43,Tryz.ntmps43
 go_wp2_with fail
 refine (a3Z w).mono ?_
 rintro e w1 ⟨p,rfl,hp1,ht1,hb1⟩
 have HC:=Lib.hid (a6q p A c b w1 ht1 (Kd.C_below HR.out hb1) hl HX.out)
 have HB1:=Lib.hid hb1
 clear hp1 ht1 hb1
 go_wp2_with fail
 refine HC.out.mono ?_
 rintro e w1' ⟨rfl,rfl⟩
 go_wp2_with fail
 refine (d0g (a0F 0 b) w1 HS.out).mono ?_
 rintro e w2 ⟨A2,c2,rfl,h2,hb2⟩
 have H2:=Lib.hid (And.intro h2 hb2)
 clear h2 hb2
 go_wp2_with fail
 go_ret
 exact ⟨A2,c2,rfl,Kd.R_lower H2.out.1 HB1.out.size,a0h HB1.out H2.out.2⟩
theorem b8q (w : World) (cs : List Value) (e : TypeId) (fr : Nat × Nat) (j : Nat) (u : Value) (h : cs[j]? = some u) : (w.alloc (.cells cs.toArray e fr)).cell? ((⟨w.heap.size,0,none⟩ : Addr).add j) = some u:=by
 have h1 : (w.alloc (.cells cs.toArray e fr)).heap[w.heap.size]? = some (.cells cs.toArray e fr):=World.alloc_heap_new w _
 have e1 : ((⟨w.heap.size,0,none⟩ : Addr).add j) = ⟨w.heap.size,j,none⟩:=by
  unfold Addr.add
  split
  · rename_i h0; rw [h0]
  · simp
 rw [e1]
 unfold World.cell?
 rw [h1]
 simpa using h
set_option maxRecDepth 100000 in
theorem a8p (L : Nat) (w : World) (hL : 10 <= L /\ L <= 17) : Calls Tryz.prog 41 #[.int .i64 L] w (Told 0 (headL L) w):=by
 have h : logP (L : Int) = true:=logP_iff.2 (by omega)
 have hw8 : IntKind.u8.wrap (L : Int) = (L : Int):=by rw [IntKind.wrap_u8']; omega
 go_enter Tryz.func41,Tryz.ntmps41
 go_wp2_with fail
 refine (b1t L w).mono ?_
 rintro e w1 ⟨rfl,hd⟩
 rw [h]
 have HB:=Lib.hid hd.below
 clear hd
 have hcv:=Lib.run_convert_bytes_const (P:=Tryz.prog) w1 22 5 #[.int .u8 80,.int .u8 78,.int .u8 67,.int .u8 72] 4 4 Tryz.underlying22 Tryz.underlying5
 obtain ⟨w2,hw2⟩ : ∃ w2,w2 = w1.alloc (.cells #[.int .u8 80,.int .u8 78,.int .u8 67,.int .u8 72] 5 (4,5)):=⟨_,rfl⟩
 have hcv2 : (convert 22 22 (.slice (some ⟨w1.heap.size,0,none⟩) 4 4)).run Tryz.prog (w1.alloc (.cells #[.int .u8 80,.int .u8 78,.int .u8 67,.int .u8 72] 5)) = .ok (.slice (some ⟨w1.heap.size,0,none⟩) 4 4) w2:=by rw [hw2]; exact hcv
 have hb2 : Below w1.heap.size w1 w2:=by rw [hw2]; exact (Below.refl _ _).alloc (Nat.le_refl _) _
 have HC1 : Hid (∀ o : Obj,∀ j u,([.int .u8 80,.int .u8 78,.int .u8 67,.int .u8 72] : List Value)[j]? = some u -> (w2.alloc o).cell? ((⟨w1.heap.size,0,none⟩ : Addr).add j) = some u):=Lib.hid (λ o j u h=>a0r ((Below.refl _ _).alloc (Nat.le_refl _) o) (by rw [hw2]; exact b8q w1 _ 5 (4,5) j u h))
 have HC2 : Hid (∀ j u,([.int .u8 1,.int .u8 L,.int .u8 0,.int .u8 0] : List Value)[j]? = some u -> (w2.alloc (.cells #[.int .u8 1,.int .u8 L,.int .u8 0,.int .u8 0] 5)).cell? ((⟨w2.heap.size,0,none⟩ : Addr).add j) = some u):=Lib.hid (λ j u h=>b8q w2 _ 5 (0,0) j u h)
 have HB2 : Hid (Below w1.heap.size w1 (w2.alloc (.cells #[.int .u8 1,.int .u8 L,.int .u8 0,.int .u8 0] 5))):=Lib.hid (hb2.alloc hb2.size _)
 obtain ⟨i0,hi0,hz0,hz1,hz2⟩:=info_parts a0E
 have H0:=Lib.hid (And.intro hi0 (And.intro hz0 (And.intro hz1 hz2)))
 clear hcv hw2 hb2 hi0 hz0 hz1 hz2
 go_wp2_with (at_builtin; refine wpList_append_grows _ rfl (.tmp 8) (.tmp 11) 22 rfl 5 i0 (.int .u8 0) 1 1 Tryz.underlying22 H0.out.1 H0.out.2.1 H0.out.2.2.1 H0.out.2.2.2 rfl (by decide) (some ⟨w1.heap.size,0,none⟩) 4 4 [.int .u8 80,.int .u8 78,.int .u8 67,.int .u8 72] rfl (λ h=>by cases h) rfl (λ b hb j u h=>by injection hb with e; rw [<- e]; exact HC1.out _ j u h) ⟨w2.heap.size,0,none⟩ 4 4 [.int .u8 1,.int .u8 L,.int .u8 0,.int .u8 0] rfl rfl HC2.out (by simp [Value.oneCell']) (by decide) (by decide) (by decide) ?_; intro v4 w4 ho4 hg4; have HR4:=Lib.hid (And.intro ho4 hg4); clear ho4 hg4)
 have hr4 : (Kd.int .u8).R 5 w4 (w2.alloc (.cells #[.int .u8 1,.int .u8 L,.int .u8 0,.int .u8 0] 5)).heap.size (λ _=>True) v4 (headL L):=Kd.R_of_own (h1:=λ _=>rfl) HR4.out.1 (λ _ _=>trivial)
 obtain ⟨A4,c4,rfl⟩:=Kd.R_slice hr4
 have H4:=Lib.hid (Kd.R_lower hr4 (Nat.le_trans HB.out.size HB2.out.size))
 have HB4 : Hid (Below w.heap.size w w4):=Lib.hid (b3l (a0h HB.out HB2.out) HR4.out.2 (λ k hk=>by cases hk) (Nat.le_trans HB.out.size HB2.out.size))
 clear hr4
 go_ret2
 exact ⟨A4,c4,rfl,H4.out,HB4.out⟩
end Go.Proofs.YtflfjpkmjnnodaaGreat
namespace Go.Proofs.YtflfjpkmjnnodaaGreat
open Go.RowKit
theorem a5D (s : Nat) : ∀ n l : Nat,nBlks s n l <= n + 1
 | 0,_=>Nat.le_refl _
 | n + 1,l=>by
  unfold nBlks
  have:=a5D s n (l - s)
  split <;> omega
theorem d0i {L : Nat} (hL : L <= 17) {x : List Int} (hb : Bytes x) (hl : x.length <= 131072) : Bytes (goneL L x):=by
 unfold goneL
 refine a1R (λ y hy=>?_) (b0V _ _ hb hl)
 simp [headL] at hy; omega
theorem a4H (L : Nat) (x : List Int) : (leftL L x).length <= x.length:=(b7s (Nat.two_pow_pos L) x.length x (Nat.le_refl _)).2.1
theorem b1u (L : Nat) {x : List Int} (h : Bytes x) : Bytes (leftL L x):=b7t _ _ h
theorem b8t {L : Nat} (hL : L <= 17) {x : List Int} (hb : Bytes x) (hl : x.length <= 40000) : Bytes (encM x L):=by
 rw [b0X]
 exact a1R (d0i hL hb (by omega)) (a1R (a7Z (b1u L hb) (by have:=a4H L x; omega) true) (a5q _ _))
open Go.IntWalk Go.Proofs.YtflfjpkmjnnodaaGreatW.PrintWords
theorem BSl.from_ {w : World} {A : Option Addr} {c : Nat} {p : List Int} (h : BSl w A c p) {k : Nat} (hk : k <= p.length) : BSl w (if c = k then A else A.map (·.add (k * 1))) (c - k) (p.drop k):=
 ⟨Kd.C_drop h.row hk h.cap,by rw [List.length_drop]; have:=h.cap; omega,λ ha=>by
  have h0 : A = none:=by
   split at ha
   · exact ha
   · exact Option.map_eq_none_iff.1 ha
  have:=h.nil h0; omega,λ x hx=>h.by' x (List.mem_of_mem_drop hx)⟩
def slN : Value -> Nat
 | .slice _ n _=>n
 | _=>0
theorem d0l {s m : Nat} {r : List Int} (hs : 0 < s) (h : r.length <= m) (hl : s < r.length) : ∃ m',blksM s m r = putM (r.take s) false ++ blksM s m' (r.drop s) /\ (r.drop s).length <= m':=by
 obtain ⟨m,rfl⟩ : ∃ j,m = j + 1:=⟨m - 1,by omega⟩
 refine ⟨m,?_,by rw [List.length_drop]; omega⟩
 conv=>lhs; unfold blksM
 rw [if_pos hl]
theorem d0m {s : Nat} {r : List Int} (hl : ¬ s < r.length) : ∀ m,blksM s m r = putM r true
 | 0=>rfl
 | m + 1=>by unfold blksM; rw [if_neg hl]
theorem d0n (s : Nat) {x : List Int} (hl : x.length <= 40000) (L : Nat) : (headL L ++ blksM s x.length x).length <= 1000000:=by
 have h:=(a8c s x.length x).2
 have h2:=a5D s x.length x.length
 rw [List.length_append,a2X]
 omega
set_option maxRecDepth 100000 in
set_option maxHeartbeats 2000000 in
theorem a8q (A : Option Addr) (c : Nat) (x : List Int) (L : Nat) (w : World) (hx : BSl w A c x) (hl : x.length <= 40000) (hL : 10 <= L /\ L <= 17) :
    Calls Tryz.prog 40 #[.slice A x.length c,.int .i64 L] w (Told 0 (encM x L) w):=by
 obtain ⟨s,hs⟩ : ∃ s : Nat,s = 2 ^ L:=⟨_,rfl⟩
 have hsI : (2 : Int) ^ L = (s : Int):=by rw [hs]; simp
 have hL0 : ¬ (L : Int) < 0:=by omega
 have hs2 : s <= 131072:=by rw [hs]; exact Nat.le_trans (Nat.pow_le_pow_right (by decide : 2 > 0) hL.2) (by decide)
 have hs1 : 1024 <= s:=by rw [hs]; exact Nat.le_trans (by decide) (Nat.pow_le_pow_right (by decide : 2 > 0) hL.1)
 have hsw : IntKind.i64.wrap (s : Int) = (s : Int):=i64_in _ (by omega)
 have d1 : decide ((1073741824 : Int) < (x.length : Int)) = false:=decide_eq_false (by omega)
 have hTl:=d0n s hl L
 obtain ⟨T,hT⟩ : ∃ T,T = headL L ++ blksM s x.length x:=⟨_,rfl⟩
 have HE : Hid (encM x L = T ++ tailL x):=Lib.hid (by rw [hT,hs]; unfold encM; rw [List.append_assoc])
 rw [<- hT] at hTl
 have HT:=Lib.hid (And.intro hT hTl)
 have HX:=Lib.hid (And.intro hx hl)
 have HL:=Lib.hid hL
 clear hx hTl hT hs
 go_enter Tryz.func40,Tryz.ntmps40
 go_wp2_with fail
 refine (a8p L w hL).mono ?_
 rintro e w1 ⟨A1,c1,rfl,hr1,hb1⟩
 have H1:=Lib.hid (And.intro hr1 hb1)
 clear hr1 hb1
 go_wp2_with fail
 go_loopw [6,9,10,11] (λ ov rv _ _ wr=>∃ (Lo r : List Int) (m : Nat) (Ao Ar : Option Addr) (co cr : Nat),ov = .slice Ao Lo.length co /\ rv = .slice Ar r.length cr /\ Hid ((Kd.int .u8).R 5 wr w.heap.size (λ _=>True) (.slice Ao Lo.length co) Lo /\ Below w.heap.size w wr /\ BSl w Ar cr r /\ r.length <= m /\ r.length <= 40000 /\ Lo ++ blksM s m r = T)) (λ _ rv _ _ _=>slN rv)
 case atStart=>exact ⟨headL L,x,x.length,A1,A,c1,c,rfl,rfl,Lib.hid ⟨H1.out.1,H1.out.2,HX.out.1,Nat.le_refl _,HX.out.2,HT.out.1.symm⟩⟩
 case round=>
  obtain ⟨Lo,r,m,Ao,Ar,co,cr,rfl,rfl,H⟩:=hrel
  by_cases hlt : s < r.length
  · have hI : (s : Int) < (r.length : Int):=by omega
    obtain ⟨m',hm1,hm2⟩:=d0l (by omega) H.out.2.2.2.1 hlt
    have hsl:=a3E Ar r.length cr s (by omega) H.out.2.2.1.cap
    have hsf:=a2c Ar r.length cr s (by omega)
    have htl : (r.take s).length = s:=by rw [List.length_take]; omega
    have hdl : (r.drop s).length = r.length - s:=List.length_drop
    have HP:=Lib.hid (a5C Ar cr (r.take s) false wr ((H.out.2.2.1.cut (k:=s) (by omega)).below H.out.2.1).row (H.out.2.2.1.cut (k:=s) (by omega)).by' (by rw [htl]; have:=H.out.2.2.2.2.1; omega) (.inr (by omega)))
    rw [htl] at HP
    obtain ⟨y,hy⟩ : ∃ y,y = putM (r.take s) false:=⟨_,rfl⟩
    rw [<- hy] at HP hm1
    have HTl : Hid (Lo.length + y.length <= 1000000):=Lib.hid (by
     have h1:=HT.out.2
     rw [<- H.out.2.2.2.2.2,hm1,List.length_append,List.length_append] at h1
     omega)
    have HM:=Lib.hid (And.intro hm1 hm2)
    have HDr:=Lib.hid (H.out.2.2.1.from_ (k:=s) (by omega))
    obtain ⟨Ad,hAd⟩ : ∃ Ad,Ad = (if cr = s then Ar else Ar.map (·.add (s * 1))):=⟨_,rfl⟩
    rw [<- hAd] at HDr hsf
    obtain ⟨rd,hrd⟩ : ∃ rd,rd = r.drop s:=⟨_,rfl⟩
    rw [<- hrd] at HDr hdl HM
    have hrl : r.length - s = rd.length:=hdl.symm
    rw [hrl] at hsf
    have hrds : rd.length < r.length:=by omega
    clear hm1 hm2 htl hy hAd hrd hlt hrl hdl
    go_wp2_with fail
    refine HP.out.mono ?_
    rintro e w3 ⟨A3,c3,rfl,hr3,hb3⟩
    have HO3:=Lib.hid (Kd.R_below H.out.1 hb3)
    have HC3:=Lib.hid (Kd.R_reads' hr3).2.2
    have HB3:=Lib.hid (H.out.2.1.trans (hb3.mono H.out.2.1.size))
    have HZ3 : Hid (Lo.length + y.length <= 140737488355328):=Lib.hid (by have:=HTl.out; omega)
    clear hr3 hb3
    go_wp2_with (at_builtin; refine app8 rfl rfl rfl rfl HO3 HC3 HB3 HB3.out.size HZ3 ?_; intro A4 c4 w4 hr4 hb4 _; have HR4:=Lib.hid (And.intro hr4 hb4); clear hr4 hb4)
    go_roundw
    case rel=>exact ⟨Lo ++ y,rd,m',A4,Ad,c4,cr - s,by rw [List.length_append],rfl,Lib.hid ⟨by rw [List.length_append]; exact HR4.out.1,HR4.out.2,HDr.out,HM.out.2,by have:=H.out.2.2.2.2.1; omega,by rw [List.append_assoc,<- HM.out.1]; exact H.out.2.2.2.2.2⟩⟩
    case measure=>simp [slN]; omega
  · have hI : ¬ (s : Int) < (r.length : Int):=by omega
    have hm:=d0m hlt m
    have HP:=Lib.hid (a5C Ar cr r true wr (H.out.2.2.1.below H.out.2.1).row H.out.2.2.1.by' (by have:=H.out.2.2.2.2.1; omega) (.inl rfl))
    obtain ⟨y,hy⟩ : ∃ y,y = putM r true:=⟨_,rfl⟩
    rw [<- hy] at HP hm
    have hT2:=H.out.2.2.2.2.2
    rw [hm] at hT2
    have HT2:=Lib.hid hT2
    have HTl : Hid (Lo.length + y.length <= 140737488355328):=Lib.hid (by
     have h1:=HT.out.2
     rw [<- hT2,List.length_append] at h1
     omega)
    have HTm : Hid (Lo.length + y.length + 4 <= 140737488355328):=Lib.hid (by
     have h1:=HT.out.2
     rw [<- hT2,List.length_append] at h1
     omega)
    clear hm hy hlt hT2
    go_wp2_with fail
    refine HP.out.mono ?_
    rintro e w3 ⟨A3,c3,rfl,hr3,hb3⟩
    have HO3:=Lib.hid (Kd.R_below H.out.1 hb3)
    have HC3:=Lib.hid (Kd.R_reads' hr3).2.2
    have HB3:=Lib.hid (H.out.2.1.trans (hb3.mono H.out.2.1.size))
    clear hr3 hb3
    go_wp2_with (at_builtin; refine app8 rfl rfl rfl rfl HO3 HC3 HB3 HB3.out.size HTl ?_; intro A4 c4 w4 hr4 hb4 _; have HR4:=Lib.hid (And.intro hr4 hb4); clear hr4 hb4)
    refine (b8o A c x w4 (HX.out.1.below HR4.out.2).row (by omega) HX.out.1.by').mono ?_
    rintro e w5 ⟨A5,c5,rfl,hr5,hb5⟩
    have HO5:=Lib.hid (Kd.R_below HR4.out.1 hb5)
    have HC5 : Hid ((Kd.int .u8).C w5 A5 4 (tailL x)):=Lib.hid (by have:=(Kd.R_reads' hr5).2.2; rw [a1L] at this; exact this)
    have HB5:=Lib.hid (HR4.out.2.trans (hb5.mono HR4.out.2.size))
    have HL5 : Hid ((Lo ++ y).length + 4 <= 140737488355328):=Lib.hid (by rw [List.length_append]; exact HTm.out)
    clear hr5 hb5
    go_wp2_with (at_builtin; refine app8 rfl rfl rfl rfl HO5 HC5 HB5 HB5.out.size HL5 ?_; intro A6 c6 w6 hr6 hb6 _; have HR6:=Lib.hid (And.intro hr6 hb6); clear hr6 hb6)
    go_ret2
    have hfin : (encM x L).length = Lo.length + y.length + 4:=by rw [HE.out,<- HT2.out,List.length_append,List.length_append,a1L]
    have hT4 : T.length + 4 = (encM x L).length:=by rw [HE.out,List.length_append,a1L]
    refine ⟨A6,c6,?_,?_,HR6.out.2⟩
    · rw [hfin]; rfl
    · have h6:=HR6.out.1
      rw [HT2.out,<- HE.out,hT4] at h6
      exact h6
end Go.Proofs.YtflfjpkmjnnodaaGreat
namespace Go.Proofs.YtflfjpkmjnnodaaGreat
open Go.RowKit
theorem b8v {ps : List Int} {T : Nat} : ∀ (f at_ n most : Nat),(runT ps T f at_ n most).1 ≠ 16
 | 0,_,_,_=>by show (3 : Int) ≠ 16; decide
 | f + 1,at_,n,most=>by
  unfold runT
  split
  · show (3 : Int) ≠ 16; decide
  · split
    · show (13 : Int) ≠ 16; decide
    · split
      · exact b8v f _ _ _
      · show (0 : Int) ≠ 16; decide
theorem b1x {ps : List Int} {T : Nat} : ∀ (d : Nat) (q : List Int) (s left : Nat) (again : Bool) (at_ : Nat),(hdrT ps T d q s left again at_).1 ≠ 16
 | 0,_,_,_,_,_=>by show (13 : Int) ≠ 16; decide
 | d + 1,q,s,left,again,at_=>by
  unfold hdrT
  repeat' split
  all_goals first
   | (show (13 : Int) ≠ 16; decide)
   | (show (3 : Int) ≠ 16; decide)
   | (show (0 : Int) ≠ 16; decide)
   | exact b8v _ _ _ _
   | exact b1x d _ _ _ _ _
theorem b8w {one : Bool} {qs : List (List Int)} {ps : List Int} : ∀ (n i : Nat) (la x0 x1 : Int) (left : Nat) (out : List Int),(decGo one qs ps n i la x0 x1 left out).1 ≠ 16
 | 0,i,la,x0,x1,left,out=>by
  unfold decGo
  split
  · show (0 : Int) ≠ 16; decide
  · show (14 : Int) ≠ 16; decide
 | n + 1,i,la,x0,x1,left,out=>by
  unfold decGo
  dsimp only
  split
  · show (13 : Int) ≠ 16; decide
  · split
    · show (3 : Int) ≠ 16; decide
    · exact b8w n _ _ _ _ _ _
theorem b8x {lg : Int} {one : Bool} {qs : List (List Int)} {ps : List Int} {n : Int} : (decM lg one qs ps n).1 ≠ 16:=by
 unfold decM
 repeat' split
 all_goals first
  | (show (1 : Int) ≠ 16; decide)
  | (show (2 : Int) ≠ 16; decide)
  | (show (3 : Int) ≠ 16; decide)
  | exact b8w _ _ _ _ _ _ _
theorem d0p {ps : List Int} : (a0z ps).1 ≠ 16:=by
 unfold a0z
 dsimp only
 repeat' split
 all_goals first
  | (show (3 : Int) ≠ 16; decide)
  | (show (13 : Int) ≠ 16; decide)
  | (show (4 : Int) ≠ 16; decide)
  | (show (0 : Int) ≠ 16; decide)
  | exact b1x _ _ _ _ _ _
theorem b8y {ps : List Int} {r : Nat} : ∀ (l : List Int) (qs : List (List Int)) (at_ : Nat),(hdrsT ps r l qs at_).1 ≠ 16
 | [],_,_=>by show (0 : Int) ≠ 16; decide
 | c :: l,qs,at_=>by
  unfold hdrsT
  split
  · exact b1x _ _ _ _ _ _
  · exact b8y l _ _
theorem d0q {ps : List Int} : (dirT ps).1 ≠ 16:=by
 unfold dirT
 repeat' split
 all_goals first
  | (show (3 : Int) ≠ 16; decide)
  | (show (13 : Int) ≠ 16; decide)
  | (show (0 : Int) ≠ 16; decide)
theorem d0r {ps : List Int} : (a0D ps).1 ≠ 16:=by
 unfold a0D
 repeat' split
 all_goals first
  | (show (3 : Int) ≠ 16; decide)
  | (show (13 : Int) ≠ 16; decide)
  | (show (4 : Int) ≠ 16; decide)
  | (show (0 : Int) ≠ 16; decide)
  | exact d0q
  | exact b8y _ _ _
theorem b8z {k n l : Int} : a0v k n l ≠ 16:=by
 unfold a0v
 repeat' split
 all_goals decide
theorem d0s {k : Int} {b : List Int} {n : Int} : (pickD k b n).1 ≠ 16:=by
 unfold pickD
 split
 · exact b8z
 · split
   · unfold a3l
     repeat' split
     all_goals first
      | (show (1 : Int) ≠ 16; decide)
      | (show (11 : Int) ≠ 16; decide)
      | (show (0 : Int) ≠ 16; decide)
   · split
     · unfold dec0M
       split
       · exact d0p
       · exact b8x
     · unfold dec1M
       split
       · exact d0r
       · exact b8x
theorem d0t {f : List Int} {log room : Int} {first : Bool} : (scanM f log first room).1 ≠ 16:=by
 unfold scanM
 repeat' split
 all_goals first
  | (show (1 : Int) ≠ 16; decide)
  | (show (3 : Int) ≠ 16; decide)
  | (show (10 : Int) ≠ 16; decide)
  | (show (11 : Int) ≠ 16; decide)
  | (show (7 : Int) ≠ 16; decide)
  | (show (0 : Int) ≠ 16; decide)
  | exact b8z
theorem d0u {f : List Int} {log room : Int} {first : Bool} : (openM f log first room).1 ≠ 16:=by
 unfold openM
 repeat' split
 all_goals first
  | exact d0t
  | exact d0s
  | (show (3 : Int) ≠ 16; decide)
  | (show (12 : Int) ≠ 16; decide)
  | (show (0 : Int) ≠ 16; decide)
theorem d0v (i : Nat) (c : Int) : headE i c ≠ 16:=by
 unfold headE
 repeat' split
 all_goals decide
theorem b8A {f : List Int} : ∀ (d i : Nat),headG f d i ≠ 16
 | 0,_=>by show (0 : Int) ≠ 16; decide
 | d + 1,i=>by
  unfold headG
  split
  · decide
  · split
    · exact d0v _ _
    · exact b8A d _
theorem d0w {f : List Int} : headM f ≠ 16:=b8A 8 0
open Go.IntWalk Go.Proofs.YtflfjpkmjnnodaaGreatW.PrintWords
theorem b8B {f : List Int} {i : Nat} (d : Nat) (h : i < f.length) : headG f (d + 1) i = if headE i (f.getD i 0) ≠ 0 then headE i (f.getD i 0) else headG f d (i + 1):=by
 conv=>lhs; unfold headG
 rw [if_neg (by omega)]
theorem a2D {f : List Int} {i d : Nat} {k : Int} (h : i < f.length) (he : headE i (f.getD i 0) = k) (hk : k ≠ 0) : headG f (d + 1) i = k:=by
 rw [b8B d h,he,if_pos hk]
theorem a3p {f : List Int} {i d : Nat} (h : i < f.length) (he : headE i (f.getD i 0) = 0) : headG f (d + 1) i = headG f d (i + 1):=by
 rw [b8B d h,he,if_neg (by decide)]
def a1I (f : List Int) : Int:=if headM f = 0 then f.getD 5 0 else 0
theorem a2n {f : List Int} {k : Int} (h : headM f = k) (hk : k ≠ 0) : a1I f = 0:=by unfold a1I; rw [h,if_neg hk]
set_option maxRecDepth 100000 in
set_option maxHeartbeats 4000000 in
theorem b8C (A : Option Addr) (c : Nat) (f : List Int) (w : World) (hf : BSl w A c f) (hl : f.length <= 1000000) :
    Calls Tryz.prog 97 #[.slice A f.length c] w (λ e w'=>e = .returned (.tuple #[.int .i64 (a1I f),.int .i64 (headM f)]) /\ Below w.heap.size w w'):=by
 have HF:=Lib.hid hf
 obtain ⟨n,hn⟩ : ∃ n,n = f.length:=⟨_,rfl⟩
 rw [<- hn] at hl ⊢
 have HN:=Lib.hid hn
 clear hf hn
 go_enter Tryz.func97,Tryz.ntmps97
 go_wp2_with fail
 go_loopw [2,4,5,6,17,26,33,42,49] (λ lv _ _ kv _ _ _ _ _ wr=>∃ i : Nat,i <= 8 /\ kv = .int .i64 i /\ lv = .int .i64 (if 5 < i then f.getD 5 0 else 0) /\ Hid (headG f (8 - i) i = headM f /\ Below w.heap.size w wr /\ i <= f.length)) (λ _ _ _ kv _ _ _ _ _ _=>8 - (intOf kv).toNat)
 case atStart=>exact ⟨0,by omega,rfl,rfl,Lib.hid ⟨rfl,Below.refl _ _,Nat.zero_le _⟩⟩
 case round=>
  obtain ⟨i,hi,rfl,rfl,H⟩:=hrel
  by_cases hlt : i < 8
  · by_cases hle : i < n
    · obtain ⟨ad,hA,hcx⟩:=a0x (Kd.C_below HF.out.row H.out.2.1) i (by have:=HN.out; omega)
      subst hA
      have hbx:=HF.out.by'.get i
      obtain ⟨x,hx⟩ : ∃ x,x = f.getD i 0:=⟨_,rfl⟩
      rw [<- hx] at hcx hbx
      have HX:=Lib.hid hx
      have HL:=Lib.hid (show i < f.length by have:=HN.out; omega)
      have hi8 : i = 0 \/ i = 1 \/ i = 2 \/ i = 3 \/ i = 4 \/ i = 5 \/ i = 6 \/ i = 7:=by omega
      clear hx hi hlt
      rcases hi8 with rfl | rfl | rfl | rfl | rfl | rfl | rfl | rfl
      · have hI : ¬ n = 0:=by omega
        have e0 : ad.add 0 = ad:=by simp [Addr.add]
        rw [e0] at hcx
        have hmg : (((ByteArray.mk #[80,78,67,72])[0]'(by decide)).toNat : Int) = 80:=rfl
        by_cases hx : x = 80
        · have he : headE 0 (f.getD 0 0) = 0:=by rw [<- HX.out,hx]; decide
          have HE:=Lib.hid (a3p (d:=7) HL.out he)
          have hq : (x != 80) = false:=by rw [hx]; rfl
          clear he hle hx
          go_wp2_with fail
          go_roundw
          case rel=>exact ⟨0 + 1,by omega,by go_num,rfl,Lib.hid ⟨by rw [<- HE.out]; exact H.out.1,H.out.2.1,HL.out⟩⟩
          case measure=>first | (simp [intOf]; done) | (simp [intOf]; omega)
        · have he : headE 0 (f.getD 0 0) = 8:=by
            rw [<- HX.out]; unfold headE; rw [if_pos ⟨by decide,hx⟩]
          have HE:=Lib.hid (a2D (d:=7) HL.out he (by decide))
          have hq : (x != 80) = true:=by simpa using hx
          clear he hle hx
          go_wp2_with fail
          go_ret2
          have hM : headM f = 8:=by rw [<- H.out.1]; exact HE.out
          rw [a2n hM (by decide),hM]
          exact ⟨rfl,H.out.2.1⟩
      · have hI : ¬ (n : Int) <= 1:=by omega
        have e1 : ad.add 1 = ⟨ad.block,ad.off + 1,none⟩:=rfl
        rw [e1] at hcx
        have hmg : (((ByteArray.mk #[80,78,67,72])[1]'(by decide)).toNat : Int) = 78:=rfl
        by_cases hx : x = 78
        · have he : headE 1 (f.getD 1 0) = 0:=by rw [<- HX.out,hx]; decide
          have HE:=Lib.hid (a3p (d:=6) HL.out he)
          have hq : (x != 78) = false:=by rw [hx]; rfl
          clear he hle hx
          go_wp2_with fail
          go_roundw
          case rel=>exact ⟨1 + 1,by omega,by go_num,rfl,Lib.hid ⟨by rw [<- HE.out]; exact H.out.1,H.out.2.1,HL.out⟩⟩
          case measure=>first | (simp [intOf]; done) | (simp [intOf]; omega)
        · have he : headE 1 (f.getD 1 0) = 8:=by
            rw [<- HX.out]; unfold headE; rw [if_pos ⟨by decide,hx⟩]
          have HE:=Lib.hid (a2D (d:=6) HL.out he (by decide))
          have hq : (x != 78) = true:=by simpa using hx
          clear he hle hx
          go_wp2_with fail
          go_ret2
          have hM : headM f = 8:=by rw [<- H.out.1]; exact HE.out
          rw [a2n hM (by decide),hM]
          exact ⟨rfl,H.out.2.1⟩
      · have hI : ¬ (n : Int) <= 2:=by omega
        have e1 : ad.add 2 = ⟨ad.block,ad.off + 2,none⟩:=rfl
        rw [e1] at hcx
        have hmg : (((ByteArray.mk #[80,78,67,72])[2]'(by decide)).toNat : Int) = 67:=rfl
        by_cases hx : x = 67
        · have he : headE 2 (f.getD 2 0) = 0:=by rw [<- HX.out,hx]; decide
          have HE:=Lib.hid (a3p (d:=5) HL.out he)
          have hq : (x != 67) = false:=by rw [hx]; rfl
          clear he hle hx
          go_wp2_with fail
          go_roundw
          case rel=>exact ⟨2 + 1,by omega,by go_num,rfl,Lib.hid ⟨by rw [<- HE.out]; exact H.out.1,H.out.2.1,HL.out⟩⟩
          case measure=>first | (simp [intOf]; done) | (simp [intOf]; omega)
        · have he : headE 2 (f.getD 2 0) = 8:=by
            rw [<- HX.out]; unfold headE; rw [if_pos ⟨by decide,hx⟩]
          have HE:=Lib.hid (a2D (d:=5) HL.out he (by decide))
          have hq : (x != 67) = true:=by simpa using hx
          clear he hle hx
          go_wp2_with fail
          go_ret2
          have hM : headM f = 8:=by rw [<- H.out.1]; exact HE.out
          rw [a2n hM (by decide),hM]
          exact ⟨rfl,H.out.2.1⟩
      · have hI : ¬ (n : Int) <= 3:=by omega
        have e1 : ad.add 3 = ⟨ad.block,ad.off + 3,none⟩:=rfl
        rw [e1] at hcx
        have hmg : (((ByteArray.mk #[80,78,67,72])[3]'(by decide)).toNat : Int) = 72:=rfl
        by_cases hx : x = 72
        · have he : headE 3 (f.getD 3 0) = 0:=by rw [<- HX.out,hx]; decide
          have HE:=Lib.hid (a3p (d:=4) HL.out he)
          have hq : (x != 72) = false:=by rw [hx]; rfl
          clear he hle hx
          go_wp2_with fail
          go_roundw
          case rel=>exact ⟨3 + 1,by omega,by go_num,rfl,Lib.hid ⟨by rw [<- HE.out]; exact H.out.1,H.out.2.1,HL.out⟩⟩
          case measure=>first | (simp [intOf]; done) | (simp [intOf]; omega)
        · have he : headE 3 (f.getD 3 0) = 8:=by
            rw [<- HX.out]; unfold headE; rw [if_pos ⟨by decide,hx⟩]
          have HE:=Lib.hid (a2D (d:=4) HL.out he (by decide))
          have hq : (x != 72) = true:=by simpa using hx
          clear he hle hx
          go_wp2_with fail
          go_ret2
          have hM : headM f = 8:=by rw [<- H.out.1]; exact HE.out
          rw [a2n hM (by decide),hM]
          exact ⟨rfl,H.out.2.1⟩
      · have hI : ¬ (n : Int) <= 4:=by omega
        have e1 : ad.add 4 = ⟨ad.block,ad.off + 4,none⟩:=rfl
        rw [e1] at hcx
        by_cases hx : x = 1
        · have he : headE 4 (f.getD 4 0) = 0:=by rw [<- HX.out,hx]; decide
          have HE:=Lib.hid (a3p (d:=3) HL.out he)
          have hq : (x != 1) = false:=by rw [hx]; rfl
          clear he hle hx
          go_wp2_with fail
          go_roundw
          case rel=>exact ⟨4 + 1,by omega,by go_num,rfl,Lib.hid ⟨by rw [<- HE.out]; exact H.out.1,H.out.2.1,HL.out⟩⟩
          case measure=>first | (simp [intOf]; done) | (simp [intOf]; omega)
        · have he : headE 4 (f.getD 4 0) = 9:=by
            rw [<- HX.out]; unfold headE; rw [if_neg (by omega),if_pos ⟨rfl,hx⟩]
          have HE:=Lib.hid (a2D (d:=3) HL.out he (by decide))
          have hq : (x != 1) = true:=by simpa using hx
          clear he hle hx
          go_wp2_with fail
          go_ret2
          have hM : headM f = 9:=by rw [<- H.out.1]; exact HE.out
          rw [a2n hM (by decide),hM]
          exact ⟨rfl,H.out.2.1⟩
      · have hI : ¬ (n : Int) <= 5:=by omega
        have e1 : ad.add 5 = ⟨ad.block,ad.off + 5,none⟩:=rfl
        rw [e1] at hcx
        have hw64 : IntKind.i64.wrap x = x:=i64_in _ (by omega)
        have HG:=Lib.hid (b1t x wr)
        cases hp : logP x with
        | true=>
         have he : headE 5 (f.getD 5 0) = 0:=by
          rw [<- HX.out]
          have:=logP_iff.1 hp
          simp [headE,this]
         have HE:=Lib.hid (a3p (d:=2) HL.out he)
         clear he hle
         go_wp2_with fail
         refine HG.out.mono ?_
         rintro e w2 ⟨rfl,hd⟩
         rw [hp]
         have HB:=Lib.hid (H.out.2.1.trans (hd.below.mono H.out.2.1.size))
         clear hd
         go_wp2_with fail
         go_roundw
         case rel=>exact ⟨5 + 1,by omega,by go_num,by rw [if_pos (by decide),<- HX.out],Lib.hid ⟨by rw [<- HE.out]; exact H.out.1,HB.out,HL.out⟩⟩
         case measure=>first | (simp [intOf]; done) | (simp [intOf]; omega)
        | false=>
         have he : headE 5 (f.getD 5 0) = 5:=by
          rw [<- HX.out]
          have h5 : ¬ (10 <= x /\ x <= 17):=λ h=>by rw [logP_iff.2 h] at hp; cases hp
          unfold headE
          rw [if_neg (by omega),if_neg (by omega),if_pos ⟨rfl,h5⟩]
         have HE:=Lib.hid (a2D (d:=2) HL.out he (by decide))
         clear he hle
         go_wp2_with fail
         refine HG.out.mono ?_
         rintro e w2 ⟨rfl,hd⟩
         rw [hp]
         have HB:=Lib.hid (H.out.2.1.trans (hd.below.mono H.out.2.1.size))
         clear hd
         go_wp2_with fail
         go_ret2
         have hM : headM f = 5:=by rw [<- H.out.1]; exact HE.out
         rw [a2n hM (by decide),hM]
         exact ⟨rfl,HB.out⟩
      · have hI : ¬ (n : Int) <= 6:=by omega
        have e1 : ad.add 6 = ⟨ad.block,ad.off + 6,none⟩:=rfl
        rw [e1] at hcx
        by_cases hx : x = 0
        · have he : headE 6 (f.getD 6 0) = 0:=by rw [<- HX.out,hx]; decide
          have HE:=Lib.hid (a3p (d:=1) HL.out he)
          have hq : (x != 0) = false:=by rw [hx]; rfl
          clear he hle hx
          go_wp2_with fail
          go_roundw
          case rel=>exact ⟨6 + 1,by omega,by go_num,rfl,Lib.hid ⟨by rw [<- HE.out]; exact H.out.1,H.out.2.1,HL.out⟩⟩
          case measure=>first | (simp [intOf]; done) | (simp [intOf]; omega)
        · have he : headE 6 (f.getD 6 0) = 4:=by
            rw [<- HX.out]; unfold headE; rw [if_neg (by omega),if_neg (by omega),if_neg (by omega),if_pos ⟨by decide,hx⟩]
          have HE:=Lib.hid (a2D (d:=1) HL.out he (by decide))
          have hq : (x != 0) = true:=by simpa using hx
          clear he hle hx
          go_wp2_with fail
          go_ret2
          have hM : headM f = 4:=by rw [<- H.out.1]; exact HE.out
          rw [a2n hM (by decide),hM]
          exact ⟨rfl,H.out.2.1⟩
      · have hI : ¬ (n : Int) <= 7:=by omega
        have e1 : ad.add 7 = ⟨ad.block,ad.off + 7,none⟩:=rfl
        rw [e1] at hcx
        by_cases hx : x = 0
        · have he : headE 7 (f.getD 7 0) = 0:=by rw [<- HX.out,hx]; decide
          have HE:=Lib.hid (a3p (d:=0) HL.out he)
          have hq : (x != 0) = false:=by rw [hx]; rfl
          clear he hle hx
          go_wp2_with fail
          go_roundw
          case rel=>exact ⟨7 + 1,by omega,by go_num,rfl,Lib.hid ⟨by rw [<- HE.out]; exact H.out.1,H.out.2.1,HL.out⟩⟩
          case measure=>first | (simp [intOf]; done) | (simp [intOf]; omega)
        · have he : headE 7 (f.getD 7 0) = 4:=by
            rw [<- HX.out]; unfold headE; rw [if_neg (by omega),if_neg (by omega),if_neg (by omega),if_pos ⟨by decide,hx⟩]
          have HE:=Lib.hid (a2D (d:=0) HL.out he (by decide))
          have hq : (x != 0) = true:=by simpa using hx
          clear he hle hx
          go_wp2_with fail
          go_ret2
          have hM : headM f = 4:=by rw [<- H.out.1]; exact HE.out
          rw [a2n hM (by decide),hM]
          exact ⟨rfl,H.out.2.1⟩
    · have hI : (n : Int) <= (i : Int):=by omega
      have hM : headM f = 3:=by
       rw [<- H.out.1,show 8 - i = (7 - i) + 1 by omega]
       unfold headG
       rw [if_pos (by have:=HN.out; omega)]
      have HM:=Lib.hid hM
      clear hM hle
      go_wp2_with fail
      go_ret2
      rw [a2n HM.out (by decide),HM.out]
      exact ⟨rfl,H.out.2.1⟩
  · obtain rfl : i = 8:=by omega
    have hM : headM f = 0:=by rw [<- H.out.1]; rfl
    have HM:=Lib.hid hM
    clear hM hlt
    go_wp2_with fail
    go_ret2
    unfold a1I
    rw [HM.out,if_pos rfl]
    exact ⟨rfl,H.out.2.1⟩
set_option maxRecDepth 100000 in
set_option maxHeartbeats 1000000 in
theorem d0x (A : Option Addr) (c : Nat) (b : List Int) (w : World) (hr : (Kd.int .u8).C w A b.length b) (hl : b.length <= 131072) (hb : Bytes b) :
    Calls Tryz.prog 179 #[.int .i64 0,.slice A b.length c,.int .i64 b.length] w (Told 0 b w):=by
 have HR:=Lib.hid (And.intro hr (And.intro hl hb))
 have d1 : decide ((b.length : Int) < 0) = false:=decide_eq_false (by omega)
 have d2 : decide ((131072 : Int) < (b.length : Int)) = false:=decide_eq_false (by omega)
 clear hr hl hb
 go_enter Tryz.func179,Tryz.ntmps179
 go_wp2_with fail
 refine (a6t 0 w).mono ?_
 rintro e w' ⟨rfl,rfl⟩
 go_wp2_with fail
 go_loopw [8,9,45] (λ v _ kv wr=>∃ i : Nat,i <= b.length /\ kv = .int .i64 i /\ Hid ((Kd.int .u8).R 5 wr w.heap.size (λ _=>True) v (b.take i) /\ Below w.heap.size w wr)) (λ _ _ kv _=>b.length - (intOf kv).toNat)
 case atStart=>exact ⟨0,by omega,rfl,Lib.hid ⟨by rw [List.take_zero]; exact Kd.R_nil _ _ _ _ _,Below.refl _ _⟩⟩
 case round=>
  obtain ⟨i,hi,rfl,H⟩:=hrel
  by_cases hlt : i < b.length
  · obtain ⟨Av,cv,rfl⟩:=Kd.R_slice H.out.1
    obtain ⟨ad,hA,hcx⟩:=a0x (Kd.C_below HR.out.1 H.out.2) i hlt
    subst hA
    obtain ⟨y,hy⟩ : ∃ y,y = b.getD i 0:=⟨_,rfl⟩
    rw [<- hy] at hcx
    have hl6 : b.length <= 131072:=HR.out.2.1
    have hI : (i : Int) < (b.length : Int):=by omega
    have HN : Hid (b.take (i + 1) = b.take i ++ [y]):=Lib.hid (by rw [List.take_succ_eq_append_getElem hlt,hy,List.getD_eq_getElem?_getD,List.getElem?_eq_getElem hlt]; rfl)
    obtain ⟨L,hL⟩ : ∃ L,L = b.take i:=⟨_,rfl⟩
    have hLl : L.length = i:=by rw [hL,List.length_take]; omega
    rw [<- hL] at H HN ⊢
    have HLn : Hid ((L.length + 1) * 1 <= 140737488355328):=Lib.hid (by omega)
    have HS:=Lib.hid H.out.2.size
    clear hy hL
    go_wp2_with (at_builtin; refine Kd.R_append (Kd.int .u8) (w0:=w) (W:=wr) w.heap.size rfl (.tmp 48) (.tmp 56) 22 5 (.int .u8 0) 1 rfl Tryz.underlying22 a0E rfl (by decide) (by decide) _ _ y [.int .u8 y] (λ _=>True) (λ _=>False) rfl rfl rfl (λ _ h=>h.elim) (λ _ _=>trivial) H.out.1 H.out.2 HS.out HLn.out ?_; intro v1 w3 hr3 hb3 hg3 hat3; have HA:=Lib.hid (And.intro hr3 hb3); clear hr3 hb3 hg3 hat3)
    go_roundw
    case rel=>exact ⟨i + 1,by omega,by go_num,Lib.hid ⟨by rw [HN.out]; exact HA.out.1,HA.out.2⟩⟩
    case measure=>simp [intOf]; omega
  · obtain rfl : i = b.length:=by omega
    obtain ⟨Av,cv,rfl⟩:=Kd.R_slice H.out.1
    go_wp2_with fail
    go_ret2
    have h1:=H.out.1
    rw [List.take_length] at h1
    rw [List.take_length]
    exact ⟨Av,cv,rfl,h1,H.out.2⟩
set_option maxRecDepth 100000 in
set_option maxHeartbeats 1000000 in
theorem d0y (A : Option Addr) (c : Nat) (x : Int) (N : Nat) (w : World) (hr : (Kd.int .u8).C w A 1 [x]) (hl : N <= 131072) (h2 : 2 <= N) :
    Calls Tryz.prog 179 #[.int .i64 1,.slice A 1 c,.int .i64 N] w (Told 0 (List.replicate N x) w):=by
 have HR:=Lib.hid (And.intro hr (And.intro hl h2))
 have d3 : decide ((N : Int) < 2) = false:=decide_eq_false (by omega)
 have d1 : decide ((N : Int) < 0) = false:=decide_eq_false (by omega)
 have d2 : decide ((131072 : Int) < (N : Int)) = false:=decide_eq_false (by omega)
 clear hr hl h2
 go_enter Tryz.func179,Tryz.ntmps179
 go_wp2_with fail
 refine (a6t 1 w).mono ?_
 rintro e w' ⟨rfl,rfl⟩
 go_wp2_with fail
 go_loopw [8,9,45] (λ v _ kv wr=>∃ i : Nat,i <= N /\ kv = .int .i64 i /\ Hid ((Kd.int .u8).R 5 wr w.heap.size (λ _=>True) v (List.replicate i x) /\ Below w.heap.size w wr)) (λ _ _ kv _=>N - (intOf kv).toNat)
 case atStart=>exact ⟨0,by omega,rfl,Lib.hid ⟨by exact Kd.R_nil _ _ _ _ _,Below.refl _ _⟩⟩
 case round=>
  obtain ⟨i,hi,rfl,H⟩:=hrel
  by_cases hlt : i < N
  · obtain ⟨Av,cv,rfl⟩:=Kd.R_slice H.out.1
    obtain ⟨ad,hA,hcx⟩:=a0x (Kd.C_below HR.out.1 H.out.2) 0 (by decide)
    subst hA
    have e0 : ad.add 0 = ad:=by simp [Addr.add]
    have hcy : wr.cell? ad = some (.int .u8 x):=by rw [e0] at hcx; exact hcx
    have hl6 : N <= 131072:=HR.out.2.1
    have hI : (i : Int) < (N : Int):=by omega
    have HN : Hid (List.replicate (i + 1) x = List.replicate i x ++ [x]):=Lib.hid List.replicate_succ'
    clear e0
    obtain ⟨L,hL⟩ : ∃ L,L = List.replicate i x:=⟨_,rfl⟩
    have hLl : L.length = i:=by rw [hL,List.length_replicate]
    rw [<- hL] at H HN ⊢
    have HLn : Hid ((L.length + 1) * 1 <= 140737488355328):=Lib.hid (by omega)
    have HS:=Lib.hid H.out.2.size
    clear hL
    go_wp2_with (at_builtin; refine Kd.R_append (Kd.int .u8) (w0:=w) (W:=wr) w.heap.size rfl (.tmp 48) (.tmp 56) 22 5 (.int .u8 0) 1 rfl Tryz.underlying22 a0E rfl (by decide) (by decide) _ _ x [.int .u8 x] (λ _=>True) (λ _=>False) rfl rfl rfl (λ _ h=>h.elim) (λ _ _=>trivial) H.out.1 H.out.2 HS.out HLn.out ?_; intro v1 w3 hr3 hb3 hg3 hat3; have HA:=Lib.hid (And.intro hr3 hb3); clear hr3 hb3 hg3 hat3)
    go_roundw
    case rel=>exact ⟨i + 1,by omega,by go_num,Lib.hid ⟨by rw [HN.out]; exact HA.out.1,HA.out.2⟩⟩
    case measure=>simp [intOf]; omega
  · obtain rfl : i = N:=by omega
    obtain ⟨Av,cv,rfl⟩:=Kd.R_slice H.out.1
    go_wp2_with fail
    go_ret2
    have h1:=H.out.1
    exact ⟨Av,cv,rfl,h1,H.out.2⟩
def d0z (r : Nat) (qs : List (List Int)) (p : List Int) (w : World) (e : Ending) (w' : World) : Prop:=
 ∃ Am cm Ap cp,e = .returned (.tuple #[.agg #[.int .i64 r,.bool false,.slice Am qs.length cm],.slice Ap p.length cp,.int .i64 0]) /\ kq.R 84 w' w.heap.size (λ _=>True) (.slice Am qs.length cm) qs /\ (Kd.int .u8).R 5 w' w.heap.size (λ _=>True) (.slice Ap p.length cp) p /\ Below w.heap.size w w'
theorem d0A (A : Option Addr) (c : Nat) (ps : List Int) {r : Nat} {qs : List (List Int)} {p : List Int} (w : World) (hr : (Kd.int .u8).C w A ps.length ps) (hps : Bytes ps) (hl : ps.length <= 1000000) (hc : ps.length <= c) (h : a0D ps = (0,r,qs,p)) :
    Calls Tryz.prog 21 #[.slice A ps.length c] w (d0z r qs p w):=by
 refine (b7R A c ps w hr hps hl hc).mono ?_
 intro e w' hp
 unfold a6r at hp
 rw [h] at hp
 obtain ⟨vm,vp,rfl,hm,hv⟩:=hp.1 rfl
 obtain ⟨Am,cm,rfl⟩:=Kd.R_slice hm
 obtain ⟨Ap,cp,rfl⟩:=Kd.R_slice hv
 exact ⟨Am,cm,Ap,cp,rfl,hm,hv,hp.2.2⟩
theorem d0B (A : Option Addr) (c : Nat) (ps : List Int) {k : Int} (w : World) (hr : (Kd.int .u8).C w A ps.length ps) (hps : Bytes ps) (hl : ps.length <= 1000000) (hc : ps.length <= c) (h : (a0D ps).1 = k) (hk : k ≠ 0) :
    Calls Tryz.prog 21 #[.slice A ps.length c] w (λ e w'=>e = .returned (.tuple #[.agg #[.int .i64 0,.bool false,.slice none 0 0],.slice none 0 0,.int .i64 k]) /\ Below w.heap.size w w'):=by
 refine (b7R A c ps w hr hps hl hc).mono ?_
 intro e w' hp
 unfold a6r at hp
 rw [h] at hp
 exact ⟨hp.2.1 hk,hp.2.2⟩
set_option maxRecDepth 100000 in
set_option maxHeartbeats 1000000 in
theorem b8D (A : Option Addr) (c : Nat) (ps : List Int) (n : Int) (w : World) (hr : (Kd.int .u8).C w A ps.length ps) (hps : Bytes ps) (hl : ps.length <= 1000000) (hc : ps.length <= c) :
    Calls Tryz.prog 23 #[.slice A ps.length c,.int .i64 n] w (ReadPost (dec1M ps n) w):=by
 obtain ⟨k,r,q,p,hS⟩ : ∃ k r q p,a0D ps = (k,r,q,p):=⟨_,_,_,_,rfl⟩
 have hpb:=b0F hps
 have hpl:=(b6W ps).1
 have hql:=(b6W ps).2
 rw [hS] at hpb hpl hql
 by_cases hk : k = 0
 · subst hk
   have HD : Hid (dec1M ps n = decM (r : Nat) false q p n):=by show _ = _; unfold dec1M; rw [hS,if_neg (λ h=>h rfl)]
   have HS:=Lib.hid (d0A A c ps w hr hps hl hc hS)
   have HP:=Lib.hid (And.intro hpb (And.intro (Nat.le_trans hpl hl) (show q.length <= 256 from hql)))
   rw [HD.out]
   clear hr hps hl hc hS hpb hpl hql
   go_enter Tryz.func23,Tryz.ntmps23
   go_wp2_with fail
   refine HS.out.mono ?_
   rintro e w1 ⟨Am,cm,Ap,cp,rfl,hm,hv,hb1⟩
   obtain ⟨w2,hw2⟩ : ∃ w2,w2 = w1.alloc (.cells #[.int .i64 r,.bool false,.slice Am q.length cm] 26):=⟨_,rfl⟩
   have hb2 : Below w1.heap.size w1 w2:=by rw [hw2]; exact (Below.refl _ _).alloc (Nat.le_refl _) _
   have HB2:=Lib.hid (hb1.trans (hb2.mono hb1.size))
   have HM:=Lib.hid (Kd.C_below (Kd.R_reads' hm).2.2 hb2)
   have HV:=Lib.hid (Kd.C_below (Kd.R_reads' hv).2.2 hb2)
   clear hm hv hb1 hb2
   go_wp2_with fail
   rw [<- hw2]
   clear hw2
   refine (b4O r false Am cm q Ap cp p n w2 HM.out (by have:=HP.out.2.2; omega) HV.out HP.out.1 HP.out.2.1).mono ?_
   rintro e w3 ⟨⟨v,rfl,hv⟩,hb3⟩
   have H3:=Lib.hid (And.intro hv hb3)
   clear hv hb3
   go_wp2_with fail
   go_ret2
   exact ⟨⟨v,rfl,Kd.R_lower H3.out.1 HB2.out.size⟩,HB2.out.trans (H3.out.2.mono HB2.out.size)⟩
 · have HD : Hid (dec1M ps n = (k,[])):=by show _ = _; unfold dec1M; rw [hS,if_pos hk]
   have HS:=Lib.hid (d0B A c ps w hr hps hl hc (by rw [hS]) hk)
   have hkb : (k == 0) = false:=beq_eq_false_iff_ne.2 hk
   have hkn : (k != 0) = true:=by simp [hk]
   rw [HD.out]
   clear hr hps hl hc hS hpb hpl hql
   go_enter Tryz.func23,Tryz.ntmps23
   go_wp2_with fail
   refine HS.out.mono ?_
   rintro e w1 ⟨rfl,hb1⟩
   have HB1:=Lib.hid hb1
   clear hb1
   go_wp2_with fail
   go_ret2
   exact ⟨⟨_,rfl,Kd.R_nil _ _ _ _ _⟩,HB1.out.alloc HB1.out.size _⟩
set_option maxRecDepth 100000 in
theorem b8E {x : Int × List Int} (A : Option Addr) (c p : Nat) (k n : Int) (m : Nat) (w : World) (hp : w.cell? ⟨p,0,none⟩ = some (.int .i64 k)) (h : Calls Tryz.prog 179 #[.int .i64 k,.slice A m c,.int .i64 n] w (Told x.1 x.2 w)) :
    Calls Tryz.prog 178 #[.slice A m c,.int .i64 n,.pointer (some ⟨p,0,none⟩)] w (Told x.1 x.2 w):=by
 have H:=Lib.hid h
 clear h
 go_enter Tryz.func178,Tryz.ntmps178
 go_wp2_with fail
 refine H.out.mono ?_
 rintro e w' ⟨A1,c1,rfl,hv,hb⟩
 have H1:=Lib.hid (And.intro hv hb)
 clear hv hb
 go_wp2_with fail
 go_ret2
 exact ⟨A1,c1,rfl,H1.out.1,H1.out.2⟩
set_option maxRecDepth 100000 in
theorem d0C (A : Option Addr) (c m : Nat) (k n : Int) (w : World) (h : a0v k n m ≠ 0) :
    Calls Tryz.prog 28 #[.int .i64 k,.slice A m c,.int .i64 n] w (Told (a0v k n m) [] w):=by
 have HI:=Lib.hid (a5A k n m w)
 unfold a1E at HI
 obtain ⟨z,hz⟩ : ∃ z,z = a0v k n m:=⟨_,rfl⟩
 rw [<- hz] at HI h ⊢
 have hz2 : (z != 0) = true:=by simpa using h
 clear hz h
 go_enter Tryz.func28,Tryz.ntmps28
 go_wp2_with fail
 refine HI.out.mono ?_
 rintro e w' ⟨rfl,hb⟩
 have HB:=Lib.hid hb
 clear hb
 go_wp2_with fail
 go_ret2
 exact Told.nil z HB.out
set_option maxRecDepth 100000 in
theorem d0D {x : Int × List Int} (A : Option Addr) (c m : Nat) (n : Int) (w : World) (h0 : a0v 0 n m = 0) (h : ∀ (W : World) (p q : Nat),Below w.heap.size w W -> W.cell? ⟨p,0,none⟩ = some (.int .i64 0) -> W.cell? ⟨q,0,none⟩ = some (.int .i64 1) -> Calls Tryz.prog 178 #[.slice A m c,.int .i64 n,.pointer (some ⟨p,0,none⟩)] W (Told x.1 x.2 W)) :
    Calls Tryz.prog 28 #[.int .i64 0,.slice A m c,.int .i64 n] w (Told x.1 x.2 w):=by
 have H:=Lib.hid h
 have HI:=Lib.hid (a5A 0 n m w)
 unfold a1E at HI
 rw [h0] at HI
 clear h h0
 go_enter Tryz.func28,Tryz.ntmps28
 go_wp2_with fail
 refine HI.out.mono ?_
 rintro e w0 ⟨rfl,hb0⟩
 have HB0:=Lib.hid hb0
 clear hb0
 go_wp2_with fail
 refine (a2C w0).mono ?_
 rintro e w1 ⟨p,q,rfl,hp,hq,hb⟩
 have HB:=Lib.hid (a0h HB0.out hb)
 have H1:=Lib.hid (H.out w1 p q HB.out hp hq)
 have hix:=λ W=>b1m p q W
 have hkf:=a8m
 obtain ⟨V,hV⟩ : ∃ V,V = a1x p q:=⟨_,rfl⟩
 rw [<- hV] at hix ⊢
 clear hb hp hq hV
 go_wp2_with fail
 refine H1.out.mono ?_
 rintro e w2 ⟨A1,c1,rfl,hv,hb⟩
 have H2:=Lib.hid (And.intro hv hb)
 clear hv hb hix hkf
 go_wp2_with fail
 go_ret2
 exact ⟨A1,c1,rfl,Kd.R_lower H2.out.1 HB.out.size,a0h HB.out H2.out.2⟩
set_option maxRecDepth 100000 in
theorem d0E {x : Int × List Int} (A : Option Addr) (c m : Nat) (n : Int) (w : World) (h0 : a0v 1 n m = 0) (h : ∀ (W : World) (p q : Nat),Below w.heap.size w W -> W.cell? ⟨p,0,none⟩ = some (.int .i64 0) -> W.cell? ⟨q,0,none⟩ = some (.int .i64 1) -> Calls Tryz.prog 178 #[.slice A m c,.int .i64 n,.pointer (some ⟨q,0,none⟩)] W (Told x.1 x.2 W)) :
    Calls Tryz.prog 28 #[.int .i64 1,.slice A m c,.int .i64 n] w (Told x.1 x.2 w):=by
 have H:=Lib.hid h
 have HI:=Lib.hid (a5A 1 n m w)
 unfold a1E at HI
 rw [h0] at HI
 clear h h0
 go_enter Tryz.func28,Tryz.ntmps28
 go_wp2_with fail
 refine HI.out.mono ?_
 rintro e w0 ⟨rfl,hb0⟩
 have HB0:=Lib.hid hb0
 clear hb0
 go_wp2_with fail
 refine (a2C w0).mono ?_
 rintro e w1 ⟨p,q,rfl,hp,hq,hb⟩
 have HB:=Lib.hid (a0h HB0.out hb)
 have H1:=Lib.hid (H.out w1 p q HB.out hp hq)
 have hix:=λ W=>b1n p q W
 have hkf:=a8m
 obtain ⟨V,hV⟩ : ∃ V,V = a1x p q:=⟨_,rfl⟩
 rw [<- hV] at hix ⊢
 clear hb hp hq hV
 go_wp2_with fail
 refine H1.out.mono ?_
 rintro e w2 ⟨A1,c1,rfl,hv,hb⟩
 have H2:=Lib.hid (And.intro hv hb)
 clear hv hb hix hkf
 go_wp2_with fail
 go_ret2
 exact ⟨A1,c1,rfl,Kd.R_lower H2.out.1 HB.out.size,a0h HB.out H2.out.2⟩
set_option maxRecDepth 100000 in
theorem d0F {x : Int × List Int} (A : Option Addr) (c m : Nat) (n : Int) (w : World) (h0 : a0v 2 n m = 0) (h : ∀ (W : World) (p q : Nat),Below w.heap.size w W -> W.cell? ⟨p,0,none⟩ = some (.int .i64 0) -> W.cell? ⟨q,0,none⟩ = some (.int .i64 1) -> Calls Tryz.prog 131 #[.slice A m c,.int .i64 n] W (Told x.1 x.2 W)) :
    Calls Tryz.prog 28 #[.int .i64 2,.slice A m c,.int .i64 n] w (Told x.1 x.2 w):=by
 have H:=Lib.hid h
 have HI:=Lib.hid (a5A 2 n m w)
 unfold a1E at HI
 rw [h0] at HI
 clear h h0
 go_enter Tryz.func28,Tryz.ntmps28
 go_wp2_with fail
 refine HI.out.mono ?_
 rintro e w0 ⟨rfl,hb0⟩
 have HB0:=Lib.hid hb0
 clear hb0
 go_wp2_with fail
 refine (a2C w0).mono ?_
 rintro e w1 ⟨p,q,rfl,hp,hq,hb⟩
 have HB:=Lib.hid (a0h HB0.out hb)
 have H1:=Lib.hid (H.out w1 p q HB.out hp hq)
 have hix:=λ W=>b1o p q W
 have hkf:=a8m
 obtain ⟨V,hV⟩ : ∃ V,V = a1x p q:=⟨_,rfl⟩
 rw [<- hV] at hix ⊢
 clear hb hp hq hV
 go_wp2_with fail
 refine H1.out.mono ?_
 rintro e w2 ⟨A1,c1,rfl,hv,hb⟩
 have H2:=Lib.hid (And.intro hv hb)
 clear hv hb hix hkf
 go_wp2_with fail
 go_ret2
 exact ⟨A1,c1,rfl,Kd.R_lower H2.out.1 HB.out.size,a0h HB.out H2.out.2⟩
set_option maxRecDepth 100000 in
theorem d0G {x : Int × List Int} (A : Option Addr) (c m : Nat) (n : Int) (w : World) (h0 : a0v 3 n m = 0) (h : ∀ (W : World) (p q : Nat),Below w.heap.size w W -> W.cell? ⟨p,0,none⟩ = some (.int .i64 0) -> W.cell? ⟨q,0,none⟩ = some (.int .i64 1) -> Calls Tryz.prog 23 #[.slice A m c,.int .i64 n] W (Told x.1 x.2 W)) :
    Calls Tryz.prog 28 #[.int .i64 3,.slice A m c,.int .i64 n] w (Told x.1 x.2 w):=by
 have H:=Lib.hid h
 have HI:=Lib.hid (a5A 3 n m w)
 unfold a1E at HI
 rw [h0] at HI
 clear h h0
 go_enter Tryz.func28,Tryz.ntmps28
 go_wp2_with fail
 refine HI.out.mono ?_
 rintro e w0 ⟨rfl,hb0⟩
 have HB0:=Lib.hid hb0
 clear hb0
 go_wp2_with fail
 refine (a2C w0).mono ?_
 rintro e w1 ⟨p,q,rfl,hp,hq,hb⟩
 have HB:=Lib.hid (a0h HB0.out hb)
 have H1:=Lib.hid (H.out w1 p q HB.out hp hq)
 have hix:=λ W=>b1p p q W
 have hkf:=a8m
 obtain ⟨V,hV⟩ : ∃ V,V = a1x p q:=⟨_,rfl⟩
 rw [<- hV] at hix ⊢
 clear hb hp hq hV
 go_wp2_with fail
 refine H1.out.mono ?_
 rintro e w2 ⟨A1,c1,rfl,hv,hb⟩
 have H2:=Lib.hid (And.intro hv hb)
 clear hv hb hix hkf
 go_wp2_with fail
 go_ret2
 exact ⟨A1,c1,rfl,Kd.R_lower H2.out.1 HB.out.size,a0h HB.out H2.out.2⟩
theorem b1y {k n m : Int} (h : a0v k n m = 0) : 0 <= k /\ k < 4 /\ 0 <= n /\ n <= 131072 /\ mayB k n m = true:=by
 unfold a0v at h
 by_cases h1 : k < 0 \/ 3 < k
 · rw [if_pos h1] at h; cases h
 rw [if_neg h1] at h
 by_cases h2 : n < 0 \/ 131072 < n \/ mayB k n m = false
 · rw [if_pos h2] at h; cases h
 refine ⟨by omega,by omega,by omega,by omega,?_⟩
 cases e : mayB k n m with
 | true=>rfl
 | false=>exact absurd (.inr (.inr e)) h2
theorem d0H (A : Option Addr) (c : Nat) (k n : Int) (ps : List Int) (w : World) (hr : (Kd.int .u8).C w A ps.length ps) (hps : Bytes ps) (hl : ps.length <= 1000000) (hc : ps.length <= c) (hnil : A = none -> c = 0) :
    Calls Tryz.prog 28 #[.int .i64 k,.slice A ps.length c,.int .i64 n] w (Told (pickD k ps n).1 (pickD k ps n).2 w):=by
 by_cases h0 : a0v k n ps.length = 0
 · obtain ⟨k0,k4,n0,n1,hm⟩:=b1y h0
   have e : pickD k ps n = if k <= 1 then a3l k ps n else if k = 2 then dec0M ps n else dec1M ps n:=by unfold pickD; rw [if_neg (λ h=>h h0)]
   rw [e]
   by_cases e0 : k = 0
   · subst e0
     have hn : n = ps.length:=by unfold mayB at hm; rw [if_pos rfl] at hm; exact of_decide_eq_true hm
     subst hn
     have e2 : a3l 0 ps ps.length = (0,ps):=by unfold a3l; rw [if_neg (by omega),if_neg (by omega),if_pos rfl]
     rw [if_pos (by decide),e2]
     exact d0D (x:=(0,ps)) A c ps.length ps.length w h0 (λ W p q hB hp _=>b8E (x:=(0,ps)) A c p 0 _ _ W hp (d0x A c ps W (Kd.C_below hr hB) (by omega) hps))
   by_cases e1 : k = 1
   · subst e1
     have hn : 1 < n /\ (ps.length : Int) = 1:=by unfold mayB at hm; rw [if_neg (by decide),if_pos rfl] at hm; exact of_decide_eq_true hm
     obtain ⟨N,rfl⟩ : ∃ N : Nat,n = N:=⟨n.toNat,by omega⟩
     have hl1 : ps.length = 1:=by omega
     have e2 : a3l 1 ps N = (0,List.replicate N (ps.getD 0 0)):=by unfold a3l; rw [if_neg (by omega),if_neg (by omega),if_neg (by decide)]; rfl
     obtain ⟨x,rfl⟩:=List.length_eq_one_iff.1 hl1
     rw [if_pos (by decide),e2]
     exact d0E (x:=(0,List.replicate N x)) A c 1 N w h0 (λ W p q hB _ hq=>b8E (x:=(0,List.replicate N x)) A c q 1 _ _ W hq (d0y A c x N W (Kd.C_below hr hB) (by omega) (by omega)))
   rw [if_neg (by omega)]
   by_cases e2 : k = 2
   · subst e2
     rw [if_pos rfl]
     exact d0F (x:=dec0M ps n) A c ps.length n w h0 (λ W p q hB _ _=>c7E A c ps n W (Kd.C_below hr hB) hps hl hc hnil rfl)
   · obtain rfl : k = 3:=by omega
     rw [if_neg (by decide)]
     exact d0G (x:=dec1M ps n) A c ps.length n w h0 (λ W p q hB _ _=>(b8D A c ps n W (Kd.C_below hr hB) hps hl hc).mono λ e w' hp=>hp.told)
 · have e : pickD k ps n = (a0v k n ps.length,[]):=by unfold pickD; rw [if_pos h0]
   rw [e]
   exact d0C A c ps.length k n w h0
theorem b8F {k n : Int} {ps : List Int} (h : Bytes ps) : Bytes (pickD k ps n).2:=by
 unfold pickD
 split
 · intro x hx; cases hx
 · split
   · unfold a3l
     repeat' split
     · intro x hx; cases hx
     · intro x hx; cases hx
     · exact h
     · intro x hx; rw [(List.mem_replicate.1 hx).2]; exact h.get 0
   · split
     · exact c7O h
     · exact c7P h
def OpenPost (r : Int × List Int × Nat × Bool) (w : World) (e : Ending) (w' : World) : Prop:=
 ∃ A c,e = .returned (.tuple #[.slice A r.2.1.length c,.int .i64 (r.2.2.1 : Nat),.bool r.2.2.2,.int .i64 r.1]) /\ (Kd.int .u8).R 5 w' w.heap.size (λ _=>True) (.slice A r.2.1.length c) r.2.1 /\ Below w.heap.size w w'
theorem a8r {f : List Int} (hf : Bytes f) {log room : Int} {first : Bool} (h : (scanM f log first room).1 = 0) : 11 <= f.length /\ (scanM f log first room).2.1 <= 3 /\ (scanM f log first room).2.2.1 <= 131072 /\ (scanM f log first room).2.2.2.1 < 16777216 /\ (scanM f log first room).2.2.2.2.2 < 4294967296 /\ a0v ((scanM f log first room).2.1 : Nat) (scanM f log first room).2.2.1 (scanM f log first room).2.2.2.1 = 0 /\ ((scanM f log first room).2.2.1 : Int) <= room:=by
 unfold scanM at h ⊢
 by_cases a1 : log < 10 \/ 17 < log \/ room < 0
 · rw [if_pos a1] at h; cases h
 rw [if_neg a1] at h ⊢
 by_cases a2 : f.length < 1
 · rw [if_pos a2] at h; cases h
 rw [if_neg a2] at h ⊢
 by_cases a3 : 7 < (f.getD 0 0).toNat
 · rw [if_pos a3] at h; cases h
 rw [if_neg a3] at h ⊢
 by_cases a4 : f.length < 4
 · rw [if_pos a4] at h; cases h
 rw [if_neg a4] at h ⊢
 by_cases a5 : a1h log first ((f.getD 0 0).toNat % 4) (rdN (f.drop 1) 3) (decide (4 <= (f.getD 0 0).toNat)) = false
 · rw [if_pos a5] at h; cases h
 rw [if_neg a5] at h ⊢
 by_cases a6 : f.length < 7
 · rw [if_pos a6] at h; cases h
 rw [if_neg a6] at h ⊢
 by_cases a7 : a0v ((f.getD 0 0).toNat % 4 : Nat) (rdN (f.drop 1) 3) (rdN (f.drop 4) 3) ≠ 0
 · rw [if_pos a7] at h; exact absurd h a7
 rw [if_neg a7] at h ⊢
 by_cases a8 : room < rdN (f.drop 1) 3
 · rw [if_pos a8] at h; cases h
 rw [if_neg a8] at h ⊢
 by_cases a9 : f.length < 11
 · rw [if_pos a9] at h; cases h
 rw [if_neg a9]
 have b1:=a2r (λ x hx=>hf x (List.mem_of_mem_drop hx) : Bytes (f.drop 4)) 3
 have b2:=a2r (λ x hx=>hf x (List.mem_of_mem_drop hx) : Bytes (f.drop 7)) 4
 have b3:=b1y (Classical.not_not.1 a7)
 dsimp only
 refine ⟨by omega,by omega,by omega,by omega,by omega,Classical.not_not.1 a7,by omega⟩
theorem a6x {fn : Func} {a b c d : Tmp} (h : fn.results = #[.tmp a,.tmp b,.tmp c,.tmp d]) (tmps : Array Value) (w : World) :
    (results fn tmps).run Tryz.prog w = .ok (.tuple #[tmps.getD a undef,tmps.getD b undef,tmps.getD c undef,tmps.getD d undef]) w:=by
 simp [results,h]
theorem OpenPost.err (k : Int) {w w' : World} (hb : Below w.heap.size w w') : OpenPost (k,[],0,false) w (.returned (.tuple #[.slice none 0 0,.int .i64 0,.bool false,.int .i64 k])) w':=⟨none,0,rfl,Kd.R_nil _ _ _ _ _,hb⟩
set_option maxRecDepth 100000 in
set_option maxHeartbeats 2000000 in
theorem b1z (A : Option Addr) (c : Nat) (f : List Int) (log : Int) (first : Bool) (room : Int) (w : World) (hr : (Kd.int .u8).C w A f.length f) (hf : Bytes f) (hl : f.length <= 1000000) (hc : f.length <= c) :
    Calls Tryz.prog 36 #[.slice A f.length c,.int .i64 log,.bool first,.int .i64 room] w (OpenPost (openM f log first room) w):=by
 have HSc:=Lib.hid (b8i A c f log first room w hr hf hl hc)
 have hB:=λ h=>a8r hf (log:=log) (room:=room) (first:=first) h
 have HOp : Hid (openM f log first room = (let s:=scanM f log first room
  if s.1 ≠ 0 then (s.1,[],0,false) else
  if f.length < 11 + s.2.2.2.1 then (3,[],0,false) else
  if a0F 0 ((f.drop 11).take s.2.2.2.1) ≠ s.2.2.2.2.2 then (12,[],0,false) else
  if (pickD (s.2.1 : Nat) ((f.drop 11).take s.2.2.2.1) s.2.2.1).1 ≠ 0 then ((pickD (s.2.1 : Nat) ((f.drop 11).take s.2.2.2.1) s.2.2.1).1,[],0,false) else
  (0,(pickD (s.2.1 : Nat) ((f.drop 11).take s.2.2.2.1) s.2.2.1).2,11 + s.2.2.2.1,s.2.2.2.2.1))):=Lib.hid rfl
 obtain ⟨R,hR⟩ : ∃ R,R = openM f log first room:=⟨_,rfl⟩
 rw [<- hR] at HOp ⊢
 obtain ⟨k,kd,N,Len,lb,sm,hS⟩ : ∃ k kd N Len lb sm,scanM f log first room = (k,kd,N,Len,lb,sm):=⟨_,_,_,_,_,_,rfl⟩
 rw [hS] at HSc hB HOp
 dsimp only at hB HOp
 unfold a6v headC at HSc
 dsimp only at HSc
 have HRw:=Lib.hid (And.intro hr (And.intro hf (And.intro hl hc)))
 clear hR hS hr hf hl hc
 by_cases hk : k = 0
 · subst hk
   obtain ⟨b11,bkd,bN,bLen,bsm,bck,brm⟩:=hB rfl
   have HBd:=Lib.hid (And.intro b11 (And.intro bkd (And.intro bN (And.intro bLen (And.intro bsm (And.intro bck brm))))))
   rw [if_neg (λ h=>h rfl)] at HOp
   clear hB bkd bN bck brm
   by_cases hL : f.length < 11 + Len
   · rw [if_pos hL] at HOp
     have hLI : (f.length : Int) < 11 + (Len : Int):=by omega
     clear hL
     go_enter Tryz.func36,Tryz.ntmps36
     go_wp2_with fail
     refine HSc.out.mono ?_
     rintro e w1 ⟨rfl,hb1⟩
     have HB1:=Lib.hid hb1
     clear hb1
     go_wp2_with fail
     refine bodyPost_ret (a6x (fn:=Tryz.f36) (a:=8) (b:=9) (c:=10) (d:=11) rfl _ _) rfl ?_
     rw [HOp.out]
     exact OpenPost.err 3 (HB1.out.alloc HB1.out.size _)
   · rw [if_neg hL] at HOp
     have hLI : ¬ (f.length : Int) < 11 + (Len : Int):=by omega
     obtain ⟨bd,hbd⟩ : ∃ l,l = (f.drop 11).take Len:=⟨_,rfl⟩
     have hdl : (f.drop 11).length = f.length - 11:=List.length_drop
     have hbl : bd.length = Len:=by rw [hbd,List.length_take]; omega
     have HBy:=Lib.hid (show Bytes bd from by rw [hbd]; exact λ x hx=>HRw.out.2.1 x (List.mem_of_mem_drop (List.mem_of_mem_take hx)))
     have hsl : ∀ W : World,(Instr.slice 22 (.slice A f.length c) (some (.int .i64 11)) (some (.int .i64 (11 + (Len : Int)))) none).run Tryz.prog W = .ok (.slice (if c = 11 then A else A.map (·.add (11 * 1))) Len (c - 11)) W:=λ W=>by
      obtain ⟨i0,hi0,hz0,hz1,hz2⟩:=info_parts a0E
      have:=b2y (P:=Tryz.prog) 22 5 .i64 .i64 Tryz.underlying22 hi0 1 hz1 A f.length c (11 : Int) (11 + (Len : Int)) (by decide) (by omega) (by omega) HRw.out.2.2.2 W
      rw [show ((11 : Int) + (Len : Int)).toNat - (11 : Int).toNat = Len by omega,show (11 : Int).toNat = 11 from rfl] at this
      exact this
     obtain ⟨Ab,hAb⟩ : ∃ Ab,Ab = (if c = 11 then A else A.map (·.add (11 * 1))):=⟨_,rfl⟩
     have hnil : Ab ≠ none:=by
      obtain ⟨ad,hA,_⟩:=a0x HRw.out.1 0 (by omega)
      rw [hAb,hA]; split <;> simp
     have HBC : Hid ((Kd.int .u8).C w Ab Len bd):=Lib.hid (by
      have h1:=Kd.C_drop (c:=c) (m:=11) HRw.out.1 b11 HRw.out.2.2.2
      have h2:=Kd.C_take (m:=Len) h1 (by omega)
      rw [<- hbd,hbl] at h2
      rw [hAb]; exact h2)
     rw [<- hAb] at hsl
     rw [<- hbd] at HOp
     have HBl:=Lib.hid (And.intro hbl (show Len <= c - 11 from by have:=HRw.out.2.2.2; omega))
     have HNil:=Lib.hid hnil
     obtain ⟨cs,hcs⟩ : ∃ n,n = a0F 0 bd:=⟨_,rfl⟩
     have HCs:=Lib.hid hcs
     rw [<- hcs] at HOp
     have HLn:=Lib.hid (show bd.length <= 1000000 from by have:=HRw.out.2.2.1; omega)
     clear hL hbd hdl hbl hAb hnil hcs
     go_enter Tryz.func36,Tryz.ntmps36
     go_wp2_with fail
     refine HSc.out.mono ?_
     rintro e w1 ⟨rfl,hb1⟩
     obtain ⟨w2,hw2⟩ : ∃ w2,w2 = w1.alloc (.cells #[.int .i64 kd,.int .i64 N,.int .i64 Len,.bool lb,.int .u32 sm] 114):=⟨_,rfl⟩
     have hb2 : Below w.heap.size w w2:=by rw [hw2]; exact hb1.alloc hb1.size _
     have hk2 : w2.heap[w1.heap.size]? = some (.cells #[.int .i64 kd,.int .i64 N,.int .i64 Len,.bool lb,.int .u32 sm] 114 (0,0)):=by rw [hw2]; exact a0i _ _
     obtain ⟨hh,hhh⟩ : ∃ h,h = w1.heap.size:=⟨_,rfl⟩
     rw [<- hhh] at hk2
     have HB2:=Lib.hid hb2
     have HK2:=Lib.hid hk2
     obtain ⟨⟨c0,c1,c2,c3,c4⟩,-⟩:=cell5 hk2
     have s0 : SLater w2 w2:=Below.refl _ _
     clear hb1 hb2 hk2
     go_wp2_with fail
     rw [<- hw2,<- hhh]
     clear hw2 hhh
     go_wp2_with fail
     have HBC2:=Lib.hid (Kd.C_below HBC.out HB2.out)
     have HOf0 : Hid (∀ (W : World) (p : Nat),SLater w2 W -> TabAt p 256 W -> Calls Tryz.prog 86 #[.pointer (some ⟨p,0,none⟩),.slice Ab Len (c - 11)] W (λ e W'=>e = .returned (.int .u32 cs) /\ W = W')):=Lib.hid (λ W p hW hp=>by
      have h2:=a6q p Ab (c - 11) bd W hp (by rw [HBl.out.1]; exact Kd.C_below HBC2.out hW) (by have:=HLn.out; omega) HBy.out
      rw [HBl.out.1,<- HCs.out] at h2
      exact h2)
     have HPd : Hid (∀ W : World,SLater w2 W -> Calls Tryz.prog 28 #[.int .i64 kd,.slice Ab Len (c - 11),.int .i64 N] W (Told (pickD kd bd N).1 (pickD kd bd N).2 W)):=Lib.hid (λ W hW=>by
      have h:=d0H Ab (c - 11) kd N bd W (by rw [HBl.out.1]; exact Kd.C_below HBC2.out hW) HBy.out HLn.out (by rw [HBl.out.1]; exact HBl.out.2) (λ h=>absurd h HNil.out)
      rw [HBl.out.1] at h
      exact h)
     have HRb:=Lib.hid (b8F (k:=kd) (n:=N) HBy.out)
     obtain ⟨pk,py,hP⟩ : ∃ pk py,pickD kd bd N = (pk,py):=⟨_,_,rfl⟩
     rw [hP] at HPd HOp HRb
     dsimp only at HPd HOp HRb
     clear hP
     by_cases hcm : cs = sm
     · rw [if_neg (λ h=>h hcm)] at HOp
       have hneq : ((cs : Int) != (sm : Int)) = false:=by rw [hcm]; simp
       clear hcm
       go_region_law (first
        | (go_simp; go_at_call 85; refine (a3Z _).mono ?_; rintro e w' ⟨p,rfl,hp,ht,hb⟩; have s1:=(by first | exact SLater.keep ‹_› hb | exact SLater.keep (SLater.drew ‹_›) hb : SLater w2 w'); obtain ⟨⟨g0,g1,g2,g3,g4⟩,-⟩:=cell5 (a0g HK2.out s1); clear hp hb)
        | (go_simp; go_at_call 86; refine (HOf0.out _ _ (by first | assumption | exact SLater.drew ‹_›) (by first | assumption)).mono ?_; rintro e w' ⟨rfl,rfl⟩))
       all_goals
        go_wp2_with fail
        refine (HPd.out _ (by first | assumption | exact SLater.drew ‹_›)).mono ?_
        rintro e w5 ⟨Ay,cy,rfl,hvy,hb5⟩
        have HV5 : Hid ((Kd.int .u8).R 5 w5 w.heap.size (λ _=>True) (.slice Ay py.length cy) py):=Lib.hid (Kd.R_lower hvy (Nat.le_trans HB2.out.size (Below.size (B:=w2.heap.size) (w:=w2) (by first | assumption | exact SLater.drew ‹_›))))
        have sX:=(by first | exact SLater.keep ‹_› hb5 | exact SLater.keep (SLater.drew ‹_›) hb5 : SLater w2 w5)
        obtain ⟨⟨g0,g1,g2,g3,g4⟩,-⟩:=cell5 (a0g HK2.out sX)
        have HSX:=Lib.hid sX
        clear hvy hb5
        by_cases hpk : pk = 0
        · subst hpk
          rw [if_neg (λ h=>h rfl)] at HOp
          go_wp2_with fail
          go_quiet (fail)
          all_goals
           go_wp2_with fail
           refine bodyPost_ret (a6x (fn:=Tryz.f36) (a:=8) (b:=9) (c:=10) (d:=11) rfl _ _) rfl ?_
           rw [HOp.out]
           exact ⟨Ay,cy,rfl,Kd.R_below HV5.out (a0b (Below.refl _ _) _),a0b (HB2.out.trans (Below.mono HSX.out HB2.out.size)) _⟩
        · rw [if_pos hpk] at HOp
          have hpk2 : (pk != 0) = true:=by simpa using hpk
          clear hpk
          go_wp2_with fail
          refine bodyPost_ret (a6x (fn:=Tryz.f36) (a:=8) (b:=9) (c:=10) (d:=11) rfl _ _) rfl ?_
          rw [HOp.out]
          exact OpenPost.err pk (HB2.out.trans (Below.mono HSX.out HB2.out.size))
     · rw [if_pos hcm] at HOp
       have hneq : ((cs : Int) != (sm : Int)) = true:=by simp; omega
       clear hcm
       go_region_law (first
        | (go_simp; go_at_call 85; refine (a3Z _).mono ?_; rintro e w' ⟨p,rfl,hp,ht,hb⟩; have s1:=(by first | exact SLater.keep ‹_› hb | exact SLater.keep (SLater.drew ‹_›) hb : SLater w2 w'); obtain ⟨⟨g0,g1,g2,g3,g4⟩,-⟩:=cell5 (a0g HK2.out s1); clear hp hb)
        | (go_simp; go_at_call 86; refine (HOf0.out _ _ (by first | assumption | exact SLater.drew ‹_›) (by first | assumption)).mono ?_; rintro e w' ⟨rfl,rfl⟩))
       all_goals
        have sX:=(by first | assumption | exact SLater.drew ‹_› : SLater w2 _)
        go_wp2_with fail
        refine bodyPost_ret (a6x (fn:=Tryz.f36) (a:=8) (b:=9) (c:=10) (d:=11) rfl _ _) rfl ?_
        rw [HOp.out]
        exact OpenPost.err 12 (HB2.out.trans (Below.mono (by first | assumption | exact SLater.drew ‹_›) HB2.out.size))
 · have hk2 : (k != 0) = true:=by simpa using hk
   rw [if_pos hk] at HOp
   clear hB hk
   go_enter Tryz.func36,Tryz.ntmps36
   go_wp2_with fail
   refine HSc.out.mono ?_
   rintro e w1 ⟨rfl,hb1⟩
   have HB1:=Lib.hid hb1
   clear hb1
   go_wp2_with fail
   refine bodyPost_ret (a6x (fn:=Tryz.f36) (a:=8) (b:=9) (c:=10) (d:=11) rfl _ _) rfl ?_
   rw [HOp.out]
   exact OpenPost.err k (HB1.out.alloc HB1.out.size _)
theorem b8G {f x : List Int} (h : f.length < 4) : a0T f x = 3:=by unfold a0T; rw [if_pos h]
theorem b8H {f x : List Int} (h : ¬ f.length < 4) (h2 : f.take 4 ≠ tailL x) : a0T f x = 15:=by unfold a0T; rw [if_neg h,if_pos h2]
theorem b8I {f x : List Int} (h : ¬ f.length < 4) (h2 : f.take 4 = tailL x) : a0T f x = if 4 < f.length then 16 else 0:=by unfold a0T; rw [if_neg h,if_neg (λ h=>h h2)]
theorem d0I (x : List Int) : Bytes (tailL x):=a5q _ _
set_option maxRecDepth 100000 in
set_option maxHeartbeats 2000000 in
theorem d0J (A B : Option Addr) (ca cb : Nat) (f x : List Int) (w : World) (hf : BSl w A ca f) (hx : BSl w B cb x) (hl : x.length <= 1000000000000) (hfl : f.length <= 1000000) :
    Calls Tryz.prog 96 #[.slice A f.length ca,.slice B x.length cb] w (λ e w'=>e = .returned (.int .i64 (a0T f x)) /\ Below w.heap.size w w'):=by
 by_cases h4 : f.length < 4
 · have HM:=Lib.hid (b8G (x:=x) h4)
   have h4I : (f.length : Int) < 4:=by omega
   clear hf hx h4
   go_enter Tryz.func96,Tryz.ntmps96
   go_wp2_with fail
   go_ret
   rw [HM.out]
   exact ⟨rfl,Below.refl _ _⟩
 · have h4I : ¬ (f.length : Int) < 4:=by omega
   have hsl:=a3E A f.length ca 4 (by omega) hf.cap
   have htk : (f.take 4).length = 4:=by rw [List.length_take]; omega
   have htb : Bytes (f.take 4):=λ x hx=>hf.by' x (List.mem_of_mem_take hx)
   have hC:=(hf.cut (k:=4) (by omega)).row
   have hc4 : (4 : Int) <= (ca : Int):=by have:=hf.cap; omega
   rw [htk] at hC
   have hcv1 : ∀ W,SLater w W -> (convert 22 9 (.slice A 4 ca)).run Tryz.prog W = .ok (.string (strOfNums (f.take 4))) W:=λ W hW=>by
    have:=Kd.C_string (P:=Tryz.prog) (c:=ca) Tryz.underlying22 Tryz.underlying5 Tryz.underlying9 (Kd.C_below (n:=(f.take 4).length) (by rw [htk]; exact hC) hW)
    rw [htk] at this; exact this
   have HTl : Hid (∀ W,SLater w W -> Calls Tryz.prog 43 #[.slice B x.length cb] W (λ e w'=>∃ A c,e = .returned (.slice A 4 c) /\ (Kd.int .u8).R 5 w' W.heap.size (λ _=>True) (.slice A 4 c) (tailL x) /\ Below W.heap.size W w')):=Lib.hid (λ W hW=>b8o B cb x W (Kd.C_below hx.row hW) hl hx.by')
   have HCv : Hid (∀ (W : World) (T : Option Addr) (c B : Nat),(Kd.int .u8).R 5 W B (λ _=>True) (.slice T 4 c) (tailL x) -> ∀ W',SLater W W' -> (convert 22 9 (.slice T 4 c)).run Tryz.prog W' = .ok (.string (strOfNums (tailL x))) W'):=Lib.hid (λ W T c B h W' hW=>by
    have h2:=(Kd.R_reads' h).2.2
    have:=Kd.C_string (P:=Tryz.prog) (c:=c) Tryz.underlying22 Tryz.underlying5 Tryz.underlying9 (Kd.C_below h2 hW)
    rw [a1L] at this; exact this)
   have hq:=b6O htb (d0I x)
   have HB : Hid (f.take 4 ≠ tailL x -> a0T f x = 15):=Lib.hid (b8H h4)
   have HB2 : Hid (f.take 4 = tailL x -> a0T f x = if 4 < f.length then 16 else 0):=Lib.hid (b8I h4)
   obtain ⟨tk,hk⟩ : ∃ t,t = f.take 4:=⟨_,rfl⟩
   obtain ⟨tl,htl⟩ : ∃ t,t = tailL x:=⟨_,rfl⟩
   obtain ⟨x1,hx1⟩ : ∃ x,x = strOfNums tk:=⟨_,rfl⟩
   obtain ⟨y1,hy1⟩ : ∃ x,x = strOfNums tl:=⟨_,rfl⟩
   obtain ⟨r,hr⟩ : ∃ r,r = a0T f x:=⟨_,rfl⟩
   rw [<- hk,<- htl] at hq HB HB2
   rw [<- hk] at hcv1
   rw [<- htl] at HTl HCv
   rw [<- hx1,<- hy1] at hq
   rw [<- hx1] at hcv1
   rw [<- hy1] at HCv
   rw [<- hr] at HB HB2 ⊢
   have s0 : SLater w w:=Below.refl _ _
   have cv0:=hcv1 w.drew s0.drew
   have HCv1:=Lib.hid hcv1
   clear hcv1 hC htk htb hf hx hk htl hx1 hy1 hr h4
   by_cases hne : tk = tl
   · rw [decide_eq_true hne] at hq
     have hq2 : (x1.toList != y1.toList) = false:=by show (!(x1.toList == y1.toList)) = false; rw [hq]; rfl
     have HR:=Lib.hid (HB2.out hne)
     clear HB HB2 hne
     by_cases h5 : 4 < f.length
     · have h5I : (4 : Int) < (f.length : Int):=by omega
       rw [if_pos h5] at HR
       clear h5
       go_enter Tryz.func96,Tryz.ntmps96
       go_wp2_with fail
       go_region_law (go_simp; go_at_call 43; refine (HTl.out _ (by first | assumption | exact SLater.drew ‹_›)).mono ?_; rintro e w' ⟨T,ct,rfl,hvt,hb⟩; have sx:=(by first | exact SLater.keep ‹_› hb | exact SLater.keep (SLater.drew ‹_›) hb : SLater w w'); have cv1:=HCv1.out _ sx; have cv2:=HCv.out _ _ _ _ hvt _ (Below.refl _ _); clear hvt hb)
       all_goals
        go_wp2_with fail
        go_ret
        rw [HR.out]
        exact ⟨rfl,by first | assumption | exact SLater.drew ‹_›⟩
     · have h5I : ¬ (4 : Int) < (f.length : Int):=by omega
       rw [if_neg h5] at HR
       clear h5
       go_enter Tryz.func96,Tryz.ntmps96
       go_wp2_with fail
       go_region_law (go_simp; go_at_call 43; refine (HTl.out _ (by first | assumption | exact SLater.drew ‹_›)).mono ?_; rintro e w' ⟨T,ct,rfl,hvt,hb⟩; have sx:=(by first | exact SLater.keep ‹_› hb | exact SLater.keep (SLater.drew ‹_›) hb : SLater w w'); have cv1:=HCv1.out _ sx; have cv2:=HCv.out _ _ _ _ hvt _ (Below.refl _ _); clear hvt hb)
       all_goals
        go_wp2_with fail
        go_ret
        rw [HR.out]
        exact ⟨rfl,by first | assumption | exact SLater.drew ‹_›⟩
   · rw [decide_eq_false hne] at hq
     have hq2 : (x1.toList != y1.toList) = true:=by show (!(x1.toList == y1.toList)) = true; rw [hq]; rfl
     have HR:=Lib.hid (HB.out hne)
     clear HB HB2 hne
     go_enter Tryz.func96,Tryz.ntmps96
     go_wp2_with fail
     go_region_law (go_simp; go_at_call 43; refine (HTl.out _ (by first | assumption | exact SLater.drew ‹_›)).mono ?_; rintro e w' ⟨T,ct,rfl,hvt,hb⟩; have sx:=(by first | exact SLater.keep ‹_› hb | exact SLater.keep (SLater.drew ‹_›) hb : SLater w w'); have cv1:=HCv1.out _ sx; have cv2:=HCv.out _ _ _ _ hvt _ (Below.refl _ _); clear hvt hb)
     all_goals
      go_wp2_with fail
      go_ret
      rw [HR.out]
      exact ⟨rfl,by first | assumption | exact SLater.drew ‹_›⟩
theorem b1A {f : List Int} (h : headM f = 0) (hb : Bytes f) : a1I f = f.getD 5 0 /\ 0 <= a1I f /\ a1I f < 256:=by
 have : a1I f = f.getD 5 0:=by unfold a1I; rw [if_pos h]
 rw [this]; exact ⟨rfl,hb.get 5⟩
theorem b1B {f : List Int} (h : headM f = 0) : 8 <= f.length:=by
 have g : ∀ (d i : Nat),headG f d i = 0 -> i + d <= f.length \/ d = 0:=by
  intro d
  induction d with
  | zero=>intro i _; exact .inr rfl
  | succ d ih=>
   intro i h
   left
   unfold headG at h
   split at h
   · cases h
   · split at h
     · rename_i h1; exact absurd h h1
     · rcases ih (i + 1) h with h | h <;> omega
 have:=g 8 0 h
 omega
end Go.Proofs.YtflfjpkmjnnodaaGreat
namespace Go.Proofs.YtflfjpkmjnnodaaGreat
open Go.RowKit Go.IntWalk Go.Proofs.YtflfjpkmjnnodaaGreatW.PrintWords
attribute [local go_sem] Oper.semAt_some
def a4c : Code := ((Code.region 3 #[{ dst := some 7, op := Op.assign (Operand.tmp 12), type := 22, pos := "frame.go:133", after := #[], guard := none }] false).seq (Code.region 4 #[{ dst := some 8, op := Op.assign (Operand.tmp 13), type := 27, pos := "frame.go:133", after := #[], guard := none }] false))
def a4d : Code := (Code.block 1 ((Code.region 5 #[{ dst := some 14, op := Op.move (Operand.tmp 8), type := 27, pos := "frame.go:134", after := #[], guard := none }] false).seq (Code.block 2 ((Code.region 7 #[{ dst := some 18, op := Op.binOp BinOp.eql 27 (Operand.tmp 14) (Operand.const (Value.int IntKind.i64 0)) 27, type := 4, pos := "frame.go:135", after := #[], guard := none }, { dst := some 17, op := Op.assign (Operand.tmp 18), type := 4, pos := "frame.go:135", after := #[{ on := 0, ground := Ground.data }], guard := none }] false).seq (Code.cond (Operand.tmp 17) (Code.region 8 #[{ dst := some 19, op := Op.load 22 (Operand.tmp 6), type := 22, pos := "frame.go:136", after := #[], guard := none }, { dst := some 20, op := Op.move (Operand.tmp 7), type := 22, pos := "frame.go:136", after := #[], guard := none }, { dst := some 21, op := Op.call { callee := Callee.builtin Builtin.append, args := #[Operand.tmp 19, Operand.tmp 20], argTypes := #[22, 22] }, type := 22, pos := "frame.go:136", after := #[{ on := 0, ground := Ground.data }, { on := 1, ground := Ground.data }], guard := none }, { dst := none, op := Op.store 22 (Operand.tmp 6) (Operand.tmp 21), type := 0, pos := "frame.go:136", after := #[{ on := 2, ground := Ground.data }, { on := 2, ground := Ground.chain }, { on := 0, ground := Ground.phase }, { on := 1, ground := Ground.phase }, { on := 2, ground := Ground.phase }], guard := none }] false) ((Code.region 9 #[{ dst := some 23, op := Op.binOp BinOp.eql 27 (Operand.tmp 14) (Operand.const (Value.int IntKind.i64 16)) 27, type := 4, pos := "frame.go:137", after := #[], guard := none }, { dst := some 22, op := Op.assign (Operand.tmp 23), type := 4, pos := "frame.go:137", after := #[{ on := 0, ground := Ground.data }], guard := none }] false).seq (Code.cond (Operand.tmp 22) ((Code.region 10 #[{ dst := some 24, op := Op.load 22 (Operand.tmp 6), type := 22, pos := "frame.go:138", after := #[], guard := none }, { dst := some 25, op := Op.move (Operand.tmp 7), type := 22, pos := "frame.go:138", after := #[], guard := none }, { dst := some 26, op := Op.load 22 (Operand.tmp 6), type := 22, pos := "frame.go:138", after := #[], guard := none }, { dst := some 27, op := Op.call { callee := Callee.value (Operand.func 96), args := #[Operand.tmp 25, Operand.tmp 26], argTypes := #[22, 22] }, type := 27, pos := "frame.go:138", after := #[{ on := 1, ground := Ground.data }, { on := 2, ground := Ground.data }], guard := none }, { dst := none, op := Op.store 22 (Operand.tmp 4) (Operand.tmp 24), type := 0, pos := "frame.go:138", after := #[{ on := 0, ground := Ground.data }, { on := 3, ground := Ground.chain }, { on := 0, ground := Ground.phase }, { on := 1, ground := Ground.textOnly Departure.lateStores }, { on := 2, ground := Ground.textOnly Departure.inlinedCapture }, { on := 3, ground := Ground.textOnly Departure.lateStoresUnsure }], guard := none }, { dst := none, op := Op.store 27 (Operand.tmp 5) (Operand.tmp 27), type := 0, pos := "frame.go:138", after := #[{ on := 3, ground := Ground.data }, { on := 4, ground := Ground.chain }, { on := 0, ground := Ground.phase }, { on := 1, ground := Ground.phase }, { on := 2, ground := Ground.phase }, { on := 3, ground := Ground.phase }, { on := 4, ground := Ground.phase }], guard := none }] true).seq Code.ret) ((Code.region 6 #[{ dst := some 15, op := Op.load 22 (Operand.tmp 6), type := 22, pos := "frame.go:140", after := #[], guard := none }, { dst := some 16, op := Op.move (Operand.tmp 8), type := 27, pos := "frame.go:140", after := #[{ on := 2, ground := Ground.gcOnly Departure.lateStores }], guard := none }, { dst := none, op := Op.store 22 (Operand.tmp 4) (Operand.tmp 15), type := 0, pos := "frame.go:140", after := #[{ on := 0, ground := Ground.data }, { on := 0, ground := Ground.phase }, { on := 1, ground := Ground.textOnly Departure.lateStores }], guard := none }, { dst := none, op := Op.store 27 (Operand.tmp 5) (Operand.tmp 16), type := 0, pos := "frame.go:140", after := #[{ on := 1, ground := Ground.data }, { on := 2, ground := Ground.chain }, { on := 0, ground := Ground.phase }, { on := 1, ground := Ground.phase }, { on := 2, ground := Ground.phase }], guard := none }] false).seq Code.ret))))))))
set_option maxRecDepth 100000 in
theorem d0M {w0 W : World} {v : Value} {xs ys : List Int} {B : Nat} {A : Option Addr} {n c : Nat} (ty : TypeId) (HO : (Kd.int .u8).R 5 W B (λ _=>True) v xs) (HC : (Kd.int .u8).C W A n ys) (HB : Below B w0 W) (hB : B <= W.heap.size) (hl : xs.length + n <= 140737488355328) :
    ∃ A1 c1 w1,(Builtin.append_ #[22,22] ty #[v,.slice A n c]).run Tryz.prog W = .ok (.slice A1 (xs.length + n) c1) w1 /\ (Kd.int .u8).R 5 w1 B (λ _=>True) (.slice A1 (xs.length + n) c1) (xs ++ ys) /\ Below B w0 w1 /\ W.grownBy w1 v.ownBlock:=by
 have h := app8 (ops := #[{ dst := some 2, op := .call { callee := .builtin .append, args := #[.tmp 0, .tmp 1], argTypes := #[22, 22] }, type := ty, pos := "", after := #[], guard := none }])
  (o := { dst := some 2, op := .call { callee := .builtin .append, args := #[.tmp 0, .tmp 1], argTypes := #[22, 22] }, type := ty, pos := "", after := #[], guard := none }) (rest := [])
  (a:={ tmps:=#[v,.slice A n c,undef],defers:=[] }) (Q:=λ e a w1=>e = .normal /\ ∃ A1 c1,a.tmps[2]? = some (.slice A1 (xs.length + n) c1) /\ (Kd.int .u8).R 5 w1 B (λ _=>True) (.slice A1 (xs.length + n) c1) (xs ++ ys) /\ Below B w0 w1 /\ W.grownBy w1 v.ownBlock)
  (w0:=w0) (W:=W) (s:=.tmp 0) (x:=.tmp 1) (v:=v) rfl rfl rfl rfl (Lib.hid HO) (Lib.hid HC) (Lib.hid HB) hB (Lib.hid hl) (λ A1 c1 w1 h1 h2 h3=>wpList_nil ⟨rfl,A1,c1,rfl,h1,h2,h3⟩)
 simp only [wpList,Region.wanted,if_true] at h
 unfold Oper.wp execOp at h
 simp only [resolve,invoke,builtin,Sem.run_bind,Sem.run_pure,Result.andThen_ok,List.map_toArray,List.map_cons,List.map_nil] at h
 rcases h with h | ⟨_,a',w',h',_⟩
 · rw [show (Act.eval { tmps:=#[v,.slice A n c,undef],defers:=[] } (Operand.tmp 0)) = v from rfl,show (Act.eval { tmps:=#[v,.slice A n c,undef],defers:=[] } (Operand.tmp 1)) = .slice A n c from rfl] at h
   cases hr : (Builtin.append_ #[22,22] ty #[v,.slice A n c]).run Tryz.prog W with
   | ok v' w'=>
    rw [hr] at h
    simp only [Result.andThen_ok,Oper.upon_value] at h
    obtain ⟨_,A1,c1,e,h1,h2,h3⟩:=h
    have : v' = .slice A1 (xs.length + n) c1:=by simpa [Act.put] using e
    subst this
    exact ⟨A1,c1,w',rfl,h1,h2,h3⟩
   | halt s w'=>
    rw [hr] at h
    simp only [Result.andThen] at h
    cases s <;> first | exact h.elim | exact absurd h.1 (by intro e; cases e)
 · cases h'
set_option maxRecDepth 100000 in
theorem d0N {F : Fence} {nF : Nat} {ops : Array Oper} {o : Oper} {rest : List Oper} {a : Act} {Q : Exit -> Act -> World -> Prop} {w0 W : World} {s x : Operand} {v : Value} {xs ys : List Int} {B : Nat} {A : Option Addr} {n c : Nat} (hgd : o.guard = none) (ho : o.op = .call { callee:=.builtin .append,args:=#[s,x],argTypes:=#[22,22] })
    (hs : a.eval s = v) (hx : a.eval x = .slice A n c) (HO : Hid ((Kd.int .u8).R 5 W B (λ _=>True) v xs)) (HC : Hid ((Kd.int .u8).C W A n ys)) (HB : Hid (Below B w0 W)) (hB : B <= W.heap.size) (hl : Hid (xs.length + n <= 140737488355328))
    (h : ∀ A1 c1 w1,(Kd.int .u8).R 5 w1 B (λ _=>True) (.slice A1 (xs.length + n) c1) (xs ++ ys) -> Below B w0 w1 -> W.grownBy w1 v.ownBlock -> wpListIn F nF Tryz.prog ops Q rest (a.put o.dst (.slice A1 (xs.length + n) c1)) w1) :
    wpListIn F nF Tryz.prog ops Q (o :: rest) a W:=by
 refine wpListIn_plain hgd λ K hK=>?_
 obtain ⟨A1,c1,w1,hr,h1,h2,h3⟩:=d0M o.type HO.out HC.out HB.out hB hl.out
 unfold Oper.wpIn
 refine ⟨by simp [Oper.about,ho,resolve,Target.leads,Sem.run_pure],?_⟩
 rw [Oper.semAt_plain F _ _ (by rw [ho]; intro c hc'; cases hc')]
 simp only [execOp,ho,resolve,invoke,builtin,Sem.run_bind,Sem.run_pure,Result.andThen_ok,List.map_toArray,List.map_cons,List.map_nil,hs,hx]
 rw [hr]
 exact hK _ _ (h A1 c1 w1 h1 h2 h3)
def pfRec (fn : FuncId) (tm : Array Value) (D : Nat) (st : LoopState) (pend : Option Code) : Loop:={ state:=st,pending:=pend,fn,tmps:=tm,params:=#[12,13],assign:=a4c,body:=a4d,defers:=D }
def pfTm (A : Option Addr) (n c : Nat) (lim : Int) (rb eb ob : Nat) (v9 v10 f y e : Value) : Array Value:=#[.slice A n c,.int .i64 lim,undef,undef,.pointer (some ⟨rb,0,none⟩),.pointer (some ⟨eb,0,none⟩),.pointer (some ⟨ob,0,none⟩),undef,undef,v9,v10,f,y,e,undef,undef,undef,undef,undef,undef,undef,undef,undef,undef,undef,undef,undef,undef,undef]
structure Lay (s rb eb ob fb lb D l B1 : Nat) : Prop where
 h0 : s <= rb
 h1 : rb < eb
 h2 : eb < ob
 h3 : ob < fb
 h4 : fb < lb
 h5 : lb < D
 h6 : D < l
 h7 : l < B1
structure Pf (fn : FuncId) (tm : Array Value) (s rb eb ob fb lb D l B1 : Nat) (w : World) (r : List Int) (lim : Int) (out : List Int) (W : World) : Prop where
 fc : ∃ Ar cr,W.heap[fb]? = some (.cells #[.slice Ar r.length cr] 22 (0,0)) /\ BSl w Ar cr r
 lc : W.heap[lb]? = some (.cells #[.int .i64 lim] 3 (0,0))
 v : ∃ A c,W.heap[ob]? = some (.cells #[.slice A out.length c] 22 (0,0)) /\ (Kd.int .u8).R 5 W B1 (λ _=>True) (.slice A out.length c) out
 rc : W.heap[rb]? = some (.cells #[.slice none 0 0] 22 (0,0))
 ec : W.heap[eb]? = some (.cells #[.int .i64 0] 27 (0,0))
 lp : W.heap[l]? = some (.loop (pfRec fn tm D .ready none))
 dc : W.heap[D]? = some (.deferred (some []))
 on : Below s w W
 sz : B1 <= W.heap.size
structure PfX (fn : FuncId) (tm : Array Value) (s rb eb D l B1 : Nat) (w : World) (k : Int) (out : List Int) (W : World) : Prop where
 rc : ∃ A c,W.heap[rb]? = some (.cells #[.slice A out.length c] 22 (0,0)) /\ (Kd.int .u8).R 5 W B1 (λ _=>True) (.slice A out.length c) out
 ec : W.heap[eb]? = some (.cells #[.int .i64 k] 27 (0,0))
 lp : W.heap[l]? = some (.loop (pfRec fn tm D .done (some .ret)))
 dc : W.heap[D]? = some (.deferred (some []))
 on : Below s w W
theorem _root_.Go.RowKit.Below.putObj {B : Nat} {a b : World} (h : Below B a b) {l : Nat} (hl : B <= l) (o : Obj) : Below B a (b.putObj l o):=
 ⟨h.os,h.tape,h.output,by simpa using h.size,λ k hk=>(World.putObj_heap_other (by omega)).trans (h.block k hk)⟩
theorem R_put {W : World} {B : Nat} {v : Value} {xs : List Int} (h : (Kd.int .u8).R 5 W B (λ _=>True) v xs) {l : Nat} (hl : l < B) (o : Obj) : (Kd.int .u8).R 5 (W.putObj l o) B (λ _=>True) v xs:=
 a1w (S:=λ k=>k = l) h ⟨rfl,rfl,rfl,by simp,λ k _ hk=>World.putObj_heap_other hk⟩ (λ k hk e=>by omega)
theorem a6y {W : World} {B : Nat} {v : Value} {xs : List Int} (h : (Kd.int .u8).R 5 W B (λ _=>True) v xs) {l : Nat} (hl : l < B) (u : Value) : (Kd.int .u8).R 5 (W.setCell ⟨l,0,none⟩ u) B (λ _=>True) v xs:=
 a1w (S:=λ k=>k = l) h (Only.setCell (S:=λ k=>k = l) (p:=⟨l,0,none⟩) (Only.refl _ W) rfl u) (λ k hk e=>by omega)
theorem a1A {W : World} {l k : Nat} {u : Value} {o : Obj} (h : W.heap[k]? = some o) (hk : k ≠ l) : (W.setCell ⟨l,0,none⟩ u).heap[k]? = some o:=(Below.heap_setCell _ ⟨l,0,none⟩ _ k hk).trans h
theorem b8K {W : World} {A : Option Addr} {n l : Nat} {xs : List Int} {lo : Loop} (h : (Kd.int .u8).C W A n xs) (hl : W.heap[l]? = some (.loop lo)) (hn : 0 < n) {ad : Addr} (ha : A = some ad) : ad.block ≠ l:=by
 intro e
 obtain ⟨ad',ha',hc⟩:=h.2.2 hn
 rw [ha] at ha'; injection ha' with e2; subst e2
 obtain ⟨c,h1,h2,h3⟩:=hc 0 _ (List.getElem?_eq_getElem (by have:=h.1; omega))
 have hc1 : c[0]? = some (c[0]'(by rw [h1]; decide)):=List.getElem?_eq_getElem _
 have h4:=h3 0 _ hc1
 unfold World.cell? at h4
 rw [a1F,e,hl] at h4
 cases h4
section
variable {fn : FuncId} {A : Option Addr} {n c : Nat} {lim0 : Int} {s rb eb ob fb lb D l B1 : Nat} {v9 v10 f : Value} {w : World} {r : List Int} {lim : Int} {out : List Int} {W : World}
set_option maxRecDepth 100000 in
set_option maxHeartbeats 2000000 in
theorem d0O (m : Nat) (L : Lay s rb eb ob fb lb D l B1) (h : Pf fn (pfTm A n c lim0 rb eb ob v9 v10 f undef undef) s rb eb ob fb lb D l B1 w r lim out W) {y : List Int} {Ay : Option Addr} {cy : Nat} (hy : (Kd.int .u8).C W Ay y.length y) (hl : out.length + y.length <= 140737488355328) :
    RoundIn Fence.wide m Tryz.prog l fn (pfTm A n c lim0 rb eb ob v9 v10 f (.slice Ay y.length cy) (.int .i64 0)) a4c a4d W
     λ e W'=>e = .returned (.bool true) /\ Pf fn (pfTm A n c lim0 rb eb ob v9 v10 f undef undef) s rb eb ob fb lb D l B1 w r lim (out ++ y) W':=by
 obtain ⟨tm,htm⟩ : ∃ tm,tm = pfTm A n c lim0 rb eb ob v9 v10 f undef undef:=⟨_,rfl⟩
 rw [<- htm] at h ⊢
 refine roundIn_of_wpIn trivial ?_
 have hll : l < W.heap.size:=a0f h.lp
 have hbr:=run_beginRound (P:=Tryz.prog) h.lp rfl
 obtain ⟨lo,hlo⟩ : ∃ lo,lo = { pfRec fn tm D .ready none with state:=.busy }:=⟨_,rfl⟩
 obtain ⟨W2,hW2⟩ : ∃ W2,W.putObj l (.loop { pfRec fn tm D .ready none with state:=.busy }) = W2:=⟨_,rfl⟩
 have hbr2 : (Instr.beginRound l).run Tryz.prog W = .ok () W2:=by rw [<- hW2]; exact hbr
 obtain ⟨Ao,co,hv,hR⟩:=h.v
 have L0:=L.h0; have L1:=L.h1; have L2:=L.h2; have L3:=L.h3; have L4:=L.h4; have L5:=L.h5; have L6:=L.h6; have L7:=L.h7
 have hv2 : W2.heap[ob]? = some (.cells #[.slice Ao out.length co] 22 (0,0)):=by rw [<- hW2]; exact (World.putObj_heap_other (by omega)).trans hv
 have hR2 : Hid ((Kd.int .u8).R 5 W2 B1 (λ _=>True) (.slice Ao out.length co) out):=Lib.hid (by rw [<- hW2]; exact R_put hR L7 _)
 have hlp2 : W2.heap[l]? = some (.loop { pfRec fn tm D .ready none with state:=.busy }):=by rw [<- hW2]; exact World.putObj_heap_same hll
 have hon2 : Below s w W2:=by rw [<- hW2]; exact h.on.putObj (by omega) _
 have hC2 : Hid ((Kd.int .u8).C W2 Ay y.length y):=Lib.hid (a5u hy (λ hn ad ha=>by
  rw [<- hW2]; exact World.putObj_heap_other (b8K hy h.lp hn ha)))
 have hB2 : Hid (Below B1 W2 W2):=Lib.hid (Below.refl _ _)
 have hl2 : Hid (out.length + y.length <= 140737488355328):=Lib.hid hl
 have hc2 : W2.cell? ⟨ob,0,none⟩ = some (.slice Ao out.length co):=(a0a hv2 0).trans rfl
 have hf2 : W2.frozen? ⟨ob,0,none⟩ = false:=a0e hv2 0
 have hs2 : B1 <= W2.heap.size:=by rw [<- hW2]; simpa using h.sz
 have HF:=Lib.hid (And.intro hv2 (And.intro hlp2 hon2))
 have HP:=Lib.hid h
 have HL:=Lib.hid L
 clear hv2 hlp2 hon2 hR hv h L hy hl hbr hlo htm
 unfold a4c pfTm
 gi_wp2
 clear hbr2
 unfold a4d
 gi_wp2_with (gi_at_builtin; (refine d0N rfl rfl rfl rfl hR2 hC2 hB2 hs2 hl2 ?_; intro A4 c4 w4 hr4 hb4 hg4; have HR4:=Lib.hid (And.intro hr4 (And.intro hb4 hg4)); have hv4:=(hb4.block ob (by have:=HL.out.h7; have:=HL.out.h6; have:=HL.out.h5; have:=HL.out.h4; have:=HL.out.h3; omega)).trans HF.out.1; have hc4:=(a0a hv4 0).trans rfl; have hf4:=a0e hv4 0; clear hr4 hb4 hg4 hv4))
 have L:=HL.out
 have L0:=L.h0; have L1:=L.h1; have L2:=L.h2; have L3:=L.h3; have L4:=L.h4; have L5:=L.h5; have L6:=L.h6; have L7:=L.h7
 have hb4:=HR4.out.2.1
 have hl4 : w4.heap[l]? = some (.loop { pfRec fn tm D .ready none with state:=.busy }):=(hb4.block l L7).trans HF.out.2.1
 have hl5 : (w4.setCell ⟨ob,0,none⟩ (.slice A4 (out.length + y.length) c4)).heap[l]? = some (.loop { pfRec fn tm D .ready none with state:=.busy }):=a1A hl4 (by omega)
 have hW2k : ∀ k,k ≠ l -> W2.heap[k]? = W.heap[k]?:=λ k hk=>by rw [<- hW2]; exact World.putObj_heap_other hk
 have hB5 : Below s w (w4.setCell ⟨ob,0,none⟩ (.slice A4 (out.length + y.length) c4)):=(HF.out.2.2.trans (hb4.mono (Nat.le_trans (Nat.le_trans L0 (by omega)) (Nat.le_of_lt L7)))).setCell (p:=⟨ob,0,none⟩) (by show s <= ob; omega) _
 obtain ⟨W5,hW5⟩ : ∃ W5,W5 = w4.setCell ⟨ob,0,none⟩ (.slice A4 (out.length + y.length) c4):=⟨_,rfl⟩
 have h5k : ∀ k,k < B1 -> k ≠ l -> k ≠ ob -> W5.heap[k]? = W.heap[k]?:=λ k h1 h2 h3=>by
  rw [hW5]; exact (Below.heap_setCell _ ⟨ob,0,none⟩ _ k h3).trans ((hb4.block k h1).trans (hW2k k h2))
 have hv5 : W5.heap[ob]? = some (.cells #[.slice A4 (out.length + y.length) c4] 22 (0,0)):=by
  rw [hW5]; exact (a0k ((hb4.block ob (by omega)).trans HF.out.1) 0 _).trans rfl
 have hR5 : (Kd.int .u8).R 5 W5 B1 (λ _=>True) (.slice A4 (out.length + y.length) c4) (out ++ y):=by rw [hW5]; exact a6y HR4.out.1 (by omega) _
 have hs5 : B1 <= W5.heap.size:=by rw [hW5]; simpa [World.setCell] using Nat.le_trans hs2 hb4.size
 rw [<- hW5] at hl5 hB5 ⊢
 obtain ⟨⟨Ar,cr,hfc,hbs⟩,hlc,-,hrc,hec,-,hdc,-,-⟩:=HP.out
 clear hW5
 refine ⟨_,_,run_endRound none hl5,rfl,⟨⟨Ar,cr,(World.putObj_heap_other (by omega)).trans ((h5k fb (by omega) (by omega) (by omega)).trans hfc),hbs⟩,(World.putObj_heap_other (by omega)).trans ((h5k lb (by omega) (by omega) (by omega)).trans hlc),
  ⟨A4,c4,by rw [List.length_append]; exact (World.putObj_heap_other (by omega)).trans hv5,by rw [List.length_append]; exact R_put hR5 L7 _⟩,(World.putObj_heap_other (by omega)).trans ((h5k rb (by omega) (by omega) (by omega)).trans hrc),
  (World.putObj_heap_other (by omega)).trans ((h5k eb (by omega) (by omega) (by omega)).trans hec),World.putObj_heap_same (a0f hl5),(World.putObj_heap_other (by omega)).trans ((h5k D (by omega) (by omega) (by omega)).trans hdc),hB5.putObj (by omega) _,by simpa using hs5⟩⟩
theorem b8L {tm : Array Value} (L : Lay s rb eb ob fb lb D l B1) (h : Pf fn tm s rb eb ob fb lb D l B1 w r lim out W) {W2 W' : World} {Ao : Option Addr} {co : Nat} (hW2 : W.putObj l (.loop { pfRec fn tm D .ready none with state:=.busy }) = W2) (hR : (Kd.int .u8).R 5 W2 B1 (λ _=>True) (.slice Ao out.length co) out) (hW : SLater W2 W') (k : Int) :
    ∃ v w',(Instr.endRound l (some .ret)).run Tryz.prog ((W'.setCell ⟨rb,0,none⟩ (.slice Ao out.length co)).setCell ⟨eb,0,none⟩ (.int .i64 k)) = .ok v w' /\ (Ending.returned v = .returned (.bool false) /\ PfX fn tm s rb eb D l B1 w k out w'):=by
 have L0:=L.h0; have L1:=L.h1; have L2:=L.h2; have L3:=L.h3; have L4:=L.h4; have L5:=L.h5; have L6:=L.h6; have L7:=L.h7
 have hll : l < W.heap.size:=a0f h.lp
 have hs2 : B1 <= W2.heap.size:=by rw [<- hW2]; simpa using h.sz
 have hlp2 : W2.heap[l]? = some (.loop { pfRec fn tm D .ready none with state:=.busy }):=by rw [<- hW2]; exact World.putObj_heap_same hll
 have hW2k : ∀ k,k ≠ l -> W2.heap[k]? = W.heap[k]?:=λ k hk=>by rw [<- hW2]; exact World.putObj_heap_other hk
 have hon2 : Below s w W2:=by rw [<- hW2]; exact h.on.putObj (by omega) _
 have hk' : ∀ k,k < B1 -> W'.heap[k]? = W2.heap[k]?:=λ k hk=>hW.block k (by omega)
 have hR':=a6y (a6y (Kd.R_below hR hW) (show rb < B1 by omega) (.slice Ao out.length co)) (show eb < B1 by omega) (.int .i64 k)
 have hB5 : Below s w ((W'.setCell ⟨rb,0,none⟩ (.slice Ao out.length co)).setCell ⟨eb,0,none⟩ (.int .i64 k)):=
  ((hon2.trans (hW.mono (by omega))).setCell (p:=⟨rb,0,none⟩) (by show s <= rb; omega) _).setCell (p:=⟨eb,0,none⟩) (by show s <= eb; omega) _
 have hl5 : ((W'.setCell ⟨rb,0,none⟩ (.slice Ao out.length co)).setCell ⟨eb,0,none⟩ (.int .i64 k)).heap[l]? = some (.loop { pfRec fn tm D .ready none with state:=.busy }):=a1A (a1A ((hk' l L7).trans hlp2) (by omega)) (by omega)
 have hd5 : ((W'.setCell ⟨rb,0,none⟩ (.slice Ao out.length co)).setCell ⟨eb,0,none⟩ (.int .i64 k)).heap[D]? = some (.deferred (some [])):=a1A (a1A ((hk' D (by omega)).trans ((hW2k D (by omega)).trans h.dc)) (by omega)) (by omega)
 have hr5 : ((W'.setCell ⟨rb,0,none⟩ (.slice Ao out.length co)).setCell ⟨eb,0,none⟩ (.int .i64 k)).heap[rb]? = some (.cells #[.slice Ao out.length co] 22 (0,0)):=a1A ((a0k ((hk' rb (by omega)).trans ((hW2k rb (by omega)).trans h.rc)) 0 _).trans rfl) (by omega)
 have he5 : ((W'.setCell ⟨rb,0,none⟩ (.slice Ao out.length co)).setCell ⟨eb,0,none⟩ (.int .i64 k)).heap[eb]? = some (.cells #[.int .i64 k] 27 (0,0)):=(a0k (a1A ((hk' eb (by omega)).trans ((hW2k eb (by omega)).trans h.ec)) (by omega)) 0 _).trans rfl
 exact ⟨_,_,run_endRound (some .ret) hl5,rfl,⟨Ao,co,(World.putObj_heap_other (by omega)).trans hr5,R_put hR' L7 _⟩,(World.putObj_heap_other (by omega)).trans he5,World.putObj_heap_same (a0f hl5),(World.putObj_heap_other (by omega)).trans hd5,hB5.putObj (by omega) _⟩
set_option maxRecDepth 100000 in
set_option maxHeartbeats 2000000 in
theorem b1C (m : Nat) (L : Lay s rb eb ob fb lb D l B1) (h : Pf fn (pfTm A n c lim0 rb eb ob v9 v10 f undef undef) s rb eb ob fb lb D l B1 w r lim out W) (y : Value) (k : Int) (hk0 : k ≠ 0) (hk16 : k ≠ 16) :
    RoundIn Fence.wide m Tryz.prog l fn (pfTm A n c lim0 rb eb ob v9 v10 f y (.int .i64 k)) a4c a4d W
     λ e W'=>e = .returned (.bool false) /\ PfX fn (pfTm A n c lim0 rb eb ob v9 v10 f undef undef) s rb eb D l B1 w k out W':=by
 obtain ⟨tm,htm⟩ : ∃ tm,tm = pfTm A n c lim0 rb eb ob v9 v10 f undef undef:=⟨_,rfl⟩
 rw [<- htm] at h ⊢
 refine roundIn_of_wpIn trivial ?_
 have hbr:=run_beginRound (P:=Tryz.prog) h.lp rfl
 obtain ⟨W2,hW2⟩ : ∃ W2,W.putObj l (.loop { pfRec fn tm D .ready none with state:=.busy }) = W2:=⟨_,rfl⟩
 have hbr2 : (Instr.beginRound l).run Tryz.prog W = .ok () W2:=by rw [<- hW2]; exact hbr
 obtain ⟨Ao,co,hv,hR⟩:=h.v
 have hc2 : W2.cell? ⟨ob,0,none⟩ = some (.slice Ao out.length co):=by rw [<- hW2]; exact (a0a ((World.putObj_heap_other (by have:=L.h7; have:=L.h6; have:=L.h5; have:=L.h4; have:=L.h3; omega)).trans hv) 0).trans rfl
 have hR2 : Hid ((Kd.int .u8).R 5 W2 B1 (λ _=>True) (.slice Ao out.length co) out):=Lib.hid (by rw [<- hW2]; exact R_put hR L.h7 _)
 have hcr : W2.cell? ⟨rb,0,none⟩ = some (.slice none 0 0):=by rw [<- hW2]; exact (a0a ((World.putObj_heap_other (by have:=L.h7; have:=L.h6; have:=L.h5; have:=L.h4; have:=L.h3; have:=L.h2; have:=L.h1; omega)).trans h.rc) 0).trans rfl
 have hce : W2.cell? ⟨eb,0,none⟩ = some (.int .i64 0):=by rw [<- hW2]; exact (a0a ((World.putObj_heap_other (by have:=L.h7; have:=L.h6; have:=L.h5; have:=L.h4; have:=L.h3; have:=L.h2; have:=L.h1; omega)).trans h.ec) 0).trans rfl
 have hfr : W2.frozen? ⟨rb,0,none⟩ = false:=by rw [<- hW2]; exact a0e ((World.putObj_heap_other (by have:=L.h7; have:=L.h6; have:=L.h5; have:=L.h4; have:=L.h3; have:=L.h2; have:=L.h1; omega)).trans h.rc) 0
 have hfe : W2.frozen? ⟨eb,0,none⟩ = false:=by rw [<- hW2]; exact a0e ((World.putObj_heap_other (by have:=L.h7; have:=L.h6; have:=L.h5; have:=L.h4; have:=L.h3; have:=L.h2; have:=L.h1; omega)).trans h.ec) 0
 have hre : rb ≠ eb:=by have:=L.h1; omega
 have hk0' : (k == 0) = false:=by simpa using hk0
 have hk16' : (k == 16) = false:=by simpa using hk16
 have HE:=Lib.hid (b8L L h hW2 hR2.out (Below.refl _ _ : SLater W2 W2) k)
 clear hbr hv hR h hW2 htm hR2 hk0 hk16
 unfold a4c pfTm
 gi_wp2
 refine ⟨W2,hbr2,?_⟩
 clear hbr2
 unfold a4d
 gi_wp2
 exact HE.out
set_option maxRecDepth 100000 in
set_option maxHeartbeats 2000000 in
theorem d0P (m : Nat) (L : Lay s rb eb ob fb lb D l B1) (h : Pf fn (pfTm A n c lim0 rb eb ob v9 v10 f undef undef) s rb eb ob fb lb D l B1 w r lim out W) {q : List Int} {Ay : Option Addr} {cy : Nat} (hy : BSl W Ay cy q) (hob : Bytes out) (hl : out.length <= 1000000000000) (hql : q.length <= 1000000) :
    RoundIn Fence.wide m Tryz.prog l fn (pfTm A n c lim0 rb eb ob v9 v10 f (.slice Ay q.length cy) (.int .i64 16)) a4c a4d W
     λ e W'=>e = .returned (.bool false) /\ PfX fn (pfTm A n c lim0 rb eb ob v9 v10 f undef undef) s rb eb D l B1 w (a0T q out) out W':=by
 obtain ⟨tm,htm⟩ : ∃ tm,tm = pfTm A n c lim0 rb eb ob v9 v10 f undef undef:=⟨_,rfl⟩
 rw [<- htm] at h ⊢
 refine roundIn_of_wpIn trivial ?_
 have hbr:=run_beginRound (P:=Tryz.prog) h.lp rfl
 obtain ⟨W2,hW2⟩ : ∃ W2,W.putObj l (.loop { pfRec fn tm D .ready none with state:=.busy }) = W2:=⟨_,rfl⟩
 have hbr2 : (Instr.beginRound l).run Tryz.prog W = .ok () W2:=by rw [<- hW2]; exact hbr
 obtain ⟨Ao,co,hv,hR⟩:=h.v
 have hv2 : W2.heap[ob]? = some (.cells #[.slice Ao out.length co] 22 (0,0)):=by rw [<- hW2]; exact (World.putObj_heap_other (by have:=L.h7; have:=L.h6; have:=L.h5; have:=L.h4; have:=L.h3; omega)).trans hv
 have hR2 : Hid ((Kd.int .u8).R 5 W2 B1 (λ _=>True) (.slice Ao out.length co) out):=Lib.hid (by rw [<- hW2]; exact R_put hR L.h7 _)
 have hr2 : W2.heap[rb]? = some (.cells #[.slice none 0 0] 22 (0,0)):=by rw [<- hW2]; exact (World.putObj_heap_other (by have:=L.h7; have:=L.h6; have:=L.h5; have:=L.h4; have:=L.h3; have:=L.h2; have:=L.h1; omega)).trans h.rc
 have he2 : W2.heap[eb]? = some (.cells #[.int .i64 0] 27 (0,0)):=by rw [<- hW2]; exact (World.putObj_heap_other (by have:=L.h7; have:=L.h6; have:=L.h5; have:=L.h4; have:=L.h3; have:=L.h2; have:=L.h1; omega)).trans h.ec
 have hy2 : BSl W2 Ay cy q:=⟨a5u hy.row (λ hn ad ha=>by rw [<- hW2]; exact World.putObj_heap_other (b8K hy.row h.lp hn ha)),hy.cap,hy.nil,hy.by'⟩
 have HBe : Hid (∀ W',SLater W2 W' -> Calls Tryz.prog 96 #[.slice Ay q.length cy,.slice Ao out.length co] W' (λ e w'=>e = .returned (.int .i64 (a0T q out)) /\ Below W'.heap.size W' w')):=Lib.hid (λ W' hW'=>
  d0J Ay Ao cy co q out W' (hy2.below hW') ((BSl.of hR2.out hob).below hW') hl hql)
 obtain ⟨k,hk⟩ : ∃ k,k = a0T q out:=⟨_,rfl⟩
 rw [<- hk] at HBe
 have HC : Hid (∀ W',SLater W2 W' -> (W'.cell? ⟨ob,0,none⟩ = some (.slice Ao out.length co) /\ W'.cell? ⟨rb,0,none⟩ = some (.slice none 0 0) /\ W'.cell? ⟨eb,0,none⟩ = some (.int .i64 0)) /\ (W'.frozen? ⟨rb,0,none⟩ = false /\ W'.frozen? ⟨eb,0,none⟩ = false)):=Lib.hid (λ W' hW'=>
  ⟨⟨(a0a (a0g hv2 hW') 0).trans rfl,(a0a (a0g hr2 hW') 0).trans rfl,(a0a (a0g he2 hW') 0).trans rfl⟩,a0e (a0g hr2 hW') 0,a0e (a0g he2 hW') 0⟩)
 have hre : rb ≠ eb:=by have:=L.h1; omega
 have HE : Hid (∀ W',SLater W2 W' -> _):=Lib.hid (λ W' (hW' : SLater W2 W')=>b8L L h hW2 hR2.out hW' k)
 have s0 : SLater W2 W2:=Below.refl _ _
 obtain ⟨⟨g1,g2,g3⟩,g4,g5⟩:=HC.out W2 s0
 rw [<- hk]
 clear hbr hv hR h hW2 htm hR2 hv2 hr2 he2 hy2 hy hob hk
 unfold a4c pfTm
 gi_wp2
 refine ⟨W2,hbr2,?_⟩
 clear hbr2
 unfold a4d
 gi_wp2
 gi_region_with (refine ⟨trivial,λ h=>(by cases h),(CallsIn.inRound l (callsIn_wide.2 (HBe.out _ (by first | assumption | exact SLater.drew ‹_›)))).mono ?_⟩; rintro e w' ⟨rfl,hb⟩; have sx:=(by first | exact SLater.keep ‹_› hb | exact SLater.keep (SLater.drew ‹_›) hb : SLater W2 w'); obtain ⟨⟨x1,x2,x3⟩,x4,x5⟩:=HC.out w' sx; clear hb)
 all_goals
  gi_wp2
  exact HE.out _ (by first | assumption | exact SLater.drew ‹_›)
end
end Go.Proofs.YtflfjpkmjnnodaaGreat
namespace Go.Proofs.YtflfjpkmjnnodaaGreat
open Go.RowKit Go.IntWalk Go.Proofs.YtflfjpkmjnnodaaGreatW.PrintWords
attribute [local go_sem] Oper.semAt_some
theorem b8M {one : Bool} {qs : List (List Int)} {ps : List Int} : ∀ (n i : Nat) (la x0 x1 : Int) (left : Nat) (out : List Int),(decGo one qs ps n i la x0 x1 left out).1 = 0 -> (decGo one qs ps n i la x0 x1 left out).2.length = out.length + n
 | 0,i,la,x0,x1,left,out=>by
  unfold decGo
  split
  · intro _; rfl
  · intro h; cases h
 | n + 1,i,la,x0,x1,left,out=>by
  unfold decGo
  dsimp only
  split
  · intro h; cases h
  · split
    · intro h; cases h
    · intro h
      rw [b8M n _ _ _ _ _ _ h,List.length_append]
      simp; omega
theorem b8N {lg : Int} {one : Bool} {qs : List (List Int)} {ps : List Int} {n : Int} (h : (decM lg one qs ps n).1 = 0) : (decM lg one qs ps n).2.length = n.toNat:=by
 unfold decM at h ⊢
 split at h
 · cases h
 · rename_i a1
   rw [if_neg a1]
   split at h
   · cases h
   · rename_i a2
     rw [if_neg a2]
     split at h
     · cases h
     · rename_i a3
       rw [if_neg a3,b8M _ _ _ _ _ _ _ h]
       simp
theorem d0Q {k n : Int} {b : List Int} (h : (pickD k b n).1 = 0) : (pickD k b n).2.length = n.toNat:=by
 unfold pickD at h ⊢
 split at h
 · rename_i a1; exact absurd h a1
 · rename_i a1
   rw [if_neg a1]
   split at h
   · rename_i a2
     rw [if_pos a2]
     unfold a3l at h ⊢
     split at h
     · cases h
     · rename_i b1
       rw [if_neg b1]
       split at h
       · cases h
       · rename_i b2
         rw [if_neg b2]
         dsimp only
         split
         · omega
         · rw [List.length_replicate]
   · rename_i a2
     rw [if_neg a2]
     split at h
     · rename_i a3
       rw [if_pos a3]
       unfold dec0M at h ⊢
       split at h
       · rename_i c1; exact absurd h c1
       · rename_i c1; rw [if_neg c1]; exact b8N h
     · rename_i a3
       rw [if_neg a3]
       unfold dec1M at h ⊢
       split at h
       · rename_i c1; exact absurd h c1
       · rename_i c1; rw [if_neg c1]; exact b8N h
theorem b1D {f : List Int} (hf : Bytes f) {log room : Int} {first : Bool} (h : (openM f log first room).1 = 0) : (openM f log first room).2.1.length <= 131072 /\ ((openM f log first room).2.1.length : Int) <= room /\ Bytes (openM f log first room).2.1:=by
 unfold openM at h ⊢
 split at h
 · rename_i a1; exact absurd h a1
 · rename_i a1
   rw [if_neg a1]
   split at h
   · cases h
   · rename_i a2
     rw [if_neg a2]
     split at h
     · cases h
     · rename_i a3
       rw [if_neg a3]
       split at h
       · rename_i a4; exact absurd h a4
       · rename_i a4
         rw [if_neg a4]
         have hb:=a8r hf (Classical.not_not.1 a1)
         have hp:=d0Q (Classical.not_not.1 a4)
         dsimp only
         exact ⟨by omega,by omega,b8F (λ x hx=>hf x (List.mem_of_mem_drop (List.mem_of_mem_take hx)))⟩
theorem d0R {n : Nat} {f : List Int} {log : Int} {first : Bool} {limit : Int} {out : List Int} {k : Int} {y : List Int} {u : Nat} {lt : Bool} (h : openM f log first limit = (k,y,u,lt)) (hk : k ≠ 0) : preG (n + 1) f log first limit out = (k,out):=by
 unfold preG; rw [h]; exact if_pos hk
theorem d0S {n : Nat} {f : List Int} {log : Int} {first : Bool} {limit : Int} {out y : List Int} {u : Nat} (h : openM f log first limit = (0,y,u,true)) : preG (n + 1) f log first limit out = (a0T (f.drop u) (out ++ y),out ++ y):=by
 unfold preG; rw [h]; dsimp only; rw [if_neg (λ h=>h rfl),if_pos rfl]
theorem d0T {n : Nat} {f : List Int} {log : Int} {first : Bool} {limit : Int} {out y : List Int} {u : Nat} (h : openM f log first limit = (0,y,u,false)) : preG (n + 1) f log first limit out = preG n (f.drop u) log false (limit - y.length) (out ++ y):=by
 conv=>lhs; unfold preG
 rw [h]; dsimp only; rw [if_neg (λ h=>h rfl),if_neg (by simp)]
section
variable {fn : FuncId} {A : Option Addr} {n c : Nat} {lim0 : Int} {s rb eb ob fb lb D l B1 : Nat} {v9 v10 fv : Value} {w : World} {r : List Int} {lim : Int} {out : List Int} {W W' : World} {tm : Array Value}
theorem Pf.later (L : Lay s rb eb ob fb lb D l B1) (h : Pf fn tm s rb eb ob fb lb D l B1 w r lim out W) (hb : Below W.heap.size W W') : Pf fn tm s rb eb ob fb lb D l B1 w r lim out W':=by
 obtain ⟨⟨Ar,cr,h1,h2⟩,h3,⟨Ao,co,h4,h5⟩,h6,h7,h8,h9,h10,h11⟩:=h
 have hs : s <= W.heap.size:=by have:=L.h0; have:=L.h1; have:=L.h2; have:=L.h3; have:=L.h4; have:=L.h5; have:=L.h6; have:=L.h7; omega
 exact ⟨⟨Ar,cr,a0g h1 hb,h2⟩,a0g h3 hb,⟨Ao,co,a0g h4 hb,Kd.R_below h5 hb⟩,a0g h6 hb,a0g h7 hb,a0g h8 hb,a0g h9 hb,h10.trans (hb.mono hs),Nat.le_trans h11 hb.size⟩
theorem Pf.setF (L : Lay s rb eb ob fb lb D l B1) (h : Pf fn tm s rb eb ob fb lb D l B1 w r lim out W) {r' : List Int} {Ad : Option Addr} {cd : Nat} (hb : BSl w Ad cd r') : Pf fn tm s rb eb ob fb lb D l B1 w r' lim out (W.setCell ⟨fb,0,none⟩ (.slice Ad r'.length cd)):=by
 obtain ⟨⟨Ar,cr,h1,h2⟩,h3,⟨Ao,co,h4,h5⟩,h6,h7,h8,h9,h10,h11⟩:=h
 have L0:=L.h0; have L1:=L.h1; have L2:=L.h2; have L3:=L.h3; have L4:=L.h4; have L5:=L.h5; have L6:=L.h6; have L7:=L.h7
 exact ⟨⟨Ad,cd,(a0k h1 0 _).trans rfl,hb⟩,a1A h3 (by omega),⟨Ao,co,a1A h4 (by omega),a6y h5 (by omega) _⟩,a1A h6 (by omega),a1A h7 (by omega),a1A h8 (by omega),a1A h9 (by omega),h10.setCell (p:=⟨fb,0,none⟩) (by show s <= fb; omega) _,by simpa [World.setCell] using h11⟩
theorem Pf.setL (L : Lay s rb eb ob fb lb D l B1) (h : Pf fn tm s rb eb ob fb lb D l B1 w r lim out W) (lim' : Int) : Pf fn tm s rb eb ob fb lb D l B1 w r lim' out (W.setCell ⟨lb,0,none⟩ (.int .i64 lim')):=by
 obtain ⟨⟨Ar,cr,h1,h2⟩,h3,⟨Ao,co,h4,h5⟩,h6,h7,h8,h9,h10,h11⟩:=h
 have L0:=L.h0; have L1:=L.h1; have L2:=L.h2; have L3:=L.h3; have L4:=L.h4; have L5:=L.h5; have L6:=L.h6; have L7:=L.h7
 exact ⟨⟨Ar,cr,a1A h1 (by omega),h2⟩,(a0k h3 0 _).trans rfl,⟨Ao,co,a1A h4 (by omega),a6y h5 (by omega) _⟩,a1A h6 (by omega),a1A h7 (by omega),a1A h8 (by omega),a1A h9 (by omega),h10.setCell (p:=⟨lb,0,none⟩) (by show s <= lb; omega) _,by simpa [World.setCell] using h11⟩
def d0U (fn : FuncId) (tm : Array Value) (s rb eb D l B1 : Nat) (w : World) (R : Int × List Int) (e : Ending) (W' : World) : Prop:=(∃ v,e = .returned v) /\ PfX fn tm s rb eb D l B1 w R.1 R.2 W'
set_option maxRecDepth 100000 in
theorem a6z (W : World) (y e : Value) (h : W.heap[l]? = some (.loop (pfRec fn (pfTm A n c lim0 rb eb ob v9 v10 fv undef undef) D .ready none))) :
    (Instr.yield l #[y,e]).run Tryz.prog W = .ok (.round l fn (pfTm A n c lim0 rb eb ob v9 v10 fv y e) a4c a4d) W:=by
 simpa [pfRec,pfTm] using run_yield (P:=Tryz.prog) (args:=#[y,e]) h rfl
set_option maxRecDepth 100000 in
set_option maxHeartbeats 4000000 in
theorem d0V (m : Nat) (L : Lay s rb eb ob fb lb D l B1) (hs : s = w.heap.size) {f : List Int} {limit : Int} (h : Pf fn (pfTm A n c lim0 rb eb ob v9 v10 fv undef undef) s rb eb ob fb lb D l B1 w f limit [] W) (hl : f.length <= 1000000) (hL : limit < 4611686018427387904) :
    CallsIn Fence.wide m Tryz.prog 139 #[.func (.yield l) #[] #[],.pointer (some ⟨fb,0,none⟩),.pointer (some ⟨lb,0,none⟩)] W (d0U fn (pfTm A n c lim0 rb eb ob v9 v10 fv undef undef) s rb eb D l B1 w (a0o f limit)):=by
 obtain ⟨Af,cf,hfc,hbs⟩:=h.fc
 have hbsW:=hbs.below (by rw [<- hs]; exact h.on)
 have HHd:=Lib.hid (b8C Af cf f W hbsW hl)
 have hcf : W.cell? ⟨fb,0,none⟩ = some (.slice Af f.length cf):=(a0a hfc 0).trans rfl
 have HP:=Lib.hid h
 have HL:=Lib.hid L
 obtain ⟨tm,htm⟩ : ∃ tm,tm = pfTm A n c lim0 rb eb ob v9 v10 fv undef undef:=⟨_,rfl⟩
 have hbf:=hbs.by'
 by_cases hn : limit < 0
 · have HR : Hid (a0o f limit = (1,[])):=Lib.hid (by unfold a0o; rw [if_pos hn])
   obtain ⟨lg,hlg⟩ : ∃ k,k = a1I f:=⟨_,rfl⟩
   obtain ⟨hm,hhm⟩ : ∃ k,k = headM f:=⟨_,rfl⟩
   rw [<- hlg,<- hhm] at HHd
   clear h L hfc hbs hbsW htm hlg hhm
   refine callsIn_of_wp Tryz.func139 rfl trivial ?_ rfl
   simp only [Tryz.ntmps139,List.size_toArray,List.length_cons,List.length_nil,Nat.reduceAdd,Nat.reduceSub,Array.replicate_succ,Array.replicate_zero,List.push_toArray,List.append_toArray,List.nil_append,List.cons_append]
   gi_wp2
   refine ⟨trivial,λ h=>(by cases h),(callsIn_wide.2 HHd.out).mono ?_⟩
   rintro e w1 ⟨rfl,hb1⟩
   have HP1:=Lib.hid (HP.out.later HL.out hb1)
   have hcl : w1.cell? ⟨lb,0,none⟩ = some (.int .i64 limit):=(a0a HP1.out.lc 0).trans rfl
   have hy:=a6z w1 (.slice none 0 0) (.int .i64 1) HP1.out.lp
   clear hb1
   gi_wp2
   refine ⟨λ h=>(by cases h),(b1C (m - 1) HL.out HP1.out (.slice none 0 0) 1 (by decide) (by decide)).mono ?_⟩
   rintro e w2 ⟨rfl,hX⟩
   have HX:=Lib.hid hX
   clear hX hy
   gi_wp2
   go_end0
   rw [HR.out]
   exact ⟨⟨_,rfl⟩,HX.out⟩
 · by_cases hh : headM f = 0
   · have h8:=b1B hh
     obtain ⟨hlg,-,-⟩:=b1A hh hbf
     obtain ⟨lg,hlg0⟩ : ∃ l,l = a1I f:=⟨_,rfl⟩
     have HR : Hid (a0o f limit = preG (f.length + 1) (f.drop 8) lg true limit []):=Lib.hid (by
      unfold a0o
      rw [if_neg hn,if_neg (λ h=>h hh),hlg0,hlg])
     rw [hh,<- hlg0] at HHd
     have hnI : ¬ limit < 0:=hn
     have hsf:=a2c Af f.length cf 8 h8
     have HDr:=Lib.hid (hbs.from_ (k:=8) h8)
     obtain ⟨Ad,hAd⟩ : ∃ Ad,Ad = (if cf = 8 then Af else Af.map (·.add (8 * 1))):=⟨_,rfl⟩
     rw [<- hAd] at HDr hsf
     obtain ⟨r0,hr0⟩ : ∃ r,r = f.drop 8:=⟨_,rfl⟩
     have hr0l : f.length - 8 = r0.length:=by rw [hr0,List.length_drop]
     rw [<- hr0] at HDr HR
     rw [hr0l] at hsf
     have hsf : ∀ W : World,(Instr.slice 22 (.slice Af f.length cf) (some (.int .i64 8)) none none).run Tryz.prog W = .ok (.slice Ad r0.length (cf - 8)) W:=hsf
     have hc8 : (8 : Int) <= (cf : Int):=by have:=hbs.cap; omega
     have h8I : (8 : Int) <= (f.length : Int):=by omega
     obtain ⟨PR,hPR⟩ : ∃ S,S = a0o f limit:=⟨_,rfl⟩
     rw [<- hPR] at HR ⊢
     have HN:=Lib.hid (show r0.length < f.length + 1 /\ r0.length <= 1000000 by omega)
     have hne1 : fb ≠ lb:=by have:=L.h4; omega
     have hne2 : lb ≠ fb:=by have:=L.h4; omega
     clear h L hfc hbs hbsW htm hh hlg hlg0 hAd hr0 hPR hr0l hn h8 hbf
     refine callsIn_of_wp Tryz.func139 rfl trivial ?_ rfl
     simp only [Tryz.ntmps139,List.size_toArray,List.length_cons,List.length_nil,Nat.reduceAdd,Nat.reduceSub,Array.replicate_succ,Array.replicate_zero,List.push_toArray,List.append_toArray,List.nil_append,List.cons_append]
     gi_wp2
     refine ⟨trivial,λ h=>(by cases h),(callsIn_wide.2 HHd.out).mono ?_⟩
     rintro e w1 ⟨rfl,hb1⟩
     have HP1:=Lib.hid (HP.out.later HL.out hb1)
     have hcl : w1.cell? ⟨lb,0,none⟩ = some (.int .i64 limit):=(a0a HP1.out.lc 0).trans rfl
     have hcf1 : w1.cell? ⟨fb,0,none⟩ = some (.slice Af f.length cf):=a0r hb1 hcf
     have hff1 : w1.frozen? ⟨fb,0,none⟩ = false:=by obtain ⟨_,_,h,_⟩:=HP1.out.fc; exact a0e h 0
     have HP2:=Lib.hid (HP1.out.setF HL.out HDr.out)
     clear hb1
     gi_wp2
     gi_loopw [6,7,8,9,10] (λ bv _ _ _ _ wr=>∃ (n' : Nat) (r : List Int) (lim : Int) (out : List Int) (fb' : Bool),bv = .bool fb' /\ Hid (preG n' r lg fb' lim out = PR /\ r.length < n' /\ Pf fn (pfTm A n c lim0 rb eb ob v9 v10 fv undef undef) s rb eb ob fb lb D l B1 w r lim out wr /\ Bytes out /\ out.length + 131072 * r.length <= 131072000000 /\ 0 <= lim /\ lim <= limit /\ r.length <= 1000000)) (λ _ _ _ _ _ wr=>slN ((wr.cell? ⟨fb,0,none⟩).getD undef))
     case atStart=>exact ⟨f.length + 1,r0,limit,[],true,rfl,Lib.hid ⟨HR.out.symm,HN.out.1,HP2.out,(λ x h=>by cases h),by have:=HN.out.2; simp; omega,by omega,Int.le_refl _,HN.out.2⟩⟩
     case round=>
      obtain ⟨n',r,lim,out,fb',rfl,H⟩:=hrel
      obtain ⟨n',rfl⟩ : ∃ m,n' = m + 1:=⟨n' - 1,by have:=H.out.2.1; omega⟩
      obtain ⟨Ar,cr,hrc,hbr⟩:=H.out.2.2.1.fc
      have hcr : wr.cell? ⟨fb,0,none⟩ = some (.slice Ar r.length cr):=(a0a hrc 0).trans rfl
      have hcl2 : wr.cell? ⟨lb,0,none⟩ = some (.int .i64 lim):=(a0a H.out.2.2.1.lc 0).trans rfl
      have hbw:=hbr.below (by rw [<- hs]; exact H.out.2.2.1.on)
      have HOp:=Lib.hid (b1z Ar cr r lg fb' lim wr hbw.row hbw.by' H.out.2.2.2.2.2.2.2 hbw.cap)
      have HUse:=Lib.hid (λ h=>a3X (f:=r) (log:=lg) (room:=lim) (first:=fb') h)
      have HLen:=Lib.hid (λ h=>b1D hbw.by' (log:=lg) (room:=lim) (first:=fb') h)
      have h16:=d0u (f:=r) (log:=lg) (room:=lim) (first:=fb')
      obtain ⟨k,y,u,lt,hO⟩ : ∃ k y u lt,openM r lg fb' lim = (k,y,u,lt):=⟨_,_,_,_,rfl⟩
      have HO:=Lib.hid hO
      rw [hO] at HOp HUse HLen h16
      dsimp only at HUse HLen h16
      unfold OpenPost at HOp
      dsimp only at HOp
      have HBr:=Lib.hid hbr
      clear hO hbw hbr hrc
      gi_wp2
      refine ⟨trivial,λ h=>(by cases h),(callsIn_wide.2 HOp.out).mono ?_⟩
      rintro e w2 ⟨Ay,cy,rfl,hRy,hb2⟩
      have HPw:=Lib.hid (H.out.2.2.1.later HL.out hb2)
      by_cases hk : k = 0
      · subst hk
        have hU:=HUse.out rfl
        have hLe:=HLen.out rfl
        have hy:=a6z w2 (.slice Ay y.length cy) (.int .i64 0) HPw.out.lp
        have HRd:=Lib.hid (d0O (cy:=cy) (m - 1) HL.out HPw.out (Kd.R_reads' hRy).2.2 (by have:=H.out.2.2.2.2.1; have:=hLe.1; omega))
        have HUL:=Lib.hid (And.intro hU hLe)
        have hcr2 : w2.cell? ⟨fb,0,none⟩ = some (.slice Ar r.length cr):=a0r hb2 hcr
        clear hRy hb2 h16
        gi_wp2
        refine ⟨λ h=>(by cases h),HRd.out.mono ?_⟩
        rintro e w3 ⟨rfl,hP3⟩
        obtain ⟨A3,c3,hf3,hb3⟩:=hP3.fc
        have hc3 : w3.cell? ⟨fb,0,none⟩ = some (.slice A3 r.length c3):=(a0a hf3 0).trans rfl
        have hfz3 : w3.frozen? ⟨fb,0,none⟩ = false:=a0e hf3 0
        have hcl3 : w3.cell? ⟨lb,0,none⟩ = some (.int .i64 lim):=(a0a hP3.lc 0).trans rfl
        have hfl3 : w3.frozen? ⟨lb,0,none⟩ = false:=a0e hP3.lc 0
        have hsf3:=a2c A3 r.length c3 u HUL.out.1.2
        have HDr3:=Lib.hid (hb3.from_ (k:=u) HUL.out.1.2)
        obtain ⟨Ad3,hAd3⟩ : ∃ Ad,Ad = (if c3 = u then A3 else A3.map (·.add (u * 1))):=⟨_,rfl⟩
        rw [<- hAd3] at HDr3 hsf3
        obtain ⟨r3,hr3⟩ : ∃ r3,r3 = r.drop u:=⟨_,rfl⟩
        have hr3l : r.length - u = r3.length:=by rw [hr3,List.length_drop]
        have HR3:=Lib.hid hr3
        rw [<- hr3] at HDr3
        rw [hr3l] at hsf3
        have hcu : (u : Int) <= (c3 : Int):=by have:=hb3.cap; have:=HUL.out.1.2; omega
        have hru : (u : Int) <= (r.length : Int):=by have:=HUL.out.1.2; omega
        have hu0 : (0 : Int) <= (u : Int):=by omega
        have hwl : IntKind.i64.wrap (lim - (y.length : Int)) = lim - (y.length : Int):=i64_in _ (by have:=HUL.out.2; have:=H.out.2.2.2.2.2; omega)
        have HP3:=Lib.hid hP3
        have HP4:=Lib.hid ((hP3.setF HL.out HDr3.out).setL HL.out (lim - (y.length : Int)))
        have HLt:=Lib.hid (show r3.length + 11 <= r.length by have:=HUL.out.1; omega)
        have hf4 : ((w3.setCell ⟨fb,0,none⟩ (.slice Ad3 r3.length (c3 - u))).setCell ⟨lb,0,none⟩ (.int .i64 (lim - (y.length : Int)))).heap[fb]? = some (.cells #[.slice Ad3 r3.length (c3 - u)] 22 (0,0)):=a1A ((a0k hf3 0 _).trans rfl) hne1
        have hc4 : ((w3.setCell ⟨fb,0,none⟩ (.slice Ad3 r3.length (c3 - u))).setCell ⟨lb,0,none⟩ (.int .i64 (lim - (y.length : Int)))).cell? ⟨fb,0,none⟩ = some (.slice Ad3 r3.length (c3 - u)):=(a0a hf4 0).trans rfl
        clear hP3 hf3 hf4 hb3 hAd3 hr3 hr3l
        cases lt with
        | true=>
         have hy4:=a6z _ (.slice Ad3 r3.length (c3 - u)) (.int .i64 16) HP4.out.lp
         have HSt:=Lib.hid (d0P (m - 1) HL.out HP4.out (q:=r3) (Ay:=Ad3) (cy:=c3 - u) (HDr3.out.below (by rw [<- hs]; exact HP4.out.on)) (λ x hx=>(List.mem_append.1 hx).elim (H.out.2.2.2.1 x) (HUL.out.2.2.2 x)) (by rw [List.length_append]; have:=HUL.out.2.1; have:=H.out.2.2.2.2.1; omega) (by have:=HLt.out; have:=H.out.2.2.2.2.2.2.2; omega))
         gi_wp2
         refine ⟨λ h=>(by cases h),HSt.out.mono ?_⟩
         rintro e w5 ⟨rfl,hX⟩
         have HX:=Lib.hid hX
         clear hX hy4
         gi_wp2
         go_end0
         have h1:=H.out.1
         rw [d0S HO.out,<- HR3.out] at h1
         rw [<- h1]
         exact ⟨⟨_,rfl⟩,HX.out⟩
        | false=>
         gi_wp2
         go_roundw
         case rel=>exact ⟨n',r3,lim - (y.length : Int),out ++ y,false,rfl,Lib.hid ⟨by have h1:=H.out.1; rw [d0T HO.out,<- HR3.out] at h1; exact h1,by have:=H.out.2.1; have:=HLt.out; omega,HP4.out,(λ x hx=>(List.mem_append.1 hx).elim (H.out.2.2.2.1 x) (HUL.out.2.2.2 x)),by rw [List.length_append]; have:=HUL.out.2.1; have:=H.out.2.2.2.2.1; have:=HLt.out; omega,by have:=HUL.out.2; omega,by have:=H.out.2.2.2.2.2; omega,by have:=HLt.out; have:=H.out.2.2.2.2.2.2.2; omega⟩⟩
         case measure=>rw [hc4,hcr]; have:=HLt.out; simp [slN]; omega
      · have hk2 : (k != 0) = true:=by simpa using hk
        have hy:=a6z w2 (.slice Ay y.length cy) (.int .i64 k) HPw.out.lp
        have HSt:=Lib.hid (b1C (m - 1) HL.out HPw.out (.slice Ay y.length cy) k hk h16)
        have HE:=Lib.hid (d0R (n:=n') (out:=out) HO.out hk)
        clear hRy hb2 h16 hk
        gi_wp2
        refine ⟨λ h=>(by cases h),HSt.out.mono ?_⟩
        rintro e w3 ⟨rfl,hX⟩
        have HX:=Lib.hid hX
        clear hX hy
        gi_wp2
        go_end0
        have h1:=H.out.1
        rw [HE.out] at h1
        rw [<- h1]
        exact ⟨⟨_,rfl⟩,HX.out⟩
   · have HR : Hid (a0o f limit = (headM f,[])):=Lib.hid (by unfold a0o; rw [if_neg hn,if_pos hh])
     obtain ⟨lg,hlg⟩ : ∃ k,k = a1I f:=⟨_,rfl⟩
     have hm16:=d0w (f:=f)
     obtain ⟨k,hk⟩ : ∃ k,k = headM f:=⟨_,rfl⟩
     rw [<- hlg,<- hk] at HHd
     rw [<- hk] at hh hm16 HR
     have hk2 : (k != 0) = true:=by simpa using hh
     clear h L hfc hbs hbsW htm hlg hk
     refine callsIn_of_wp Tryz.func139 rfl trivial ?_ rfl
     simp only [Tryz.ntmps139,List.size_toArray,List.length_cons,List.length_nil,Nat.reduceAdd,Nat.reduceSub,Array.replicate_succ,Array.replicate_zero,List.push_toArray,List.append_toArray,List.nil_append,List.cons_append]
     gi_wp2
     refine ⟨trivial,λ h=>(by cases h),(callsIn_wide.2 HHd.out).mono ?_⟩
     rintro e w1 ⟨rfl,hb1⟩
     have HP1:=Lib.hid (HP.out.later HL.out hb1)
     have hcl : w1.cell? ⟨lb,0,none⟩ = some (.int .i64 limit):=(a0a HP1.out.lc 0).trans rfl
     have hy:=a6z w1 (.slice none 0 0) (.int .i64 k) HP1.out.lp
     have HSt:=Lib.hid (b1C (m - 1) HL.out HP1.out (.slice none 0 0) k hh hm16)
     clear hb1 hh hm16
     gi_wp2
     refine ⟨λ h=>(by cases h),HSt.out.mono ?_⟩
     rintro e w2 ⟨rfl,hX⟩
     have HX:=Lib.hid hX
     clear hX hy
     gi_wp2
     go_end0
     rw [HR.out]
     exact ⟨⟨_,rfl⟩,HX.out⟩
end
end Go.Proofs.YtflfjpkmjnnodaaGreat
namespace Go.Proofs.YtflfjpkmjnnodaaGreat
open Go.RowKit
theorem b1E {limit : Int} {s : PSt} (h : ¬ (stepP limit s).1 = true) : (stepP limit s).2.2 = s:=by
 unfold stepP at h ⊢
 by_cases a0 : s.ph = 0
 · rw [if_pos a0] at h ⊢
   by_cases a1 : headM (s.rest.take 8) ≠ 0
   · rw [if_pos a1]
   · rw [if_neg a1] at h; exact absurd rfl h
 rw [if_neg a0] at h ⊢
 by_cases a1 : s.ph = 1
 · rw [if_pos a1] at h ⊢
   by_cases a2 : (openM s.rest s.log s.first (limit - s.x.length)).1 ≠ 0
   · rw [if_pos a2]
   · rw [if_neg a2] at h; exact absurd rfl h
 · rw [if_neg a1]
theorem b1F {limit : Int} {s : PSt} (n : Nat) (h : (stepP limit s).1 = true) : runP limit (n + 1) s = runP limit n (stepP limit s).2.2:=by rw [runP,if_pos h]
theorem a8s {limit : Int} {s : PSt} (n : Nat) (h : ¬ (stepP limit s).1 = true) : runP limit (n + 1) s = ((stepP limit s).2.1,s):=by rw [runP,if_neg h,b1E h]
theorem b8O (limit : Int) : ∀ (n : Nat) (s : PSt),leftP s < n -> ¬ (stepP limit (runP limit n s).2).1 = true /\ (stepP limit (runP limit n s).2).2.1 = (runP limit n s).1
 | 0,_,h=>by omega
 | n + 1,s,h=>by
  by_cases a : (stepP limit s).1 = true
  · rw [b1F n a]
    exact b8O limit n _ (by have:=a4C a; omega)
  · rw [a8s n a]
    exact ⟨a,rfl⟩
def pullR (limit : Int) (f : List Int) : Int × PSt:=runP limit (f.length + 3) (addP start0 f)
theorem a8t (f : List Int) : leftP (addP start0 f) = f.length + 2:=by
 show ([] ++ f).length + 2 = _
 rw [List.nil_append]
theorem a2o {limit : Int} (hL : 0 <= limit) (f : List Int) : a0o f limit = ((pullR limit f).1,(pullR limit f).2.x):=c8z hL f (by omega)
theorem b8P (f b : List Int) : addP (addP start0 f) b = addP start0 (f ++ b):=by
 show ({ ph:=0,rest:=([] ++ f) ++ b,log:=0,first:=true,x:=[] } : PSt) = { ph:=0,rest:=[] ++ (f ++ b),log:=0,first:=true,x:=[] }
 rw [List.append_assoc]
theorem b1G (limit : Int) (f b : List Int) {m : Nat} (hm : leftP (addP (pullR limit f).2 b) < m) : pullR limit (f ++ b) = runP limit m (addP (pullR limit f).2 b):=by
 have h:=b7B limit b (f.length + 3) ((f ++ b).length + 3) m (addP start0 f) (by rw [a8t]; omega) (by rw [b8P,a8t]; omega) hm
 rw [b8P] at h
 exact h
theorem b8Q {limit : Int} {f : List Int} (b : List Int) (h3 : (pullR limit f).1 ≠ 3) (h0 : (pullR limit f).1 ≠ 0) : (pullR limit (f ++ b)).1 = (pullR limit f).1 /\ (pullR limit (f ++ b)).2.x = (pullR limit f).2.x:=by
 rw [b1G limit f b (m:=leftP (addP (pullR limit f).2 b) + 1) (by omega)]
 obtain ⟨h1,h2⟩:=b8O limit (f.length + 3) (addP start0 f) (by rw [a8t]; omega)
 have hs:=c8A (limit:=limit) (s:=(pullR limit f).2) b (by simpa [pullR] using h1) (by rw [show (stepP limit (pullR limit f).2).2.1 = (pullR limit f).1 from h2]; exact h3) (by rw [show (stepP limit (pullR limit f).2).2.1 = (pullR limit f).1 from h2]; exact h0)
 obtain ⟨g1,g2,g3⟩:=hs
 rw [a8s _ (by rw [g1]; decide),g2]
 exact ⟨h2,rfl⟩
theorem d0W (limit : Int) : pullR limit [] = (3,start0):=rfl
theorem b8R (limit : Int) (s : PSt) (hb : Bytes s.rest) : ∃ y,(stepP limit s).2.2.x = s.x ++ y /\ Bytes y /\ Bytes (stepP limit s).2.2.rest /\ y.length + 131072 * (stepP limit s).2.2.rest.length <= 131072 * s.rest.length /\ (stepP limit s).2.2.rest.length <= s.rest.length /\ y.length <= 131072 /\ ((s.x.length : Int) <= limit -> ((stepP limit s).2.2.x.length : Int) <= limit):=by
 unfold stepP
 by_cases a0 : s.ph = 0
 · rw [if_pos a0]
   by_cases a1 : headM (s.rest.take 8) ≠ 0
   · rw [if_pos a1]
     exact ⟨[],(List.append_nil _).symm,λ x h=>(by cases h),hb,by simp,Nat.le_refl _,by simp,λ h=>h⟩
   · rw [if_neg a1]
     refine ⟨[],(List.append_nil _).symm,λ x h=>(by cases h),λ x h=>hb x (List.mem_of_mem_drop h),?_,?_,by simp,λ h=>h⟩
     · dsimp only; rw [List.length_drop,List.length_nil]; omega
     · dsimp only; rw [List.length_drop]; omega
 rw [if_neg a0]
 by_cases a1 : s.ph = 1
 · rw [if_pos a1]
   by_cases a2 : (openM s.rest s.log s.first (limit - s.x.length)).1 ≠ 0
   · rw [if_pos a2]
     exact ⟨[],(List.append_nil _).symm,λ x h=>(by cases h),hb,by simp,Nat.le_refl _,by simp,λ h=>h⟩
   · rw [if_neg a2]
     have hu:=a3X (Classical.not_not.1 a2)
     obtain ⟨h1,h2,h3⟩:=b1D hb (Classical.not_not.1 a2)
     refine ⟨_,rfl,h3,λ x h=>hb x (List.mem_of_mem_drop h),?_,?_,h1,λ h=>?_⟩
     · dsimp only; rw [List.length_drop]; omega
     · dsimp only; rw [List.length_drop]; omega
     · dsimp only; rw [List.length_append]; omega
 · rw [if_neg a1]
   exact ⟨[],(List.append_nil _).symm,λ x h=>(by cases h),hb,by simp,Nat.le_refl _,by simp,λ h=>h⟩
theorem b1H (limit : Int) : ∀ (n : Nat) (s : PSt),Bytes s.rest -> leftP s < n -> ∃ y,(runP limit n s).2.x = s.x ++ y /\ Bytes y /\ Bytes (runP limit n s).2.rest /\ y.length + 131072 * (runP limit n s).2.rest.length <= 131072 * s.rest.length /\ (runP limit n s).2.rest.length <= s.rest.length /\ ((s.x.length : Int) <= limit -> ((runP limit n s).2.x.length : Int) <= limit)
 | 0,_,_,h=>by omega
 | n + 1,s,hb,h=>by
  by_cases a : (stepP limit s).1 = true
  · rw [b1F n a]
    obtain ⟨y,e1,e2,e3,e4,e5,-,e6⟩:=b8R limit s hb
    obtain ⟨z,g1,g2,g3,g4,g5,g6⟩:=b1H limit n _ e3 (by have:=a4C a; omega)
    exact ⟨y ++ z,by rw [g1,e1,List.append_assoc],λ x h=>(List.mem_append.1 h).elim (e2 x) (g2 x),g3,by rw [List.length_append]; omega,by omega,λ h=>g6 (e6 h)⟩
  · rw [a8s n a]
    exact ⟨[],(List.append_nil _).symm,λ x h=>(by cases h),hb,by simp,Nat.le_refl _,λ h=>h⟩
theorem a5E (limit : Int) {f : List Int} (hf : Bytes f) : Bytes (pullR limit f).2.x /\ Bytes (pullR limit f).2.rest /\ (pullR limit f).2.x.length + 131072 * (pullR limit f).2.rest.length <= 131072 * f.length /\ (0 <= limit -> ((pullR limit f).2.x.length : Int) <= limit):=by
 have e1 : (addP start0 f).rest = f:=List.nil_append f
 obtain ⟨y,h1,h2,h3,h4,-,h6⟩:=b1H limit (f.length + 3) (addP start0 f) (by rw [e1]; exact hf) (by rw [a8t]; omega)
 rw [e1] at h4
 have h1 : (pullR limit f).2.x = y:=h1
 refine ⟨by rw [h1]; exact h2,h3,by rw [h1]; exact h4,λ h=>h6 h⟩
theorem d0X {limit : Int} (hL : 0 <= limit) (r : List Int) : (a0o (r.take 8) limit).1 = (if headM (r.take 8) ≠ 0 then headM (r.take 8) else 3):=by
 unfold a0o
 rw [if_neg (by omega)]
 by_cases a : headM (r.take 8) ≠ 0
 · rw [if_pos a,if_pos a]
 · rw [if_neg a,if_neg a]
   have e : (r.take 8).drop 8 = []:=List.drop_of_length_le (by rw [List.length_take]; omega)
   rw [e]
   have ho : (openM [] ((r.take 8).getD 5 0) true limit).1 ≠ 0:=λ h=>by have:=a3X h; simp at this; omega
   have hs : (openM [] ((r.take 8).getD 5 0) true limit).1 = 3:=by
    have hl:=b1a (Classical.not_not.1 a)
    obtain ⟨k,hk⟩ : ∃ k,k = (r.take 8).getD 5 0:=⟨_,rfl⟩
    have hlog : 10 <= k /\ k <= 17:=by
     have h0:=Classical.not_not.1 a
     unfold headM at h0
     have h5 : headE 5 ((r.take 8).getD 5 0) = 0:=by
      have g : ∀ (d i : Nat),headG (r.take 8) d i = 0 -> ∀ j,i <= j -> j < i + d -> headE j ((r.take 8).getD j 0) = 0:=by
       intro d
       induction d with
       | zero=>intro i _ j _ _; omega
       | succ d ih=>
        intro i h j h1 h2
        unfold headG at h
        split at h
        · cases h
        · split at h
          · rename_i hh; exact absurd h hh
          · rename_i hh
            by_cases e : j = i
            · rw [e]; exact Classical.not_not.1 hh
            · exact ih (i + 1) h j (by omega) (by omega)
      exact g 8 0 h0 5 (by omega) (by omega)
     rw [<- hk] at h5
     unfold headE at h5
     rw [if_neg (by omega),if_neg (by omega)] at h5
     by_cases b : 10 <= k /\ k <= 17
     · exact b
     · rw [if_pos ⟨rfl,b⟩] at h5; cases h5
    rw [<- hk]
    have hsc : scanM [] k true limit = (3,headZ):=by
     unfold scanM
     rw [if_neg (by omega),if_pos (by decide)]
    unfold openM
    rw [hsc]
    rfl
   unfold preG
   rw [if_pos ho,hs]
def errF (k : Int) : Int:=if k = 3 then 0 else k
end Go.Proofs.YtflfjpkmjnnodaaGreat
namespace Go.Proofs.YtflfjpkmjnnodaaGreat
open Go.RowKit Go.IntWalk Go.Proofs.YtflfjpkmjnnodaaGreatW.PrintWords
attribute [local go_sem] Oper.semAt_some
set_option maxRecDepth 100000 in
theorem d0Y (A : Option Addr) (n c : Nat) (lim : Int) (w : World) :
    Calls Tryz.prog 95 #[.slice A n c,.int .i64 lim] w λ e w'=>e = .returned (.func (.func 139) #[] #[.pointer (some ⟨w.heap.size,0,none⟩),.pointer (some ⟨w.heap.size + 1,0,none⟩)]) /\ w' = (w.alloc (.cells #[.slice A n c] 22)).alloc (.cells #[.int .i64 lim] 3):=by
 have hmf : ∀ (fn : Fn) (first cap : Array Value) (w : World),(Instr.makeFunc fn first cap).run Tryz.prog w = .ok (.func fn first cap) w:=λ _ _ _ _=>rfl
 go_enter Tryz.func95,Tryz.ntmps95
 go_wp2_with fail
 go_ret
 exact ⟨by simp,rfl⟩
theorem d0Z {w : World} {g : Nat} {v : Value} (h : w.heap[g]? = some (.cells #[v] 22 (0,0))) : (loadVar 22 ⟨g,0,none⟩).run Tryz.prog w = .ok v w:=by
 have hc : w.cell? ⟨g,0,none⟩ = some v:=(a0a h 0).trans rfl
 simp [go_sem,hc]
theorem pfEnd {w W : World} {L : List Int} {A : Option Addr} {c : Nat} {x : Int} {D B1 : Nat} {tmps : Array Value} (hD : w.heap.size + 1 < D) (hB : Below w.heap.size w W) (kr : W.heap[w.heap.size]? = some (.cells #[.slice A L.length c] 22 (0,0))) (ke : W.heap[w.heap.size + 1]? = some (.cells #[.int .i64 x] 27 (0,0)))
    (kd : W.heap[D]? = some (.deferred (some []))) (hR : (Kd.int .u8).R 5 W B1 (λ _=>True) (.slice A L.length c) L) (hDB : D < B1)
    (h2 : tmps.getD 4 undef = .pointer (some ⟨w.heap.size,0,none⟩)) (h3 : tmps.getD 5 undef = .pointer (some ⟨w.heap.size + 1,0,none⟩)) :
    LeavesInM Fence.wide 3 Tryz.prog Tryz.f45 tmps (Told x L w) [{ target:=.collected D,args:=#[] }] .returning W:=by
 refine ⟨by simp,.inl ⟨_,_,rfl,run_takeDeferred kd,?_⟩⟩
 refine ⟨_,b1e (fn:=Tryz.f45) (p:=4) (q:=5) (t:=22) (u:=27) rfl _ _ _ _ _ _ h2 h3 (d0Z ((World.putObj_heap_other (by omega)).trans kr)) (b1f ((World.putObj_heap_other (by omega)).trans ke)),?_⟩
 exact ⟨A,c,rfl,Kd.R_lower (R_put hR hDB _) (by omega),hB.putObj (by omega) _⟩
set_option maxRecDepth 100000 in
set_option maxHeartbeats 2000000 in
theorem b1I (A : Option Addr) (c : Nat) (f : List Int) (limit : Int) (w : World) (hf : BSl w A c f) (hl : f.length <= 1000000) (hL : limit < 4611686018427387904) :
    Calls Tryz.prog 45 #[.slice A f.length c,.int .i64 limit] w (Told (a0o f limit).1 (a0o f limit).2 w):=by
 refine (callsIn_wide (n:=3)).1 ?_
 refine callsIn_of_wp_marks Tryz.func45 rfl trivial ?_ rfl
 simp only [Tryz.ntmps45,List.size_toArray,List.length_cons,List.length_nil,Nat.reduceAdd,Nat.reduceSub,Array.replicate_succ,Array.replicate_zero,List.push_toArray,List.append_toArray,List.nil_append,List.cons_append]
 obtain ⟨W0,hW0⟩ : ∃ W0,W0 = ((w.alloc (.cells #[.slice none 0 0] 22)).alloc (.cells #[.int .i64 0] 27)).alloc (.cells #[.slice none 0 0] 22):=⟨_,rfl⟩
 have HX:=Lib.hid (And.intro hf hl)
 clear hf hl
 gi_wp2
 rw [<- hW0]
 have hs0 : W0.heap.size = w.heap.size + 1 + 1 + 1:=by rw [hW0]; simp
 have hB0 : Below w.heap.size w W0:=by rw [hW0]; exact (((Below.refl w.heap.size w).alloc (Nat.le_refl _) _).alloc (by simp) _).alloc (by simp; omega) _
 have kr0 : W0.heap[w.heap.size]? = some (.cells #[.slice none 0 0] 22 (0,0)):=by rw [hW0]; exact a0j (a0j (a0i _ _) _) _
 have ke0 : W0.heap[w.heap.size + 1]? = some (.cells #[.int .i64 0] 27 (0,0)):=by rw [hW0]; exact a0j (a2q _ _ _) _
 have ko0 : W0.heap[w.heap.size + 1 + 1]? = some (.cells #[.slice none 0 0] 22 (0,0)):=by
  have:=a0i ((w.alloc (.cells #[.slice none 0 0] 22)).alloc (.cells #[.int .i64 0] 27)) (.cells #[.slice none 0 0] 22)
  simp only [World.size_alloc] at this
  rw [hW0]; exact this
 have H0:=Lib.hid (And.intro hs0 (And.intro hB0 (And.intro kr0 (And.intro ke0 ko0))))
 clear hW0 hs0 hB0 kr0 ke0 ko0
 refine ⟨trivial,(callsIn_wide.2 (d0Y A f.length c limit W0)).mono ?_⟩
 rintro e w1 ⟨rfl,rfl⟩
 obtain ⟨Wb,hWb⟩ : ∃ Wb,Wb = (W0.alloc (.cells #[.slice A f.length c] 22)).alloc (.cells #[.int .i64 limit] 3):=⟨_,rfl⟩
 obtain ⟨pb,hpb⟩ : ∃ pb,pb = W0.heap.size:=⟨_,rfl⟩
 rw [<- hWb,<- hpb]
 have hsb : Wb.heap.size = pb + 1 + 1:=by rw [hWb,hpb]; simp
 have hps : pb = w.heap.size + 1 + 1 + 1:=by rw [hpb]; exact H0.out.1
 have hBb : Below w.heap.size w Wb:=by rw [hWb]; exact (H0.out.2.1.alloc (by have:=H0.out.1; omega) _).alloc (by have:=H0.out.1; simp; omega) _
 have kr : Wb.heap[w.heap.size]? = some (.cells #[.slice none 0 0] 22 (0,0)):=by rw [hWb]; exact a0j (a0j H0.out.2.2.1 _) _
 have ke : Wb.heap[w.heap.size + 1]? = some (.cells #[.int .i64 0] 27 (0,0)):=by rw [hWb]; exact a0j (a0j H0.out.2.2.2.1 _) _
 have ko : Wb.heap[w.heap.size + 1 + 1]? = some (.cells #[.slice none 0 0] 22 (0,0)):=by rw [hWb]; exact a0j (a0j H0.out.2.2.2.2 _) _
 have kf : Wb.heap[pb]? = some (.cells #[.slice A f.length c] 22 (0,0)):=by rw [hWb,hpb]; exact a0j (a0i W0 _) _
 have kl : Wb.heap[pb + 1]? = some (.cells #[.int .i64 limit] 3 (0,0)):=by rw [hWb,hpb]; exact a2q _ _ _
 have HWb:=Lib.hid (And.intro hsb (And.intro hps (And.intro hBb (And.intro kr (And.intro ke (And.intro ko (And.intro kf kl)))))))
 clear hWb hpb hsb hps hBb kr ke ko kf kl
 gi_wp2
 refine wpIn_rangeFunc ?_
 intro fn hfn
 obtain ⟨hsb,hps,hBb,kr,ke,ko,kf,kl⟩:=HWb.out
 obtain ⟨fv,hfv⟩ : ∃ fv,fv = Value.func (.func 139) #[] #[.pointer (some ⟨pb,0,none⟩),.pointer (some ⟨pb + 1,0,none⟩)]:=⟨_,rfl⟩
 obtain ⟨tm,htm⟩ : ∃ tm,tm = pfTm A f.length c limit w.heap.size (w.heap.size + 1) (w.heap.size + 1 + 1) (.slice A f.length c) (.int .i64 limit) fv undef undef:=⟨_,rfl⟩
 obtain ⟨W1,hW1⟩ : ∃ W1,(Wb.alloc (.deferred (some []))).alloc (.loop (pfRec fn tm Wb.heap.size .ready none)) = W1:=⟨_,rfl⟩
 have hs1 : W1.heap.size = Wb.heap.size + 1 + 1:=by rw [<- hW1]; simp
 have hold : ∀ k,k < Wb.heap.size -> W1.heap[k]? = Wb.heap[k]?:=λ k hk=>by
  rw [<- hW1]; exact (Below.heap_alloc _ _ k (by simp; omega)).trans (Below.heap_alloc _ _ k hk)
 have klp : W1.heap[Wb.heap.size + 1]? = some (.loop (pfRec fn tm Wb.heap.size .ready none)):=by
  rw [<- hW1]; have:=World.alloc_heap_new (Wb.alloc (.deferred (some []))) (.loop (pfRec fn tm Wb.heap.size .ready none)); rwa [World.size_alloc] at this
 have kd : W1.heap[Wb.heap.size]? = some (.deferred (some [])):=by
  rw [<- hW1]; exact (Below.heap_alloc _ _ _ (by simp)).trans (World.alloc_heap_new Wb _)
 have hB1 : Below w.heap.size w W1:=by rw [<- hW1]; exact (hBb.alloc (by omega) _).alloc (by simp; omega) _
 have hLay : Lay w.heap.size w.heap.size (w.heap.size + 1) (w.heap.size + 1 + 1) pb (pb + 1) Wb.heap.size (Wb.heap.size + 1) W1.heap.size:=⟨by omega,by omega,by omega,by omega,by omega,by omega,by omega,by omega⟩
 have hPf : Pf fn tm w.heap.size w.heap.size (w.heap.size + 1) (w.heap.size + 1 + 1) pb (pb + 1) Wb.heap.size (Wb.heap.size + 1) W1.heap.size w f limit [] W1:=
  ⟨⟨A,c,(hold _ (by omega)).trans kf,HX.out.1⟩,(hold _ (by omega)).trans kl,⟨none,0,(hold _ (by omega)).trans ko,Kd.R_nil _ _ _ _ _⟩,(hold _ (by omega)).trans kr,(hold _ (by omega)).trans ke,klp,kd,hB1,Nat.le_refl _⟩
 rw [htm] at hPf
 have hIt:=d0V 2 hLay rfl hPf HX.out.2 hL
 rw [<- htm] at hIt
 have HIt:=Lib.hid hIt
 have HK:=Lib.hid (And.intro hs1 (And.intro hsb hps))
 clear hIt hPf hLay kr ke ko kf kl klp kd hBb hold
 refine ⟨Wb.heap.size + 1,[{ target:=.collected Wb.heap.size,args:=#[] }],W1,{ target:=.fn (.func 139) #[.pointer (some ⟨pb,0,none⟩),.pointer (some ⟨pb + 1,0,none⟩)],args:=#[.func (.yield (Wb.heap.size + 1)) #[] #[]] },W1,139,
  #[.func (.yield (Wb.heap.size + 1)) #[] #[],.pointer (some ⟨pb,0,none⟩),.pointer (some ⟨pb + 1,0,none⟩)],W1,?_,?_,?_,?_,λ h=>(by cases h),?_⟩
 · rw [<- hW1,htm,hfv]; exact run_enterLoop_outer _ _ _ _ _
 · simp [resolve,go_sem]
 · intro f' hf'; exact trivial
 · simp [invoke,go_sem]
 · clear hW1 htm hfv
   refine HIt.out.mono ?_
   rintro e W2 ⟨⟨v,rfl⟩,hX⟩
   obtain ⟨hs1,hsb,hps⟩:=HK.out
   have hend:=run_endLoop (P:=Tryz.prog) hX.lp (by simp [pfRec])
   have hend2 : (Instr.endLoop (Wb.heap.size + 1)).run Tryz.prog W2 = .ok (some .ret) (W2.putObj (Wb.heap.size + 1) (.loop { pfRec fn tm Wb.heap.size .done (some .ret) with state:=.exhausted })):=hend
   obtain ⟨W3,hW3⟩ : ∃ W3,W2.putObj (Wb.heap.size + 1) (.loop { pfRec fn tm Wb.heap.size .done (some .ret) with state:=.exhausted }) = W3:=⟨_,rfl⟩
   rw [hW3] at hend2
   obtain ⟨⟨Ao,co,krr,hRR⟩,kee,-,kdd,hBB⟩:=hX
   have hB3 : Below w.heap.size w W3:=by rw [<- hW3]; exact hBB.putObj (by omega) _
   have kd3 : W3.heap[Wb.heap.size]? = some (.deferred (some [])):=by rw [<- hW3]; exact (World.putObj_heap_other (by omega)).trans kdd
   have kr3 : W3.heap[w.heap.size]? = some (.cells #[.slice Ao (a0o f limit).2.length co] 22 (0,0)):=by rw [<- hW3]; exact (World.putObj_heap_other (by omega)).trans krr
   have ke3 : W3.heap[w.heap.size + 1]? = some (.cells #[.int .i64 (a0o f limit).1] 27 (0,0)):=by rw [<- hW3]; exact (World.putObj_heap_other (by omega)).trans kee
   have hR3 : (Kd.int .u8).R 5 W3 W1.heap.size (λ _=>True) (.slice Ao (a0o f limit).2.length co) (a0o f limit).2:=by rw [<- hW3]; exact R_put hRR (by omega) _
   have hWbs : Wb.heap.size = w.heap.size + 1 + 1 + 1 + 1 + 1:=by omega
   rw [hWbs] at kd3
   have HZ:=Lib.hid (And.intro hB3 (And.intro kd3 (And.intro kr3 (And.intro ke3 hR3))))
   have HD:=Lib.hid (show w.heap.size + 1 < w.heap.size + 1 + 1 + 1 + 1 + 1 /\ w.heap.size + 1 + 1 + 1 + 1 + 1 < W1.heap.size by omega)
   refine ⟨some .ret,W3,hend2,?_⟩
   clear hW3 hend hend2 hBB krr hRR kee kdd hB3 kd3 kr3 ke3 hR3 hs1 hsb hps hWbs HIt HK
   gi_wp2
   exact pfEnd HD.out.1 HZ.out.1 HZ.out.2.2.1 HZ.out.2.2.2.1 HZ.out.2.1 HZ.out.2.2.2.2 HD.out.2 rfl rfl
theorem b8S {f : List Int} {limit : Int} (h : (a0o f limit).1 = 0) : a2B f limit = a0o f limit:=by unfold a2B; rw [if_neg (λ h2=>h2 h)]
theorem b8T {f : List Int} {limit : Int} (h : (a0o f limit).1 ≠ 0) : a2B f limit = ((a0o f limit).1,[]):=by unfold a2B; rw [if_pos h]
set_option maxRecDepth 100000 in
theorem b8U (A : Option Addr) (c : Nat) (f : List Int) (limit : Int) (w : World) (hf : BSl w A c f) (hl : f.length <= 1000000) (hL : limit < 4611686018427387904) :
    Calls Tryz.prog 47 #[.slice A f.length c,.int .i64 limit] w (Told (a2B f limit).1 (a2B f limit).2 w):=by
 have HPr:=Lib.hid (b1I A c f limit w hf hl hL)
 have HE : Hid (_ /\ _):=Lib.hid (And.intro (b8S (f:=f) (limit:=limit)) (b8T (f:=f) (limit:=limit)))
 obtain ⟨P,hP⟩ : ∃ P,P = a0o f limit:=⟨_,rfl⟩
 obtain ⟨Q,hQ⟩ : ∃ Q,Q = a2B f limit:=⟨_,rfl⟩
 rw [<- hP,<- hQ] at HE
 rw [<- hP] at HPr
 rw [<- hQ]
 clear hf hP hQ
 obtain ⟨k,y⟩:=P
 dsimp only at HE HPr
 by_cases hk : k = 0
 · subst hk
   obtain rfl:=HE.out.1 rfl
   clear HE
   go_enter Tryz.func47,Tryz.ntmps47
   go_wp2_with fail
   refine HPr.out.mono ?_
   rintro e w1 ⟨A1,c1,rfl,hr1,hb1⟩
   have H1:=Lib.hid (And.intro hr1 hb1)
   clear hr1 hb1
   go_wp2_with fail
   go_ret2
   exact ⟨A1,c1,rfl,H1.out.1,H1.out.2⟩
 · obtain rfl:=HE.out.2 hk
   have hk2 : (k != 0) = true:=by simpa using hk
   clear HE hk
   go_enter Tryz.func47,Tryz.ntmps47
   go_wp2_with fail
   refine HPr.out.mono ?_
   rintro e w1 ⟨A1,c1,rfl,hr1,hb1⟩
   have H1:=Lib.hid hb1
   clear hr1 hb1
   go_wp2_with fail
   go_ret2
   exact ⟨none,0,rfl,Kd.R_nil _ _ _ _ _,H1.out⟩
end Go.Proofs.YtflfjpkmjnnodaaGreat
namespace Go.Proofs.YtflfjpkmjnnodaaGreat
open Go.RowKit Go.IntWalk Go.Proofs.YtflfjpkmjnnodaaGreatW.PrintWords
theorem Only.behind {S : Nat -> Prop} {a b c : World} {B : Nat} (h : Only S a b) (k : Below B b c) (hB : a.heap.size <= B) : Only S a c:=
 ⟨k.os.trans h.os,k.tape.trans h.tape,k.output.trans h.output,Nat.le_trans h.size k.size,λ i hi hs=>(k.block i (Nat.lt_of_lt_of_le hi hB)).trans (h.block i hi hs)⟩
theorem BSl.only {w w' : World} {A : Option Addr} {c : Nat} {p : List Int} {S : Nat -> Prop} (h : BSl w A c p) (ho : Only S w w') (hs : 0 < p.length -> ∀ ad,A = some ad -> ¬ S ad.block) : BSl w' A c p:=
 ⟨a5u h.row (λ hn ad ha=>ho.block _ (a5v h.row hn ha) (hs hn ad ha)),h.cap,h.nil,h.by'⟩
def Apart (p : Nat) (A : Option Addr) (x : List Int) : Prop:=0 < x.length -> ∀ ad,A = some ad -> ad.block ≠ p
end Go.Proofs.YtflfjpkmjnnodaaGreat
namespace Go.Proofs.YtflfjpkmjnnodaaGreat
open Go.RowKit Go.IntWalk Go.Proofs.YtflfjpkmjnnodaaGreatW.PrintWords Go.Proofs.YtflfjpkmjnnodaaGreatW.PrintMore
attribute [local go_sem] a1U
theorem cell9 {w : World} {g : Nat} {a b c d e f n o q : Value} {t : Nat} (h : w.heap[g]? = some (.cells #[a,b,c,d,e,f,n,o,q] t (0,0))) :
    (w.cell? ⟨g,0,none⟩ = some a /\ w.cell? ⟨g,1,none⟩ = some b /\ w.cell? ⟨g,2,none⟩ = some c /\ w.cell? ⟨g,3,none⟩ = some d /\ w.cell? ⟨g,4,none⟩ = some e /\ w.cell? ⟨g,5,none⟩ = some f /\ w.cell? ⟨g,6,none⟩ = some n /\ w.cell? ⟨g,7,none⟩ = some o /\ w.cell? ⟨g,8,none⟩ = some q) /\
    (w.frozen? ⟨g,0,none⟩ = false /\ w.frozen? ⟨g,1,none⟩ = false /\ w.frozen? ⟨g,2,none⟩ = false /\ w.frozen? ⟨g,3,none⟩ = false /\ w.frozen? ⟨g,4,none⟩ = false /\ w.frozen? ⟨g,5,none⟩ = false /\ w.frozen? ⟨g,6,none⟩ = false /\ w.frozen? ⟨g,7,none⟩ = false /\ w.frozen? ⟨g,8,none⟩ = false):=
 ⟨⟨(a0a h 0).trans rfl,(a0a h 1).trans rfl,(a0a h 2).trans rfl,(a0a h 3).trans rfl,(a0a h 4).trans rfl,(a0a h 5).trans rfl,(a0a h 6).trans rfl,(a0a h 7).trans rfl,(a0a h 8).trans rfl⟩,a0e h 0,a0e h 1,a0e h 2,a0e h 3,a0e h 4,a0e h 5,a0e h 6,a0e h 7,a0e h 8⟩
def PullC (p : Nat) (lim lg : Int) (fs : Bool) (sm told k : Int) (tb rest nx : Value) (W : World) : Prop:=W.heap[p]? = some (.cells #[.int .i64 lim,rest,.int .i64 lg,.bool fs,tb,.int .u32 sm,.int .i64 told,.int .i64 k,nx] 128 (0,0))
def pullV (p ph : Nat) : Value:=if ph = 0 then .func (.func 99) #[.pointer (some ⟨p,0,none⟩)] #[] else if ph = 1 then .func (.func 141) #[.pointer (some ⟨p,0,none⟩)] #[] else .func (.func 189) #[.pointer (some ⟨p,0,none⟩)] #[]
def InP (P : Nat -> Prop) (A : Option Addr) (x : List Int) : Prop:=0 < x.length -> ∀ ad,A = some ad -> P ad.block
theorem InP.from_ {P : Nat -> Prop} {A : Option Addr} {c k : Nat} {x : List Int} (h : InP P A x) (hk : k <= x.length) : InP P (if c = k then A else A.map (·.add (k * 1))) (x.drop k):=by
 intro hn ad ha
 rw [List.length_drop] at hn
 split at ha
 · exact h (by omega) ad ha
 · obtain ⟨ad',h1,h2⟩:=Option.map_eq_some_iff.1 ha
   have:=h (by omega) ad' h1
   rw [<- h2]
   show P (ad'.add (k * 1)).block
   rw [a1F]; exact this
theorem InP.apart {P : Nat -> Prop} {p : Nat} {A : Option Addr} {x : List Int} (h : InP P A x) (hp : ¬ P p) : Apart p A x:=λ hn ad ha e=>hp (e ▸ h hn ad ha)
def PullAt (p : Nat) (P : Nat -> Prop) (lim : Int) (s : PSt) (k : Int) (W : World) : Prop:=
 ∃ (t : Nat) (Ar : Option Addr) (cr : Nat),PullC p lim s.log s.first (a0F 0 s.x : Nat) s.x.length k (.pointer (some ⟨t,0,none⟩)) (.slice Ar s.rest.length cr) (pullV p s.ph) W /\ TabAt t 256 W /\ t < p /\ BSl W Ar cr s.rest /\ InP P Ar s.rest /\ ¬ P p
def a5F (p : Nat) (P : Nat -> Prop) (lim : Int) (s : PSt) (k : Int) (r : Bool × Int × PSt) (w : World) (e : Ending) (w' : World) : Prop:=
 ∃ (A : Option Addr) (c : Nat) (y : List Int),e = .returned (.tuple #[.slice A y.length c,.bool r.1,.int .i64 r.2.1]) /\ r.2.2.x = s.x ++ y /\ (Kd.int .u8).R 5 w' w.heap.size (λ _=>True) (.slice A y.length c) y /\ PullAt p P lim r.2.2 k w' /\ Only (λ k=>k = p) w w'
theorem PullAt.keep {p : Nat} {P : Nat -> Prop} {lim k : Int} {s : PSt} {W W' : World} {S : Nat -> Prop} (h : PullAt p P lim s k W) (ho : Only S W W') (hS : ∀ k,S k -> p < k /\ ¬ P k) : PullAt p P lim s k W':=by
 obtain ⟨t,Ar,cr,hk,ht,htp,hr,ha,hpb⟩:=h
 exact ⟨t,Ar,cr,(ho.block p (a0f hk) (λ h=>by have:=(hS p h).1; omega)).trans hk,(ho.block t (a0f ht) (λ h=>by have:=(hS t h).1; omega)).trans ht,htp,hr.only ho (λ hn ad h0 h=>(hS _ h).2 (ha hn ad h0)),ha,hpb⟩
theorem PullAt.below {p : Nat} {P : Nat -> Prop} {lim k : Int} {s : PSt} {W W' : World} (h : PullAt p P lim s k W) (hb : Below W.heap.size W W') : PullAt p P lim s k W':=by
 obtain ⟨t,Ar,cr,hk,ht,htp,hr,ha,hpb⟩:=h
 exact ⟨t,Ar,cr,a0g hk hb,a0g ht hb,htp,hr.below hb,ha,hpb⟩
theorem PullAt.mono {p : Nat} {P Q : Nat -> Prop} {lim k : Int} {s : PSt} {W : World} (h : PullAt p P lim s k W) (hb : ∀ k,P k -> Q k) (hp : ¬ Q p) : PullAt p Q lim s k W:=by
 obtain ⟨t,Ar,cr,hk,ht,htp,hr,ha,hpb⟩:=h
 exact ⟨t,Ar,cr,hk,ht,htp,hr,λ hn ad h0=>hb _ (ha hn ad h0),hp⟩
theorem PullAt.lt {p : Nat} {P : Nat -> Prop} {lim k : Int} {s : PSt} {W : World} (h : PullAt p P lim s k W) : p < W.heap.size:=by
 obtain ⟨t,Ar,cr,hk,-⟩:=h
 exact a0f hk
theorem BSl.below' {w w' : World} {A : Option Addr} {c p : Nat} {x : List Int} (h : BSl w A c x) (ho : Only (λ k=>k = p) w w') (ha : Apart p A x) : BSl w' A c x:=h.only ho ha
theorem d1d {limit : Int} {s : PSt} (h0 : s.ph = 0) {k : Int} (hk : headM (s.rest.take 8) = k) (hne : k ≠ 0) : stepP limit s = (false,k,s):=by
 unfold stepP; rw [if_pos h0,hk,if_pos hne]
theorem d1e {limit : Int} {s : PSt} (h0 : s.ph = 0) (hk : headM (s.rest.take 8) = 0) : stepP limit s = (true,0,{ ph:=1,rest:=s.rest.drop 8,log:=s.rest.getD 5 0,first:=s.first,x:=s.x }):=by
 unfold stepP; rw [if_pos h0,hk,if_neg (λ h=>h rfl)]
set_option maxRecDepth 100000 in
set_option maxHeartbeats 2000000 in
theorem d1f (p : Nat) (P : Nat -> Prop) (lim : Int) (s : PSt) (k : Int) (w : World) (h : PullAt p P lim s k w) (h0 : s.ph = 0) (hL : 0 <= lim) (hL2 : lim < 4611686018427387904) (hrl : s.rest.length <= 1000000) :
    Calls Tryz.prog 99 #[.pointer (some ⟨p,0,none⟩)] w (a5F p P lim s k (stepP lim s) w):=by
 have hAt:=Lib.hid h
 obtain ⟨t,Ar,cr,hk,ht,htp,hr,ha,hpb⟩:=h
 obtain ⟨ph,r,lg,fs,x⟩:=s
 dsimp only at h0 hrl hk hr ha
 subst h0
 obtain ⟨n,hn⟩ : ∃ n,n = min r.length 8:=⟨_,rfl⟩
 have hnr : n <= r.length:=by omega
 have hmin : Builtin.min2 (.int .i64 (r.length : Int)) (.int .i64 8) = pure (.int .i64 (n : Int)):=by
  rw [a1T]
  congr 2
  rw [hn]; split <;> omega
 have htk : r.take n = r.take 8:=by
  by_cases h8 : r.length <= 8
  · rw [List.take_of_length_le h8,show n = r.length by omega,List.take_length]
  · rw [show n = 8 by omega]
 have htl : (r.take 8).length = n:=by rw [<- htk,List.length_take]; omega
 have hs1:=a3E Ar r.length cr n hnr hr.cap
 have s0 : SLater w w:=Below.refl _ _
 have hPx:=d0X hL r
 have HPf : Hid (∀ W : World,SLater w W -> Calls Tryz.prog 45 #[.slice Ar n cr,.int .i64 lim] W (λ e w'=>∃ A m c,e = .returned (.tuple #[.slice A m c,.int .i64 (if headM (r.take 8) ≠ 0 then headM (r.take 8) else 3)]) /\ Below W.heap.size W w')):=Lib.hid (λ W hW=>by
  have h:=b1I Ar cr (r.take 8) lim W ((by rw [<- htk]; exact (hr.below hW).cut hnr)) (by rw [htl]; omega) hL2
  rw [htl,hPx] at h
  refine h.mono ?_
  rintro e w' ⟨A,c,rfl,-,hb⟩
  exact ⟨A,_,c,rfl,hb⟩)
 obtain ⟨⟨c0,c1,c2,c3,c4,c5,c6,c7,c8⟩,f0,f1,f2,f3,f4,f5,f6,f7,f8⟩:=cell9 hk
 have HK:=Lib.hid hk
 by_cases hh : headM (r.take 8) = 0
 · rw [hh,if_neg (λ h=>h rfl)] at HPf
   have h8:=b1a hh
   obtain rfl : n = 8:=by omega
   have hS:=d1e (limit:=lim) (s:={ ph:=0,rest:=r,log:=lg,first:=fs,x:=x }) rfl hh
   have HS:=Lib.hid hS
   have hr8 : 8 <= r.length:=by omega
   obtain ⟨ad,hA,hx5⟩:=a0x hr.row 5 (by omega)
   subst hA
   have hb5:=hr.by'.get 5
   have hI5 : (5 : Int) < (r.length : Int):=by omega
   have hsf:=a2c (some ad) r.length cr 8 hr8
   obtain ⟨Ad,hAd⟩ : ∃ Ad,Ad = (if cr = 8 then some ad else (some ad).map (·.add (8 * 1))):=⟨_,rfl⟩
   have HDr:=Lib.hid (And.intro (hr.from_ (k:=8) hr8) (ha.from_ (c:=cr) (k:=8) hr8))
   rw [<- hAd] at hsf HDr
   obtain ⟨v5,hv5⟩ : ∃ v,v = r.getD 5 0:=⟨_,rfl⟩
   rw [<- hv5] at hx5 hb5 HS
   have hw5 : IntKind.i64.wrap v5 = v5:=i64_in _ (by omega)
   have hdl : (r.drop 8).length = r.length - 8:=List.length_drop
   obtain ⟨rd,hrd⟩ : ∃ rd,rd = r.drop 8:=⟨_,rfl⟩
   rw [<- hrd] at HDr HS hdl
   rw [<- hdl] at hsf
   have hcr8 : (8 : Int) <= (cr : Int):=by have:=hr.cap; omega
   have h8I : (8 : Int) <= (r.length : Int):=by omega
   have hmf : ∀ (fn : Fn) (first cap : Array Value) (w : World),(Instr.makeFunc fn first cap).run Tryz.prog w = .ok (.func fn first cap) w:=λ _ _ _ _=>rfl
   have hsf : ∀ W : World,(Instr.slice 22 (.slice (some ad) r.length cr) (some (.int .i64 8)) none none).run Tryz.prog W = .ok (.slice Ad rd.length (cr - 8)) W:=hsf
   have hs1 : ∀ W : World,(Instr.slice 22 (.slice (some ad) r.length cr) none (some (.int .i64 8)) none).run Tryz.prog W = .ok (.slice (some ad) 8 cr) W:=hs1
   have HT:=Lib.hid (And.intro ht (And.intro htp (And.intro hpb (And.intro hr ha))))
   clear hdl
   have hne5 : ad.add 5 ≠ ⟨p,2,none⟩:=λ e=>by
    have h1:=ha (by omega) ad rfl
    have h2 : (ad.add 5).block = p:=by rw [e]
    rw [a1F] at h2
    rw [h2] at h1
    exact hpb h1
   clear hk ht htp hpb hr ha hh hS hb5 hAd hv5 hrd hPx htk htl hn hAt c0 c1 c2 c3 c4 c5 c6 c7 c8 f0 f1 f2 f3 f4 f5 f6 f7 f8
   obtain ⟨⟨c0,c1,c2,c3,c4,c5,c6,c7,c8⟩,-⟩:=cell9 HK.out
   go_enter Tryz.func99,Tryz.ntmps99
   go_wp2_with fail
   go_cut [7] (λ s7 wx=>s7 = .int .i64 3 /\ Hid (SLater w wx))
   case first=>
    go_region_law (go_simp; go_at_call 45; refine (HPf.out _ (by first | assumption | exact SLater.drew ‹_›)).mono ?_; rintro e w' ⟨A1,m1,c1',rfl,hb⟩; have s1:=(by first | exact SLater.keep ‹_› hb | exact SLater.keep (SLater.drew ‹_›) hb : SLater w w'); clear hb)
    all_goals
     go_wp2_with fail
     go_meet
     exact ⟨rfl,Lib.hid (by first | assumption | exact SLater.drew ‹_›)⟩
   case rest=>
    obtain ⟨rfl,hX⟩:=hcut
    have hk2:=a0g HK.out hX.out
    have e5 : ad.add 5 = ⟨ad.block,ad.off + 5,none⟩:=rfl
    have hx2:=a0r hX.out hx5
    rw [e5] at hx2 hne5
    have HK2:=Lib.hid hk2
    clear c0 c1 c2 c3 c4 c5 c6 c7 c8 hx5
    obtain ⟨⟨c0,c1,c2,c3,c4,c5,c6,c7,c8⟩,f0,f1,f2,f3,f4,f5,f6,f7,f8⟩:=cell9 hk2
    clear hk2
    go_wp2_with fail
    go_ret3
    have ho : Only (λ k=>k = p) w (((wc.setCell ⟨p,2,none⟩ (.int .i64 v5)).setCell ⟨p,1,none⟩ (.slice Ad rd.length (cr - 8))).setCell ⟨p,8,none⟩ (pullV p 1)):=(((Only.of_below (S:=λ k=>k = p) hX.out).setCell (p:=⟨p,2,none⟩) rfl _).setCell (p:=⟨p,1,none⟩) rfl _).setCell (p:=⟨p,8,none⟩) rfl _
    rw [HS.out]
    refine ⟨none,0,[],rfl,(List.append_nil _).symm,Kd.R_nil _ _ _ _ _,⟨t,Ad,cr - 8,?_,?_,HT.out.2.1,HDr.out.1.below' ho (HDr.out.2.apart HT.out.2.2.1),HDr.out.2,HT.out.2.2.1⟩,ho⟩
    · exact (a0k (a0k (a0k HK2.out 2 _) 1 _) 8 _).trans rfl
    · exact (ho.block t (a0f HT.out.1) (by have:=HT.out.2.1; omega)).trans HT.out.1
 · obtain ⟨k',hk'⟩ : ∃ k',k' = headM (r.take 8):=⟨_,rfl⟩
   rw [if_pos hh,<- hk'] at HPf
   have hS:=d1d (limit:=lim) (s:={ ph:=0,rest:=r,log:=lg,first:=fs,x:=x }) rfl hk'.symm (by rw [hk']; exact hh)
   have HS:=Lib.hid hS
   have h38 : k' = 3 -> n < 8:=λ h=>by
    rw [hk'] at h
    refine Classical.byContradiction λ h2=>?_
    have hl : (r.take 8).length = 8:=by omega
    have g : ∀ (d i : Nat),i + d <= 8 -> headG (r.take 8) d i ≠ 3:=by
     intro d
     induction d with
     | zero=>intro i _; unfold headG; decide
     | succ d ih=>
      intro i hi
      unfold headG
      rw [if_neg (by omega)]
      split
      · exact b7y _ _
      · exact ih (i + 1) (by omega)
    exact g 8 0 (by omega) h
   have hd : (k' != 3) = true \/ ((k' != 3) = false /\ decide ((n : Int) < 8) = true):=by
    by_cases h3 : k' = 3
    · have:=h38 h3
      exact .inr ⟨by rw [h3]; rfl,decide_eq_true (by omega)⟩
    · exact .inl (by simpa using h3)
   clear hk ht htp hpb hr ha hh hS hPx htk htl hn hk' h38 c0 c1 c2 c3 c4 c5 c6 c7 c8 f0 f1 f2 f3 f4 f5 f6 f7 f8
   obtain ⟨⟨c0,c1,c2,c3,c4,c5,c6,c7,c8⟩,-⟩:=cell9 HK.out
   rcases hd with q1 | ⟨q1,q2⟩
   all_goals
    go_enter Tryz.func99,Tryz.ntmps99
    go_wp2_with fail
    go_cut [7] (λ s7 wx=>s7 = .int .i64 k' /\ Hid (SLater w wx))
    case first=>
     go_region_law (go_simp; go_at_call 45; refine (HPf.out _ (by first | assumption | exact SLater.drew ‹_›)).mono ?_; rintro e w' ⟨A1,m1,c1',rfl,hb⟩; have s1:=(by first | exact SLater.keep ‹_› hb | exact SLater.keep (SLater.drew ‹_›) hb : SLater w w'); clear hb)
     all_goals
      go_wp2_with fail
      go_meet
      exact ⟨rfl,Lib.hid (by first | assumption | exact SLater.drew ‹_›)⟩
    case rest=>
     obtain ⟨rfl,hX⟩:=hcut
     go_wp2_with fail
     go_ret3
     rw [HS.out]
     exact ⟨none,0,[],rfl,(List.append_nil _).symm,Kd.R_nil _ _ _ _ _,hAt.out.below hX.out,Only.of_below hX.out⟩
theorem d1g {r x : List Int} (h4 : 4 <= r.length) (h : ∀ j,j < 4 -> r.getD j 0 = (tailL x).getD j 0) : r.take 4 = tailL x:=by
 refine List.ext_getElem (by rw [List.length_take,a1L]; omega) (λ j h1 h2=>?_)
 rw [List.length_take] at h1
 have hj:=h j (by omega)
 rw [List.getD_eq_getElem?_getD,List.getElem?_eq_getElem (by omega),List.getD_eq_getElem?_getD,List.getElem?_eq_getElem h2] at hj
 rw [List.getElem_take]
 exact hj
theorem d1h {r x : List Int} {j : Nat} (hj : j < 4) (h : r.getD j 0 ≠ (tailL x).getD j 0) : r.take 4 ≠ tailL x:=λ e=>h (by rw [<- e,b7n _ hj])
theorem d1i (x : List Int) {j : Nat} (hj : j < 4) : (tailL x).getD j 0 = ((a0F 0 x / 256 ^ j % 256 : Nat) : Int):=by
 have:=b7h (n:=a0F 0 x) hj []
 rw [List.append_nil] at this
 exact this
theorem step2 {limit : Int} {s : PSt} (h0 : s.ph ≠ 0) (h1 : s.ph ≠ 1) {k : Int} (hk : a0T s.rest s.x = k) : stepP limit s = (false,k,s):=by
 unfold stepP; rw [if_neg h0,if_neg h1,hk]
set_option maxRecDepth 100000 in
set_option maxHeartbeats 2000000 in
theorem d1j (p : Nat) (P : Nat -> Prop) (lim : Int) (s : PSt) (k : Int) (w : World) (h : PullAt p P lim s k w) (h0 : s.ph ≠ 0) (h1 : s.ph ≠ 1) :
    Calls Tryz.prog 189 #[.pointer (some ⟨p,0,none⟩)] w (a5F p P lim s k (stepP lim s) w):=by
 have hAt:=Lib.hid h
 obtain ⟨t,Ar,cr,hk,ht,htp,hr,ha,hpb⟩:=h
 obtain ⟨k',hk'⟩ : ∃ k',a0T s.rest s.x = k':=⟨_,rfl⟩
 have HS:=Lib.hid (step2 (limit:=lim) h0 h1 hk')
 rw [HS.out]
 have HK':=Lib.hid hk'
 obtain ⟨ph,r,lg,fs,x⟩:=s
 dsimp only at hk hr ha HK'
 obtain ⟨⟨c0,c1,c2,c3,c4,c5,c6,c7,c8⟩,-⟩:=cell9 hk
 have hDone : a5F p P lim ⟨ph,r,lg,fs,x⟩ k (false,k',⟨ph,r,lg,fs,x⟩) w (.returned (.tuple #[.slice none 0 0,.bool false,.int .i64 k'])) w:=⟨none,0,[],rfl,(List.append_nil _).symm,Kd.R_nil _ _ _ _ _,hAt.out,Only.refl _ _⟩
 have HD:=Lib.hid hDone
 have HR:=Lib.hid hr
 by_cases h4 : r.length < 4
 · have hI : (r.length : Int) < 4:=by omega
   obtain rfl : k' = 3:=by rw [<- HK'.out]; exact b8G h4
   clear hk ht htp hr ha hpb hk' h0 h1 hDone h4
   go_enter Tryz.func189,Tryz.ntmps189
   go_wp2_with fail
   go_ret3
   exact HD.out
 · have hI : ¬ (r.length : Int) < 4:=by omega
   have hs1:=a3E Ar r.length cr 4 (by omega) hr.cap
   have hs1 : ∀ W : World,(Instr.slice 22 (.slice Ar r.length cr) none (some (.int .i64 4)) none).run Tryz.prog W = .ok (.slice Ar 4 cr) W:=hs1
   obtain ⟨sm,hsm⟩ : ∃ sm,sm = a0F 0 x:=⟨_,rfl⟩
   have hsml : sm < 4294967296:=by rw [hsm]; have:=a4B 0 x; omega
   rw [<- hsm] at c5
   have HSm:=Lib.hid hsm
   have HL:=Lib.hid h4
   have h4c : (4 : Int) <= (cr : Int):=by have:=hr.cap; omega
   have h4r : (4 : Int) <= (r.length : Int):=by omega
   clear hk ht htp hr ha hpb hk' h0 h1 hDone h4 hsm
   go_enter Tryz.func189,Tryz.ntmps189
   go_wp2_with fail
   go_loopw [5,6,19] (λ _ _ iv wr=>∃ i : Nat,i <= 4 /\ iv = .int .i64 i /\ wr = w /\ Hid (∀ j,j < i -> r.getD j 0 = (tailL x).getD j 0)) (λ _ _ iv _=>4 - (intOf iv).toNat)
   case atStart=>exact ⟨0,by omega,rfl,by first | rfl | trivial,Lib.hid (λ j hj=>by omega)⟩
   case round=>
    obtain ⟨i,hi,rfl,rfl,H⟩:=hrel
    by_cases hlt : i < 4
    · obtain ⟨ad,hA,hcx⟩:=a0x HR.out.row i (by have:=HL.out; omega)
      subst hA
      have hbx:=HR.out.by'.get i
      obtain ⟨z,hz⟩ : ∃ z,z = r.getD i 0:=⟨_,rfl⟩
      rw [<- hz] at hcx hbx
      have HG:=Lib.hid (d1i x hlt)
      rw [<- HSm.out] at HG
      have HN : Hid (z = ((sm / 256 ^ i % 256 : Nat) : Int) -> ∀ j,j < i + 1 -> r.getD j 0 = (tailL x).getD j 0):=Lib.hid (λ h j hj=>by
       by_cases e : j = i
       · rw [e,<- hz,HG.out,h]
       · exact H.out j (by omega))
      have HE : Hid (¬ z = ((sm / 256 ^ i % 256 : Nat) : Int) -> k' = 15):=Lib.hid (λ h=>by
       rw [<- HK'.out]
       exact b8H HL.out (d1h hlt (by rw [<- hz,HG.out]; exact h)))
      have hI4 : (i : Int) < 4:=by omega
      have hi4 : i = 0 \/ i = 1 \/ i = 2 \/ i = 3:=by omega
      clear hz hlt hi
      rcases hi4 with rfl | rfl | rfl | rfl
      · have e1 : ad.add 0 = ad:=by simp [Addr.add]
        rw [e1] at hcx
        by_cases hq : z = (sm : Int) % 256
        · have q : (z != (sm : Int) % 256) = false:=by simp [hq]
          have HN2:=Lib.hid (HN.out (by rw [hq]; simp))
          clear hq
          go_wp2_with fail
          go_roundw
          case rel=>exact ⟨0 + 1,by omega,by go_num,by first | rfl | trivial,HN2⟩
          case measure=>first | (simp [intOf]; done) | (simp [intOf]; omega)
        · have q : (z != (sm : Int) % 256) = true:=by simpa using hq
          obtain rfl:=HE.out (by intro h; apply hq; rw [h]; simp)
          clear hq
          go_wp2_with fail
          go_ret3
          exact HD.out
      · have e1 : ad.add 1 = ⟨ad.block,ad.off + 1,none⟩:=rfl
        rw [e1] at hcx
        by_cases hq : z = (sm : Int) / 256 % 256
        · have q : (z != (sm : Int) / 256 % 256) = false:=by simp [hq]
          have HN2:=Lib.hid (HN.out (by rw [hq]; simp))
          clear hq
          go_wp2_with fail
          go_roundw
          case rel=>exact ⟨1 + 1,by omega,by go_num,by first | rfl | trivial,HN2⟩
          case measure=>first | (simp [intOf]; done) | (simp [intOf]; omega)
        · have q : (z != (sm : Int) / 256 % 256) = true:=by simpa using hq
          obtain rfl:=HE.out (by intro h; apply hq; rw [h]; simp)
          clear hq
          go_wp2_with fail
          go_ret3
          exact HD.out
      · have e1 : ad.add 2 = ⟨ad.block,ad.off + 2,none⟩:=rfl
        rw [e1] at hcx
        by_cases hq : z = (sm : Int) / 65536 % 256
        · have q : (z != (sm : Int) / 65536 % 256) = false:=by simp [hq]
          have HN2:=Lib.hid (HN.out (by rw [hq]; simp))
          clear hq
          go_wp2_with fail
          go_roundw
          case rel=>exact ⟨2 + 1,by omega,by go_num,by first | rfl | trivial,HN2⟩
          case measure=>first | (simp [intOf]; done) | (simp [intOf]; omega)
        · have q : (z != (sm : Int) / 65536 % 256) = true:=by simpa using hq
          obtain rfl:=HE.out (by intro h; apply hq; rw [h]; simp)
          clear hq
          go_wp2_with fail
          go_ret3
          exact HD.out
      · have e1 : ad.add 3 = ⟨ad.block,ad.off + 3,none⟩:=rfl
        rw [e1] at hcx
        by_cases hq : z = (sm : Int) / 16777216
        · have q : (z != (sm : Int) / 16777216) = false:=by simp [hq]
          have HN2:=Lib.hid (HN.out (by rw [hq]; simp; omega))
          clear hq
          go_wp2_with fail
          go_roundw
          case rel=>exact ⟨3 + 1,by omega,by go_num,by first | rfl | trivial,HN2⟩
          case measure=>first | (simp [intOf]; done) | (simp [intOf]; omega)
        · have q : (z != (sm : Int) / 16777216) = true:=by simpa using hq
          obtain rfl:=HE.out (by intro h; apply hq; rw [h]; simp; omega)
          clear hq
          go_wp2_with fail
          go_ret3
          exact HD.out
    · obtain rfl : i = 4:=by omega
      have hT:=d1g (by have:=HL.out; omega) H.out
      have hB:=b8I HL.out hT
      rw [HK'.out] at hB
      by_cases h5 : 4 < r.length
      · rw [if_pos h5] at hB
        subst hB
        have hI5 : (4 : Int) < (r.length : Int):=by omega
        clear h5 hT
        go_wp2_with fail
        go_ret3
        exact HD.out
      · rw [if_neg h5] at hB
        subst hB
        have hI5 : ¬ (4 : Int) < (r.length : Int):=by omega
        clear h5 hT
        go_wp2_with fail
        go_ret3
        exact HD.out
end Go.Proofs.YtflfjpkmjnnodaaGreat
namespace Go.Proofs.YtflfjpkmjnnodaaGreat
open Go.RowKit Go.IntWalk Go.Proofs.YtflfjpkmjnnodaaGreatW.PrintWords
def d1k (r : Int × List Int × Nat × Bool) (w : World) (s5 s6 s7 s8 : Value) (wx : World) : Prop:=
 ∃ A c,s5 = .slice A r.2.1.length c /\ s6 = .int .i64 (r.2.2.1 : Nat) /\ s7 = .bool r.2.2.2 /\ s8 = .int .i64 r.1 /\ Hid ((Kd.int .u8).R 5 wx w.heap.size (λ _=>True) (.slice A r.2.1.length c) r.2.1 /\ SLater w wx)
theorem d1l {limit : Int} {s : PSt} (h1 : s.ph = 1) {k : Int} (hk : (openM s.rest s.log s.first (limit - s.x.length)).1 = k) (hne : k ≠ 0) : stepP limit s = (false,k,s):=by
 unfold stepP; rw [if_neg (by omega),if_pos h1,hk,if_pos hne]
theorem d1m {limit : Int} {s : PSt} (h1 : s.ph = 1) {y : List Int} {u : Nat} {l : Bool} (hk : openM s.rest s.log s.first (limit - s.x.length) = (0,y,u,l)) : stepP limit s = (true,0,{ ph:=if l = true then 2 else 1,rest:=s.rest.drop u,log:=s.log,first:=false,x:=s.x ++ y }):=by
 unfold stepP; rw [if_neg (by omega),if_pos h1,hk]
 exact if_neg (λ h=>h rfl)
set_option maxRecDepth 100000 in
set_option maxHeartbeats 4000000 in
theorem d1n (p : Nat) (P : Nat -> Prop) (lim : Int) (s : PSt) (k : Int) (w : World) (h : PullAt p P lim s k w) (h0 : s.ph = 1) (hL : (s.x.length : Int) <= lim) (hL2 : lim < 4611686018427387904) (hrl : s.rest.length <= 1000000) (hxb : Bytes s.x) :
    Calls Tryz.prog 141 #[.pointer (some ⟨p,0,none⟩)] w (a5F p P lim s k (stepP lim s) w):=by
 have hAt:=Lib.hid h
 obtain ⟨t,Ar,cr,hk,ht,htp,hr,ha,hpb⟩:=h
 obtain ⟨ph,r,lg,fs,x⟩:=s
 dsimp only at h0 hrl hk hr ha hL hxb
 subst h0
 have hw1 : IntKind.i64.wrap (lim - (x.length : Int)) = lim - (x.length : Int):=i64_in _ (by omega)
 have hOp : ∀ W : World,SLater w W -> Calls Tryz.prog 36 #[.slice Ar r.length cr,.int .i64 lg,.bool fs,.int .i64 (lim - (x.length : Int))] W (OpenPost (openM r lg fs (lim - (x.length : Int))) W):=λ W hW=>
  b1z Ar cr r lg fs (lim - (x.length : Int)) W (hr.below hW).row hr.by' hrl hr.cap
 have hOl:=λ h=>b1D hr.by' (log:=lg) (room:=lim - (x.length : Int)) (first:=fs) h
 have hOu:=λ h=>a3X (f:=r) (log:=lg) (room:=lim - (x.length : Int)) (first:=fs) h
 obtain ⟨⟨c0,c1,c2,c3,c4,c5,c6,c7,c8⟩,-⟩:=cell9 hk
 have HK:=Lib.hid hk
 have s0 : SLater w w:=Below.refl _ _
 obtain ⟨k',y,u,l,hO⟩ : ∃ k' y u l,openM r lg fs (lim - (x.length : Int)) = (k',y,u,l):=⟨_,_,_,_,rfl⟩
 rw [hO] at hOp hOl hOu
 dsimp only at hOl hOu
 have HOp:=Lib.hid hOp
 by_cases hz : k' = 0
 · subst hz
   have HS:=Lib.hid (d1m (limit:=lim) (s:={ ph:=1,rest:=r,log:=lg,first:=fs,x:=x }) rfl hO)
   obtain ⟨o1,o2,o3⟩:=hOl rfl
   obtain ⟨u1,u2⟩:=hOu rfl
   have hsf:=a2c Ar r.length cr u u2
   obtain ⟨Ad,hAd⟩ : ∃ Ad,Ad = (if cr = u then Ar else Ar.map (·.add (u * 1))):=⟨_,rfl⟩
   have HDr:=Lib.hid (And.intro (hr.from_ (k:=u) u2) (ha.from_ (c:=cr) (k:=u) u2))
   rw [<- hAd] at hsf HDr
   have hdl : (r.drop u).length = r.length - u:=List.length_drop
   obtain ⟨rd,hrd⟩ : ∃ rd,rd = r.drop u:=⟨_,rfl⟩
   dsimp only at HS
   rw [<- hrd] at HDr HS hdl
   rw [<- hdl] at hsf
   have huc : (u : Int) <= (cr : Int):=by have:=hr.cap; omega
   have hur : (u : Int) <= (r.length : Int):=by omega
   have hw2 : IntKind.i64.wrap ((x.length : Int) + (y.length : Int)) = (x.length : Int) + (y.length : Int):=i64_in _ (by omega)
   obtain ⟨sm0,hs0⟩ : ∃ s0,s0 = a0F 0 x:=⟨_,rfl⟩
   obtain ⟨sm1,hs1⟩ : ∃ s1,s1 = a0F sm0 y:=⟨_,rfl⟩
   have hs0l : sm0 <= 4294967295:=by rw [hs0]; exact a4B _ _
   have HCrc:=Lib.hid (show a0F 0 (x ++ y) = sm1 by rw [hs1,hs0]; exact b7d (by decide) hxb)
   rw [<- hs0] at c5
   have hmf : ∀ (fn : Fn) (first cap : Array Value) (w : World),(Instr.makeFunc fn first cap).run Tryz.prog w = .ok (.func fn first cap) w:=λ _ _ _ _=>rfl
   have HT:=Lib.hid (And.intro ht (And.intro htp (And.intro hpb (And.intro o1 (And.intro o3 (And.intro hs1 (And.intro hs0 hs0l)))))))
   clear hdl
   clear hk ht htp hpb hr ha hO hOp hOl hOu hAd hrd hAt o1 o2 o3 u1 u2 hxb hL hs0 hs1 hs0l
   go_enter Tryz.func141,Tryz.ntmps141
   go_wp2_with fail
   go_cut [5,6,7,8] (λ s5 s6 s7 s8 wx=>d1k (0,y,u,l) w s5 s6 s7 s8 wx)
   case first=>
    go_region_held3 (λ w'=>Below w.heap.size w w' /\ w'.cell? ⟨p,0,none⟩ = some (.int .i64 lim) /\ w'.cell? ⟨p,1,none⟩ = some (.slice Ar r.length cr) /\ w'.cell? ⟨p,2,none⟩ = some (.int .i64 lg) /\ w'.cell? ⟨p,3,none⟩ = some (.bool fs) /\ w'.cell? ⟨p,6,none⟩ = some (.int .i64 (x.length : Int))) ((repeat' apply And.intro) <;> first | exact Below.refl _ _ | exact (Below.refl _ _).drew | assumption | exact a0r hb ‹_› | (refine a4K ?_ ?_ hb <;> first | assumption | exact Below.size (by assumption)) | exact ⟨hb.os,hb.tape,hb.output,hb.size,hb.block⟩)
     (first | (go_at_call 36; refine (HOp.out _ (by first | exact (Below.refl _ _).drew | exact And.left (by assumption))).mono ?_; rintro e w' ⟨A1,c1',rfl,hv,hb⟩))
    all_goals
     go_wp2_with fail
     go_meet
     exact ⟨_,_,rfl,rfl,rfl,rfl,Lib.hid ⟨hv,a0h (Below.refl w.heap.size w).drew hb⟩⟩
   case rest=>
    obtain ⟨A5,c5',rfl,rfl,rfl,rfl,hX⟩:=hcut
    dsimp only at hX ⊢
    have hk2:=a0g HK.out hX.out.2
    have HK2:=Lib.hid hk2
    clear c0 c1 c2 c3 c4 c5 c6 c7 c8
    obtain ⟨⟨c0,c1,c2,c3,c4,c5,c6,c7,c8⟩,f0,f1,f2,f3,f4,f5,f6,f7,f8⟩:=cell9 hk2
    clear hk2
    go_wp2_with fail
    obtain ⟨w3,hw3⟩ : ∃ w3,w3 = ((wc.setCell ⟨p,1,none⟩ (.slice Ad rd.length (cr - u))).setCell ⟨p,3,none⟩ (.bool false)).setCell ⟨p,6,none⟩ (.int .i64 ((x.length : Int) + (y.length : Int))):=⟨_,rfl⟩
    rw [<- hw3]
    have hk3 : PullC p lim lg false sm0 ((x.length : Int) + (y.length : Int)) k (.pointer (some ⟨t,0,none⟩)) (.slice Ad rd.length (cr - u)) (pullV p 1) w3:=by rw [hw3,HT.out.2.2.2.2.2.2.1]; exact (a0k (a0k (a0k HK2.out 1 _) 3 _) 6 _).trans rfl
    have hoc : Only (λ k=>k = p) wc w3:=by rw [hw3]; exact (((Only.refl (λ k=>k = p) wc).setCell (p:=⟨p,1,none⟩) rfl _).setCell (p:=⟨p,3,none⟩) rfl _).setCell (p:=⟨p,6,none⟩) rfl _
    have ho3 : Only (λ k=>k = p) w w3:=(Only.of_below hX.out.2).trans hoc
    have ht3 : TabAt t 256 w3:=(ho3.block t (a0f HT.out.1) (by have:=HT.out.2.1; omega)).trans HT.out.1
    have hy3 : (Kd.int .u8).R 5 w3 w.heap.size (λ _=>True) (.slice A5 y.length c5') y:=a1w hX.out.1 hoc (λ k hk h=>by have:=a0f HK.out; omega)
    have hy3r:=(Kd.R_reads' hy3).2.2
    have HAd : Hid (∀ W : World,SLater w3 W -> Calls Tryz.prog 134 #[.pointer (some ⟨t,0,none⟩),.int .u32 sm0,.slice A5 y.length c5'] W (λ e W'=>e = .returned (.int .u32 sm1) /\ W = W')):=Lib.hid (λ W hW=>by
     have h2:=b1c t sm0 A5 c5' y W (ht3.later hW) HT.out.2.2.2.2.2.2.2 (Kd.C_below hy3r hW) (by have:=HT.out.2.2.2.1; omega) HT.out.2.2.2.2.1
     rw [<- HT.out.2.2.2.2.2.1] at h2
     exact h2)
    clear c0 c1 c2 c3 c4 c5 c6 c7 c8 f0 f1 f2 f3 f4 f5 f6 f7 f8
    obtain ⟨⟨c0,c1,c2,c3,c4,c5,c6,c7,c8⟩,f0,f1,f2,f3,f4,f5,f6,f7,f8⟩:=cell9 hk3
    have s3 : SLater w3 w3:=Below.refl _ _
    have H3:=Lib.hid (And.intro hk3 (And.intro ho3 (And.intro ht3 hy3)))
    clear hw3 hk3 hoc ho3 ht3 hy3 hy3r s0
    go_cut [] (λ wx=>Hid (∃ W,SLater w3 W /\ SLater (W.setCell ⟨p,5,none⟩ (.int .u32 sm1)) wx))
    case first=>
     go_region_law (go_simp; go_at_call 134; refine (HAd.out _ (by first | assumption | exact SLater.drew ‹_›)).mono ?_; rintro e w' ⟨rfl,rfl⟩)
     all_goals
      go_wp2_with fail
      go_meet
      first | exact Lib.hid ⟨w3,Below.refl _ _,Below.refl _ _⟩ | exact Lib.hid ⟨w3,Below.refl _ _,(Below.refl _ _).drew⟩ | exact Lib.hid ⟨w3,Below.refl _ _,(Below.refl _ _).drew.drew⟩
    case rest=>
     obtain ⟨W,hW,hB⟩:=hcut.out
     have hoW : Only (λ k=>k = p) w W:=H3.out.2.1.trans (Only.of_below hW)
     have ho4 : Only (λ k=>k = p) w wc:=(hoW.setCell (p:=⟨p,5,none⟩) rfl (.int .u32 sm1)).trans (Only.of_below hB)
     have hk4 : PullC p lim lg false sm1 ((x.length : Int) + (y.length : Int)) k (.pointer (some ⟨t,0,none⟩)) (.slice Ad rd.length (cr - u)) (pullV p 1) wc:=a0g ((a0k (a0g H3.out.1 hW) 5 _).trans rfl) hB
     have hy4 : (Kd.int .u8).R 5 wc w.heap.size (λ _=>True) (.slice A5 y.length c5') y:=Kd.R_below (a1w (Kd.R_below H3.out.2.2.2 hW) ((Only.refl (λ k=>k = p) W).setCell (p:=⟨p,5,none⟩) rfl (.int .u32 sm1)) (λ k hk h=>by have:=a0f HK.out; omega)) hB
     clear c0 c1 c2 c3 c4 c5 c6 c7 c8 f0 f1 f2 f3 f4 f5 f6 f7 f8
     obtain ⟨⟨c0,c1,c2,c3,c4,c5,c6,c7,c8⟩,f0,f1,f2,f3,f4,f5,f6,f7,f8⟩:=cell9 hk4
     have H4:=Lib.hid (And.intro hk4 (And.intro hy4 ho4))
     clear hoW hk4 hy4 ho4 hB hW hcut
     cases l with
     | true=>
      go_wp2_with fail
      go_ret3
      have ho : Only (λ k=>k = p) w (wc.setCell ⟨p,8,none⟩ (pullV p 2)):=H4.out.2.2.setCell (p:=⟨p,8,none⟩) rfl _
      rw [HS.out]
      refine ⟨A5,c5',y,rfl,rfl,a1w H4.out.2.1 ((Only.refl (λ k=>k = p) wc).setCell (p:=⟨p,8,none⟩) rfl _) (λ k hk h=>by have:=a0f HK.out; omega),⟨t,Ad,cr - u,?_,(ho.block t (a0f HT.out.1) (by have:=HT.out.2.1; omega)).trans HT.out.1,HT.out.2.1,HDr.out.1.below' ho (HDr.out.2.apart HT.out.2.2.1),HDr.out.2,HT.out.2.2.1⟩,ho⟩
      have h8:=(a0k H4.out.1 8 (pullV p 2)).trans rfl
      unfold PullC
      dsimp only
      rw [HCrc.out,List.length_append]
      exact h8
     | false=>
      go_wp2_with fail
      go_ret3
      have ho:=H4.out.2.2
      rw [HS.out]
      refine ⟨A5,c5',y,rfl,rfl,H4.out.2.1,⟨t,Ad,cr - u,?_,(ho.block t (a0f HT.out.1) (by have:=HT.out.2.1; omega)).trans HT.out.1,HT.out.2.1,HDr.out.1.below' ho (HDr.out.2.apart HT.out.2.2.1),HDr.out.2,HT.out.2.2.1⟩,ho⟩
      have h8:=H4.out.1
      unfold PullC at h8 ⊢
      dsimp only
      rw [HCrc.out,List.length_append]
      exact h8
 · have HS:=Lib.hid (d1l (limit:=lim) (s:={ ph:=1,rest:=r,log:=lg,first:=fs,x:=x }) rfl (show (openM r lg fs (lim - (x.length : Int))).1 = k' by rw [hO]) hz)
   have hz2 : (k' != 0) = true:=by simpa using hz
   clear hk ht htp hpb hr ha hO hOp hOl hOu hL hxb hz
   go_enter Tryz.func141,Tryz.ntmps141
   go_wp2_with fail
   go_cut [5,6,7,8] (λ s5 s6 s7 s8 wx=>s8 = .int .i64 k' /\ Hid (SLater w wx))
   case first=>
    go_region_held3 (λ w'=>Below w.heap.size w w' /\ w'.cell? ⟨p,0,none⟩ = some (.int .i64 lim) /\ w'.cell? ⟨p,1,none⟩ = some (.slice Ar r.length cr) /\ w'.cell? ⟨p,2,none⟩ = some (.int .i64 lg) /\ w'.cell? ⟨p,3,none⟩ = some (.bool fs) /\ w'.cell? ⟨p,6,none⟩ = some (.int .i64 (x.length : Int))) ((repeat' apply And.intro) <;> first | exact Below.refl _ _ | exact (Below.refl _ _).drew | assumption | exact a0r hb ‹_› | (refine a4K ?_ ?_ hb <;> first | assumption | exact Below.size (by assumption)) | exact ⟨hb.os,hb.tape,hb.output,hb.size,hb.block⟩)
     (first | (go_at_call 36; refine (HOp.out _ (by first | exact (Below.refl _ _).drew | exact And.left (by assumption))).mono ?_; rintro e w' ⟨A1,c1',rfl,hv,hb⟩))
    all_goals
     go_wp2_with fail
     go_meet
     exact ⟨rfl,Lib.hid (a0h (Below.refl w.heap.size w).drew hb)⟩
   case rest=>
    obtain ⟨rfl,hX⟩:=hcut
    go_wp2_with fail
    go_ret3
    rw [HS.out]
    exact ⟨none,0,[],rfl,(List.append_nil _).symm,Kd.R_nil _ _ _ _ _,hAt.out.below hX.out,Only.of_below hX.out⟩
set_option maxRecDepth 100000 in
theorem b8V (p : Nat) (k : Int) (w : World) (h : w.cell? ⟨p,7,none⟩ = some (.int .i64 k)) :
    Calls Tryz.prog 100 #[.pointer (some ⟨p,0,none⟩)] w (λ e w'=>e = .returned (.bool (decide (k ≠ 0 /\ k ≠ 3))) /\ w = w'):=by
 by_cases h0 : k = 0
 · subst h0
   go_enter Tryz.func100,Tryz.ntmps100
   go_wp2_with fail
   go_ret
   exact ⟨rfl,rfl⟩
 · have q0 : (k != 0) = true:=by simpa using h0
   by_cases h3 : k = 3
   · subst h3
     go_enter Tryz.func100,Tryz.ntmps100
     go_wp2_with fail
     go_ret
     exact ⟨rfl,rfl⟩
   · have q3 : (k != 3) = true:=by simpa using h3
     have hd:=Lib.hid (show decide (k ≠ 0 /\ k ≠ 3) = true from decide_eq_true ⟨h0,h3⟩)
     clear h0 h3
     go_enter Tryz.func100,Tryz.ntmps100
     go_wp2_with fail
     go_ret
     rw [hd.out]
     exact ⟨rfl,rfl⟩
def PullSt (p b0 : Nat) (lim : Int) (f : List Int) (W : World) : Prop:=
 (∃ lg fs sm tb rest nx,PullC p lim lg fs sm (pullR lim f).2.x.length (pullR lim f).1 tb rest nx W) /\ (((pullR lim f).1 = 0 \/ (pullR lim f).1 = 3) -> PullAt p (λ k=>b0 <= k) lim (pullR lim f).2 (pullR lim f).1 W) /\ p < b0
def d1o (p : Nat) (lim : Int) (f b : List Int) (w : World) (e : Ending) (w' : World) : Prop:=
 ∃ A c y,e = .returned (.tuple #[.slice A y.length c,.int .i64 (errF (pullR lim (f ++ b)).1)]) /\ (pullR lim (f ++ b)).2.x = (pullR lim f).2.x ++ y /\ (Kd.int .u8).R 5 w' w.heap.size (λ _=>True) (.slice A y.length c) y /\ PullSt p w.heap.size lim (f ++ b) w' /\ Only (λ k=>k = p) w w'
theorem PullAt.cells {p : Nat} {P : Nat -> Prop} {lim : Int} {s : PSt} {k : Int} {W : World} (h : PullAt p P lim s k W) : ∃ lg fs sm tb rest nx,PullC p lim lg fs sm s.x.length k tb rest nx W:=by
 obtain ⟨t,Ar,cr,hk,-⟩:=h
 exact ⟨_,_,_,_,_,_,hk⟩
theorem PullAt.err {p : Nat} {P : Nat -> Prop} {lim : Int} {s : PSt} {k : Int} {W : World} (h : PullAt p P lim s k W) (k' : Int) : PullAt p P lim s k' (W.setCell ⟨p,7,none⟩ (.int .i64 k')):=by
 obtain ⟨t,Ar,cr,hk,ht,htp,hr,ha,hpb⟩:=h
 have ho : Only (λ k=>k = p) W (W.setCell ⟨p,7,none⟩ (.int .i64 k')):=(Only.refl (λ k=>k = p) W).setCell (p:=⟨p,7,none⟩) rfl _
 exact ⟨t,Ar,cr,(a0k hk 7 _).trans rfl,(ho.block t (a0f ht) (by omega)).trans ht,htp,hr.below' ho (ha.apart hpb),ha,hpb⟩
theorem b8W {p ph : Nat} (h : ph = 0) : pullV p ph = .func (.func 99) #[.pointer (some ⟨p,0,none⟩)] #[]:=by subst h; rfl
theorem b8X {p ph : Nat} (h : ph = 1) : pullV p ph = .func (.func 141) #[.pointer (some ⟨p,0,none⟩)] #[]:=by subst h; rfl
theorem b8Y {p ph : Nat} (h0 : ph ≠ 0) (h1 : ph ≠ 1) : pullV p ph = .func (.func 189) #[.pointer (some ⟨p,0,none⟩)] #[]:=by unfold pullV; rw [if_neg h0,if_neg h1]
def phM (v : Value) : Nat:=match v with
 | .func (.func f) _ _=>if f = 99 then 2 else if f = 141 then 1 else 0
 | _=>0
def onN (v : Value) : Nat:=match v with
 | .bool true=>1
 | _=>0
theorem phM_v (p ph : Nat) : phM (pullV p ph) = if ph = 0 then 2 else if ph = 1 then 1 else 0:=by
 by_cases h0 : ph = 0
 · rw [b8W h0,if_pos h0]; rfl
 · by_cases h1 : ph = 1
   · rw [b8X h1,if_neg h0,if_pos h1]; rfl
   · rw [b8Y h0 h1,if_neg h0,if_neg h1]; rfl
structure PLoop (p : Nat) (lim : Int) (x0 : List Int) (Rr : Int × PSt) (w W1 : World) (on : Bool) (Lo : List Int) (Ao : Option Addr) (co : Nat) (W : World) : Prop where
 out : (Kd.int .u8).R 5 W W1.heap.size (λ _=>True) (.slice Ao Lo.length co) Lo
 st : ∃ s k n,PullAt p (λ j=>w.heap.size <= j /\ j < W1.heap.size) lim s k W /\ s.x = x0 ++ Lo /\ Bytes s.rest /\ Bytes s.x /\ s.x.length + 131072 * s.rest.length <= 131072000000 /\ (s.x.length : Int) <= lim /\ (on = true -> runP lim n s = Rr /\ leftP s < n) /\ (on = false -> Rr = (k,s))
 on : Only (λ k=>k = p) W1 W
set_option maxRecDepth 100000 in
set_option maxHeartbeats 4000000 in
theorem d1p (p b0 : Nat) (lim : Int) (f b : List Int) (A : Option Addr) (c : Nat) (w : World) (h : PullSt p b0 lim f w) (hL : 0 <= lim) (hL2 : lim < 4611686018427387904) (hf : Bytes f) (hb : BSl w A c b) (hap : Apart p A b) (hl : f.length + b.length <= 1000000) :
    Calls Tryz.prog 58 #[.pointer (some ⟨p,0,none⟩),.slice A b.length c] w (d1o p lim f b w):=by
 obtain ⟨⟨lg,fs,sm,tb,rest,nx,hk⟩,hst,hpb⟩:=h
 have hplt:=a0f hk
 obtain ⟨K,hK⟩ : ∃ K,K = pullR lim f:=⟨_,rfl⟩
 rw [<- hK] at hk hst
 obtain ⟨⟨c0,c1,c2,c3,c4,c5,c6,c7,c8⟩,-⟩:=cell9 hk
 have HStp:=Lib.hid (b8V p K.1 w c7)
 by_cases hs : K.1 ≠ 0 /\ K.1 ≠ 3
 · rw [decide_eq_true hs] at HStp
   obtain ⟨e1,e2⟩:=b8Q (limit:=lim) (f:=f) b (by rw [<- hK]; exact hs.2) (by rw [<- hK]; exact hs.1)
   have HE:=Lib.hid (And.intro e1 (And.intro e2 (And.intro hK (And.intro hs (And.intro hk hplt)))))
   clear hst hs e1 e2 hK hk hplt hf hb hap c0 c1 c2 c3 c4 c5 c6 c8
   go_enter Tryz.func58,Tryz.ntmps58
   go_wp2_with fail
   refine HStp.out.mono ?_
   rintro e w1 ⟨rfl,rfl⟩
   go_wp2_with fail
   go_quiet (fail)
   go_wp2_with fail
   go_ret2
   have hb1 : Below w.heap.size w (w.drewN nq):=a0b (Below.refl _ _) _
   have hkk : (pullR lim (f ++ b)).1 = K.1:=by rw [HE.out.1,HE.out.2.2.1]
   refine ⟨none,0,[],?_,by rw [HE.out.2.1,List.append_nil],Kd.R_nil _ _ _ _ _,⟨⟨lg,fs,sm,tb,rest,nx,?_⟩,λ h=>?_,HE.out.2.2.2.2.2⟩,Only.of_below hb1⟩
   · rw [hkk]; unfold errF; rw [if_neg HE.out.2.2.2.1.2]; rfl
   · rw [hkk,HE.out.2.1,<- HE.out.2.2.1]; exact a0g HE.out.2.2.2.2.1 hb1
   · rw [hkk] at h; exact absurd h (by rintro (h | h); exact HE.out.2.2.2.1.1 h; exact HE.out.2.2.2.1.2 h)
 · rw [decide_eq_false hs] at HStp
   have hs' : K.1 = 0 \/ K.1 = 3:=by
    by_cases h0 : K.1 = 0
    · exact .inl h0
    · exact .inr (Classical.byContradiction λ h=>hs ⟨h0,h⟩)
   obtain ⟨g1,g2,g3,g4⟩:=a5E lim hf
   rw [<- hK] at g1 g2 g3 g4
   clear hk c0 c1 c2 c3 c4 c5 c6 c7 c8 hs
   obtain ⟨t,Ar,cr,hk,ht,htp,hr,ha,hpb2⟩:=hst hs'
   obtain ⟨⟨c0,c1,c2,c3,c4,c5,c6,c7,c8⟩,f0,f1,f2,f3,f4,f5,f6,f7,f8⟩:=cell9 (a0j hk (.cells #[] 5))
   have HE0 : Hid ((Kd.int .u8).R 5 (w.alloc (.cells #[] 5)) w.heap.size (λ _=>True) (.slice (some ⟨w.heap.size,0,none⟩) 0 0) []):=a2A .u8 5 w w.heap.size (λ _=>True) trivial (Nat.le_refl _) [] (by decide)
   have HB0 : Hid (Below w.heap.size w (w.alloc (.cells #[] 5))):=(Below.refl _ _).alloc (Nat.le_refl _) _
   have HRow0 : Hid ((Kd.int .u8).C (w.alloc (.cells #[] 5)) Ar K.2.rest.length K.2.rest):=Kd.C_alloc hr.row _
   have HL1 : Hid (([] : List Int).length + K.2.rest.length <= 140737488355328):=Lib.hid (by simp; omega)
   have HL2 : Hid (K.2.rest.length + b.length <= 140737488355328):=Lib.hid (by omega)
   have HM:=Lib.hid (λ m (hm : leftP (addP K.2 b) < m)=>by have:=b1G lim f b (m:=m) (by rw [<- hK]; exact hm); rw [<- hK] at this; exact this)
   have hgr:=a5E lim (f:=f ++ b) (λ z hz=>(List.mem_append.1 hz).elim (hf z) (hb.by' z))
   rw [List.length_append] at hgr
   obtain ⟨Rr,hRr⟩ : ∃ R,R = pullR lim (f ++ b):=⟨_,rfl⟩
   rw [<- hRr] at HM hgr
   have H0:=Lib.hid (And.intro hk (And.intro ht (And.intro htp (And.intro hr (And.intro hb (And.intro hap (And.intro hplt hpb)))))))
   have HG:=Lib.hid (And.intro g1 (And.intro g2 (And.intro g3 (And.intro (g4 hL) (And.intro hRr (And.intro hK hgr.2.2.1))))))
   obtain ⟨r0,hr0⟩ : ∃ r,r = K.2.rest:=⟨_,rfl⟩
   rw [<- hr0] at c1 HRow0 HL1 HL2
   have HR0:=Lib.hid hr0
   clear hst hs' g1 g2 g3 g4 hk ht htp hr ha hpb2 hK hRr hgr hf hb hap hplt hr0
   go_enter Tryz.func58,Tryz.ntmps58
   go_wp2_with fail
   refine HStp.out.mono ?_
   rintro e w1 ⟨rfl,rfl⟩
   go_wp2_with (at_builtin; first
    | (refine app8 rfl rfl rfl rfl HE0 HRow0 HB0 HB0.out.size HL1 ?_
       intro A3 c3' w3 hr3 hb3 _
       rw [List.nil_append] at hr3
       have e3 : ([] : List Int).length + r0.length = r0.length:=by simp
       rw [e3] at hr3 ⊢
       have HO3:=Lib.hid hr3
       have HB3:=Lib.hid hb3
       have HC3:=Lib.hid (Kd.C_below H0.out.2.2.2.2.1.row hb3)
       clear hr3 hb3 e3)
    | (refine app8 rfl rfl rfl rfl HO3 HC3 HB3 HB3.out.size HL2 ?_
       intro A4 c4' w4 hr4 hb4 _
       have H4:=Lib.hid (And.intro hr4 hb4)
       have k4:=a0g H0.out.1 hb4
       obtain ⟨⟨d0,d1,d2,d3,d4,d5,d6,d7,d8⟩,k0,k1,k2,k3,k4',k5,k6,k7,k8⟩:=cell9 k4
       clear hr4 hb4 k4 c0 c1 c2 c3 c4 c5 c6 c7 c8 f0 f1 f2 f3 f4 f5 f6 f7 f8))
   obtain ⟨nr,hnr⟩ : ∃ nr,nr = r0 ++ b:=⟨_,rfl⟩
   have hnl : r0.length + b.length = nr.length:=by rw [hnr,List.length_append]
   rw [hnl]
   obtain ⟨W1,hW1⟩ : ∃ W1,W1 = w4.setCell ⟨p,1,none⟩ (.slice A4 nr.length c4'):=⟨_,rfl⟩
   rw [<- hW1]
   have ho41 : Only (λ k=>k = p) w4 W1:=by rw [hW1]; exact (Only.refl (λ k=>k = p) w4).setCell (p:=⟨p,1,none⟩) rfl _
   have hr4:=H4.out.1
   rw [hnl,<- hnr] at hr4
   have hr1 : (Kd.int .u8).R 5 W1 w.heap.size (λ _=>True) (.slice A4 nr.length c4') nr:=a1w hr4 ho41 (λ k hk h=>by have:=H0.out.2.2.2.2.2.2.1; omega)
   have hnb : Bytes nr:=by rw [hnr]; exact λ z hz=>(List.mem_append.1 hz).elim (by rw [HR0.out]; exact HG.out.2.1 z) (H0.out.2.2.2.2.1.by' z)
   have ho1 : Only (λ k=>k = p) w W1:=(Only.of_below H4.out.2).trans ho41
   have hAt : PullAt p (λ j=>w.heap.size <= j /\ j < W1.heap.size) lim (addP K.2 b) K.1 W1:=by
    have er : (addP K.2 b).rest = nr:=by rw [hnr,HR0.out]; rfl
    refine ⟨t,A4,c4',?_,(ho1.block t (a0f H0.out.2.1) (by have:=H0.out.2.2.1; omega)).trans H0.out.2.1,H0.out.2.2.1,by rw [er]; exact BSl.of hr1 hnb,?_,λ h=>by have:=H0.out.2.2.2.2.2.2.1; omega⟩
    · rw [er,hW1]; exact (a0k (a0g H0.out.1 H4.out.2) 1 _).trans rfl
    · intro _ ad ha
      have h1:=(Kd.R_bound hr1).1 ad.block (by rw [ha]; rfl)
      exact ⟨h1.2.1,h1.2.2.1⟩
   have HI : Hid (PLoop p lim K.2.x Rr w W1 true [] none 0 W1):=Lib.hid ⟨Kd.R_nil _ _ _ _ _,⟨addP K.2 b,K.1,leftP (addP K.2 b) + 1,hAt,(List.append_nil _).symm,by
       have er : (addP K.2 b).rest = nr:=by rw [hnr,HR0.out]; rfl
       rw [er]; exact hnb,HG.out.1,by
       have er : (addP K.2 b).rest = nr:=by rw [hnr,HR0.out]; rfl
       rw [er,<- hnl,HR0.out]; have:=HG.out.2.2.1; show K.2.x.length + _ <= _; omega,HG.out.2.2.2.1,λ _=>⟨(HM.out _ (Nat.lt_succ_self _)).symm,Nat.lt_succ_self _⟩,(λ h=>by cases h)⟩,Only.refl _ _⟩
   have HW1:=Lib.hid (And.intro ho1 (Nat.le_trans H4.out.2.size ho41.size))
   clear hnr hnl hW1 ho41 hr4 hr1 hnb ho1 hAt d0 d1 d2 d3 d4 d5 d6 d7 d8 k0 k1 k2 k3 k4' k5 k6 k7 k8
   go_loopw [6,7,8] (λ ov onv _ wr=>∃ (Lo : List Int) (Ao : Option Addr) (co : Nat) (on : Bool),ov = .slice Ao Lo.length co /\ onv = .bool on /\ Hid (PLoop p lim K.2.x Rr w W1 on Lo Ao co wr)) (λ _ onv _ wr=>slN ((wr.cell? ⟨p,1,none⟩).getD undef) + phM ((wr.cell? ⟨p,8,none⟩).getD undef) + onN onv)
   case atStart=>exact ⟨[],none,0,true,rfl,rfl,HI⟩
   case round=>
    obtain ⟨Lo,Ao,co,on,rfl,rfl,H⟩:=hrel
    obtain ⟨s,k,n,hAt,hx,hrb,hxb,hrl,hxl,hon,hoff⟩:=H.out.st
    cases on with
    | true=>
     obtain ⟨hrun,hleft⟩:=hon rfl
     have hcell:=hAt
     obtain ⟨t',Ar',cr',hk',-⟩:=hcell
     have m1 : slN ((wr.cell? ⟨p,1,none⟩).getD undef) + phM ((wr.cell? ⟨p,8,none⟩).getD undef) + onN (.bool true) = leftP s + 1:=by
      rw [show wr.cell? ⟨p,1,none⟩ = some (.slice Ar' s.rest.length cr') from (a0a hk' 1).trans rfl,show wr.cell? ⟨p,8,none⟩ = some (pullV p s.ph) from (a0a hk' 8).trans rfl,Option.getD_some,Option.getD_some,phM_v]
      rfl
     obtain ⟨F,hF,hF8,hT⟩ : ∃ F,(F = 99 \/ F = 141 \/ F = 189) /\ wr.cell? ⟨p,8,none⟩ = some (.func (.func F) #[.pointer (some ⟨p,0,none⟩)] #[]) /\ Calls Tryz.prog F #[.pointer (some ⟨p,0,none⟩)] wr (a5F p (λ j=>w.heap.size <= j /\ j < W1.heap.size) lim s k (stepP lim s) wr):=by
      have h8 : wr.cell? ⟨p,8,none⟩ = some (pullV p s.ph):=(a0a hk' 8).trans rfl
      by_cases h0 : s.ph = 0
      · exact ⟨_,.inl rfl,by rw [h8,b8W h0],d1f p _ lim s k wr hAt h0 hL hL2 (by omega)⟩
      · by_cases h1 : s.ph = 1
        · exact ⟨_,.inr (.inl rfl),by rw [h8,b8X h1],d1n p _ lim s k wr hAt h1 hxl hL2 (by omega) hxb⟩
        · exact ⟨_,.inr (.inr rfl),by rw [h8,b8Y h0 h1],d1j p _ lim s k wr hAt h0 h1⟩
     have HT:=Lib.hid hT
     have HS:=Lib.hid (And.intro hx (And.intro hrb (And.intro hxb (And.intro hrl (And.intro hxl (And.intro hrun (And.intro hleft m1)))))))
     obtain ⟨on',k',s',hst⟩ : ∃ on' k' s',stepP lim s = (on',k',s'):=⟨_,_,_,rfl⟩
     have HSt:=Lib.hid hst
     rw [hst] at HT
     unfold a5F at HT
     dsimp only at HT
     clear hAt hx hrb hxb hrl hxl hon hoff hrun hleft hk' hT hst
     rcases hF with rfl | rfl | rfl
     all_goals
      go_wp2_with fail
      refine HT.out.mono ?_
      rintro e w5 ⟨A5,c5',y,rfl,hx5,hy5,hat5,ho5⟩
      have hcell:=hat5
      obtain ⟨t5,Ar5,cr5,hk5,-⟩:=hcell
      obtain ⟨⟨-,-,-,-,-,-,-,c7,-⟩,-,-,-,-,-,-,-,f7,-⟩:=cell9 hk5
      have hpW : p < W1.heap.size:=by have:=H0.out.2.2.2.2.2.2.1; have:=HW1.out.2; omega
      obtain ⟨w6,hw6⟩ : ∃ w6,w6 = w5.setCell ⟨p,7,none⟩ (.int .i64 k'):=⟨_,rfl⟩
      have ho56 : Only (λ k=>k = p) w5 w6:=by rw [hw6]; exact (Only.refl (λ k=>k = p) w5).setCell (p:=⟨p,7,none⟩) rfl _
      have hat6 : PullAt p (λ j=>w.heap.size <= j /\ j < W1.heap.size) lim s' k' w6:=by rw [hw6]; exact hat5.err k'
      have ho6 : Only (λ k=>k = p) wr w6:=ho5.trans ho56
      have HO6 : Hid ((Kd.int .u8).R 5 w6 W1.heap.size (λ _=>True) (.slice Ao Lo.length co) Lo):=Lib.hid (a1w H.out.out ho6 (λ k hk h=>by omega))
      have hy6 : (Kd.int .u8).R 5 w6 wr.heap.size (λ _=>True) (.slice A5 y.length c5') y:=a1w hy5 ho56 (λ k hk h=>by have:=H.out.on.size; omega)
      have HC6 : Hid ((Kd.int .u8).C w6 A5 y.length y):=Lib.hid (Kd.R_reads' hy6).2.2
      have HB6 : Hid (Below W1.heap.size w6 w6):=Lib.hid (Below.refl _ _)
      have HS6 : Hid (W1.heap.size <= w6.heap.size):=Lib.hid (Nat.le_trans H.out.on.size ho6.size)
      obtain ⟨z,e1,e2,e3,e4,e5,e6,e7⟩:=b8R lim s HS.out.2.1
      rw [HSt.out] at e1 e3 e4 e5 e7
      dsimp only at e1 e3 e4 e5 e7
      have hzy : z = y:=List.append_cancel_left (e1.symm.trans hx5)
      subst hzy
      have HZ : Hid (Lo.length + z.length <= 140737488355328):=Lib.hid (by
       have h1 : s'.x.length = K.2.x.length + (Lo.length + z.length):=by rw [e1,HS.out.1,List.length_append,List.length_append]; omega
       have h2:=HS.out.2.2.2.1
       have h3 : s'.x.length = s.x.length + z.length:=by rw [e1,List.length_append]
       omega)
      have hsz : s'.x.length + 131072 * s'.rest.length <= 131072000000:=by
       have h2:=HS.out.2.2.2.1
       have h3 : s'.x.length = s.x.length + z.length:=by rw [e1,List.length_append]
       omega
      have H6:=Lib.hid (And.intro hat6 (And.intro ho6 (And.intro e1 (And.intro e2 (And.intro e3 (And.intro hsz (And.intro (e7 HS.out.2.2.2.2.1) hpW)))))))
      clear hat5 ho5 hx5 hy5 hk5 ho56 hat6 ho6 hy6 e1 e2 e3 e4 e5 e6 e7 hpW
      go_wp2_with (at_builtin; first
       | (rw [<- hw6]; refine app8 rfl rfl rfl rfl HO6 HC6 HB6 HS6.out HZ ?_; intro A7 c7' w7 hr7 hb7 hg7; have HR7:=Lib.hid (And.intro hr7 (And.intro hb7 hg7)); clear hr7 hb7 hg7))
      clear hw6
      have hown : ∀ j,(Value.slice Ao Lo.length co).ownBlock = some j -> W1.heap.size <= j:=λ j hj=>((Kd.R_bound HO6.out).1 j hj).2.1
      have hat7 : PullAt p (λ j=>w.heap.size <= j /\ j < W1.heap.size) lim s' k' w7:=by
       obtain ⟨t,Ar,cr,hk,ht,htp,hr,ha,hpb⟩:=H6.out.1
       have hne : ∀ j,j < W1.heap.size -> some j ≠ (Value.slice Ao Lo.length co).ownBlock:=λ j hj e=>by have:=hown j e.symm; omega
       exact ⟨t,Ar,cr,a0M hk HR7.out.2.2 (hne p H6.out.2.2.2.2.2.2.2),a0M ht HR7.out.2.2 (hne t (by have:=H6.out.2.2.2.2.2.2.2; omega)),htp,⟨a5u hr.row (λ hn ad h0=>HR7.out.2.2.block _ (a5v hr.row hn h0) (hne _ (ha hn ad h0).2)),hr.cap,hr.nil,hr.by'⟩,ha,hpb⟩
      have ho7 : Only (λ k=>k = p) W1 w7:=(H.out.on.trans H6.out.2.1).behind HR7.out.2.1 (Nat.le_refl _)
      have hcell:=hat7
      obtain ⟨t7,Ar7,cr7,hk7,-⟩:=hcell
      have m2 : slN ((w7.cell? ⟨p,1,none⟩).getD undef) + phM ((w7.cell? ⟨p,8,none⟩).getD undef) = leftP s':=by
       rw [show w7.cell? ⟨p,1,none⟩ = some (.slice Ar7 s'.rest.length cr7) from (a0a hk7 1).trans rfl,show w7.cell? ⟨p,8,none⟩ = some (pullV p s'.ph) from (a0a hk7 8).trans rfl,Option.getD_some,Option.getD_some,phM_v]
       rfl
      have hx7 : s'.x = K.2.x ++ (Lo ++ z):=by rw [H6.out.2.2.1,HS.out.1,List.append_assoc]
      have hxb7 : Bytes s'.x:=by rw [H6.out.2.2.1]; exact λ q hq=>(List.mem_append.1 hq).elim (HS.out.2.2.1 q) (H6.out.2.2.2.1 q)
      have HF7:=Lib.hid (And.intro hat7 (And.intro ho7 (And.intro m2 (And.intro hx7 hxb7))))
      clear hat7 ho7 hk7 m2 hx7 hxb7 hown
      obtain ⟨n,rfl⟩ : ∃ m,n = m + 1:=⟨n - 1,by have:=HS.out.2.2.2.2.2.2.1; omega⟩
      go_roundw
      case rel=>
       refine ⟨Lo ++ z,A7,c7',on',by rw [List.length_append],rfl,Lib.hid ⟨by rw [List.length_append]; exact HR7.out.1,⟨s',k',n,HF7.out.1,HF7.out.2.2.2.1,H6.out.2.2.2.2.1,HF7.out.2.2.2.2,H6.out.2.2.2.2.2.1,H6.out.2.2.2.2.2.2.1,λ h=>?_,λ h=>?_⟩,HF7.out.2.1⟩⟩
       · subst h
         have hg:=a4C (limit:=lim) (s:=s) (by rw [HSt.out])
         rw [HSt.out] at hg
         have hr:=HS.out.2.2.2.2.2.1
         rw [b1F n (by rw [HSt.out]),HSt.out] at hr
         exact ⟨hr,by have:=HS.out.2.2.2.2.2.2.1; dsimp only at hg; omega⟩
       · subst h
         have hr:=HS.out.2.2.2.2.2.1
         have hss:=b1E (limit:=lim) (s:=s) (by rw [HSt.out]; exact Bool.false_ne_true)
         rw [HSt.out] at hss
         dsimp only at hss
         rw [a8s n (by rw [HSt.out]; exact Bool.false_ne_true),HSt.out] at hr
         rw [<- hr,hss]
      case measure=>
       rw [HF7.out.2.2.1,HS.out.2.2.2.2.2.2.2]
       cases on' with
       | true=>
        have hg:=a4C (limit:=lim) (s:=s) (by rw [HSt.out])
        rw [HSt.out] at hg
        show leftP s' + 1 < leftP s + 1
        exact Nat.succ_lt_succ hg
       | false=>
        have hss:=b1E (limit:=lim) (s:=s) (by rw [HSt.out]; exact Bool.false_ne_true)
        rw [HSt.out] at hss
        dsimp only at hss
        rw [hss]
        exact Nat.lt_succ_self _
    | false=>
     have hR:=hoff rfl
     have hcell:=hAt
     obtain ⟨t',Ar',cr',hk',-⟩:=hcell
     obtain ⟨⟨-,-,-,-,-,-,-,c7,-⟩,-⟩:=cell9 hk'
     have HSp:=Lib.hid (b8V p k wr c7)
     have hfin : pullR lim (f ++ b) = (k,s):=by rw [<- HG.out.2.2.2.2.1,hR]
     have hon1 : Only (λ k=>k = p) w wr:=HW1.out.1.trans H.out.on
     have hOut : (Kd.int .u8).R 5 wr w.heap.size (λ _=>True) (.slice Ao Lo.length co) Lo:=Kd.R_lower H.out.out HW1.out.2
     have hSt : ∀ W,Below wr.heap.size wr W -> PullSt p w.heap.size lim (f ++ b) W:=λ W hW=>by
      unfold PullSt
      rw [hfin]
      exact ⟨(hAt.below hW).cells,λ _=>(hAt.below hW).mono (λ j hj=>hj.1) (by have:=H0.out.2.2.2.2.2.2.1; omega),H0.out.2.2.2.2.2.2.1⟩
     have HZ:=Lib.hid (And.intro hfin (And.intro hon1 (And.intro hOut (And.intro hSt hx))))
     clear hAt hx hrb hxb hrl hxl hon hoff hR hk' hfin hon1 hOut hSt
     go_wp2_with fail
     refine HSp.out.mono ?_
     rintro e w8 ⟨rfl,rfl⟩
     by_cases hk : k ≠ 0 /\ k ≠ 3
     · rw [decide_eq_true hk]
       have hkE:=Lib.hid (show errF k = k by unfold errF; exact if_neg hk.2)
       clear hk
       go_wp2_with fail
       go_quiet (fail)
       go_wp2_with fail
       go_ret2
       have hb8 : Below wr.heap.size wr (wr.drewN nq):=a0b (Below.refl _ _) _
       refine ⟨Ao,co,Lo,?_,by rw [HZ.out.1,<- HG.out.2.2.2.2.2.1]; exact HZ.out.2.2.2.2,Kd.R_below HZ.out.2.2.1 hb8,HZ.out.2.2.2.1 _ hb8,HZ.out.2.1.trans (Only.of_below hb8)⟩
       rw [HZ.out.1]
       show _ = Ending.returned (.tuple #[_,.int .i64 (errF k)])
       rw [hkE.out]
       rfl
     · rw [decide_eq_false hk]
       have hkE:=Lib.hid (show errF k = 0 by
        unfold errF
        split
        · rfl
        · rename_i h3
          exact Classical.byContradiction λ h=>hk ⟨h,h3⟩)
       clear hk
       go_wp2_with fail
       go_ret2
       refine ⟨Ao,co,Lo,?_,by rw [HZ.out.1,<- HG.out.2.2.2.2.2.1]; exact HZ.out.2.2.2.2,HZ.out.2.2.1,HZ.out.2.2.2.1 _ (Below.refl _ _),HZ.out.2.1⟩
       rw [HZ.out.1]
       show _ = Ending.returned (.tuple #[_,.int .i64 (errF k)])
       rw [hkE.out]
       rfl
theorem BSl.empty_ (w : World) : BSl w none 0 []:=⟨(Kd.R_reads' (Kd.R_nil (Kd.int .u8) 5 w w.heap.size (λ _=>True))).2.2,Nat.le_refl _,λ _=>rfl,λ x hx=>by cases hx⟩
theorem d1q : a0F 0 [] = 0:=by decide
theorem b1J {p b1 t : Nat} {lim : Int} {W : World} (hk : PullC p lim 0 true 0 0 3 (.pointer (some ⟨t,0,none⟩)) (.slice none 0 0) (pullV p 0) W) (ht : TabAt t 256 W) (htp : t < p) (hp : p < b1) : PullSt p b1 lim [] W:=by
 unfold PullSt
 rw [d0W]
 refine ⟨⟨_,_,_,_,_,_,hk⟩,λ _=>⟨t,none,0,?_,ht,htp,BSl.empty_ _,λ h=>absurd h (Nat.lt_irrefl 0),by show ¬ b1 <= p; omega⟩,hp⟩
 rw [show start0.x = [] from rfl,d1q]
 exact hk
def d1r (lim : Int) (w : World) (e : Ending) (w' : World) : Prop:=∃ p t,e = .returned (.tuple #[.pointer (some ⟨p,0,none⟩),.int .i64 0]) /\ PullC p lim 0 true 0 0 3 (.pointer (some ⟨t,0,none⟩)) (.slice none 0 0) (pullV p 0) w' /\ TabAt t 256 w' /\ w.heap.size <= t /\ t < p /\ Below w.heap.size w w'
set_option maxRecDepth 100000 in
set_option maxHeartbeats 1000000 in
theorem b8Z (lim : Int) (w : World) (hL : 0 <= lim) :
    Calls Tryz.prog 57 #[.int .i64 lim] w (d1r lim w):=by
 have hmf : ∀ (fn : Fn) (first cap : Array Value) (w : World),(Instr.makeFunc fn first cap).run Tryz.prog w = .ok (.func fn first cap) w:=λ _ _ _ _=>rfl
 have d1 : ¬ lim < 0:=by omega
 clear hL
 go_enter Tryz.func57,Tryz.ntmps57
 go_wp2_with fail
 refine (a3Z w).mono ?_
 rintro e w2 ⟨t,rfl,ht1,ht2,hb2⟩
 have H2:=Lib.hid (And.intro ht1 (And.intro ht2 hb2))
 clear ht1 ht2 hb2
 go_wp2_with fail
 go_ret2
 have hb3:=(Below.refl w2.heap.size w2).alloc (Nat.le_refl _) (.cells #[.int .i64 lim,.slice none 0 0,.int .i64 0,.bool true,.pointer (some ⟨t,0,none⟩),.int .u32 0,.int .i64 0,.int .i64 3,pullV w2.heap.size 0] 128)
 exact ⟨w2.heap.size,t,rfl,a0i w2 _,H2.out.2.1.later hb3,H2.out.1,a0f H2.out.2.1,a0h H2.out.2.2 hb3⟩
def d1s (lim : Int) (w : World) (e : Ending) (w' : World) : Prop:=∃ p,e = .returned (.tuple #[.pointer (some ⟨p,0,none⟩),.int .i64 0]) /\ PullSt p (p + 1) lim [] w' /\ w.heap.size <= p /\ Below w.heap.size w w'
theorem b1K (lim : Int) (w : World) (hL : 0 <= lim) :
    Calls Tryz.prog 57 #[.int .i64 lim] w (d1s lim w):=by
 refine (b8Z lim w hL).mono ?_
 rintro e w' ⟨p,t,rfl,hk,ht,hwt,htp,hb⟩
 exact ⟨p,rfl,b1J hk ht htp (Nat.lt_succ_self _),by omega,hb⟩
theorem PullSt.cells {p b0 : Nat} {lim : Int} {f : List Int} {w : World} (h : PullSt p b0 lim f w) (hL : 0 <= lim) : w.cell? ⟨p,7,none⟩ = some (.int .i64 (a0o f lim).1) /\ w.cell? ⟨p,6,none⟩ = some (.int .i64 (a0o f lim).2.length):=by
 obtain ⟨⟨lg,fs,sm,tb,rest,nx,hk⟩,-,-⟩:=h
 obtain ⟨⟨c0,c1,c2,c3,c4,c5,c6,c7,c8⟩,-⟩:=cell9 hk
 rw [a2o hL f]
 exact ⟨c7,c6⟩
theorem a5G (p : Nat) (k : Int) (w : World) (h : w.cell? ⟨p,7,none⟩ = some (.int .i64 k)) :
    Calls Tryz.prog 61 #[.pointer (some ⟨p,0,none⟩)] w (λ e w'=>e = .returned (.int .i64 k) /\ w = w'):=by
 go_enter Tryz.func61,Tryz.ntmps61
 go_wp2_with fail
 go_ret
 exact ⟨rfl,rfl⟩
theorem b9a (p : Nat) (k : Int) (w : World) (h : w.cell? ⟨p,6,none⟩ = some (.int .i64 k)) :
    Calls Tryz.prog 60 #[.pointer (some ⟨p,0,none⟩)] w (λ e w'=>e = .returned (.int .i64 k) /\ w = w'):=by
 go_enter Tryz.func60,Tryz.ntmps60
 go_wp2_with fail
 go_ret
 exact ⟨rfl,rfl⟩
theorem PullSt.lt {p b0 : Nat} {lim : Int} {f : List Int} {w : World} (h : PullSt p b0 lim f w) : p < w.heap.size:=by
 obtain ⟨⟨lg,fs,sm,tb,rest,nx,hk⟩,-,-⟩:=h
 exact a0f hk
theorem PullSt.low {p b0 b1 : Nat} {lim : Int} {f : List Int} {w : World} (h : PullSt p b0 lim f w) (hb : b1 <= b0) (hp : p < b1) : PullSt p b1 lim f w:=
 ⟨h.1,λ hk=>(h.2.1 hk).mono (λ _ hj=>Nat.le_trans hb hj) (by omega),hp⟩
theorem PullSt.keep {p b0 : Nat} {lim : Int} {f : List Int} {w w' : World} {S : Nat -> Prop} (h : PullSt p b0 lim f w) (ho : Only S w w') (hS : ∀ k,S k -> p < k /\ k < b0) : PullSt p b0 lim f w':=by
 obtain ⟨⟨lg,fs,sm,tb,rest,nx,hk⟩,h2,h3⟩:=h
 exact ⟨⟨lg,fs,sm,tb,rest,nx,(ho.block p (a0f hk) (λ h=>by have:=(hS p h).1; omega)).trans hk⟩,λ hk=>(h2 hk).keep ho (λ k hk=>⟨(hS k hk).1,λ h=>by have:=(hS k hk).2; omega⟩),h3⟩
theorem PullSt.below {p b0 : Nat} {lim : Int} {f : List Int} {w w' : World} (h : PullSt p b0 lim f w) (hb : Below w.heap.size w w') : PullSt p b0 lim f w':=
 h.keep (Only.of_below (S:=λ _=>False) hb) (λ _ h=>h.elim)
theorem PullSt.grown {p b0 : Nat} {lim : Int} {f : List Int} {w w' : World} {row : Option Nat} (h : PullSt p b0 lim f w) (hg : w.grownBy w' row) (hr : ∀ k,row = some k -> p < k /\ k < b0) : PullSt p b0 lim f w':=by
 obtain ⟨⟨lg,fs,sm,tb,rest,nx,hk⟩,h2,h3⟩:=h
 have hne : ∀ k,k <= p \/ b0 <= k -> some k ≠ row:=λ k hk e=>by have:=hr k e.symm; omega
 refine ⟨⟨lg,fs,sm,tb,rest,nx,a0M hk hg (hne p (by omega))⟩,λ hz=>?_,h3⟩
 obtain ⟨t,Ar,cr,hk,ht,htp,hr,ha,hpb⟩:=h2 hz
 exact ⟨t,Ar,cr,a0M hk hg (hne p (by omega)),a0M ht hg (hne t (by omega)),htp,⟨a5u hr.row (λ hn ad h0=>hg.block _ (a5v hr.row hn h0) (hne _ (.inr (ha hn ad h0)))),hr.cap,hr.nil,hr.by'⟩,ha,hpb⟩
def PFed (p : Nat) (lim : Int) (g : List Int) (k : Int) (y : List Int) (w : World) (e : Ending) (w' : World) : Prop:=
 ∃ A c,e = .returned (.tuple #[.slice A y.length c,.int .i64 (errF k)]) /\ (Kd.int .u8).R 5 w' w.heap.size (λ _=>True) (.slice A y.length c) y /\ PullSt p w.heap.size lim g w' /\ Only (λ k=>k = p) w w'
theorem a2E (p b0 : Nat) (lim : Int) (f b g : List Int) {k : Int} {y X : List Int} (A : Option Addr) (c : Nat) (w : World) (h : PullSt p b0 lim f w) (hL : 0 <= lim) (hL2 : lim < 4611686018427387904) (hf : Bytes f) (hb : BSl w A c b) (hap : Apart p A b) (hl : f.length + b.length <= 1000000) (hg : f ++ b = g) (h0 : (a0o f lim).2 = X) (h1 : a0o g lim = (k,X ++ y)) :
    Calls Tryz.prog 58 #[.pointer (some ⟨p,0,none⟩),.slice A b.length c] w (PFed p lim g k y w):=by
 refine (d1p p b0 lim f b A c w h hL hL2 hf hb hap hl).mono ?_
 rintro e w' ⟨A1,c1,z,rfl,hx,hr,hs,ho⟩
 rw [hg] at hx hs ⊢
 rw [a2o hL] at h0 h1
 have e1 : (pullR lim g).1 = k:=by injection h1
 have e2 : (pullR lim g).2.x = X ++ y:=by injection h1
 rw [show (pullR lim f).2.x = X from h0,e2] at hx
 have : y = z:=List.append_cancel_left hx
 subst this
 rw [e1]
 exact ⟨A1,c1,rfl,hr,hs,ho⟩
theorem b1L {lim : Int} (hL : 0 <= lim) {f : List Int} (hf : Bytes f) (b : List Int) (hb : Bytes b) : ∃ y,(a0o (f ++ b) lim).2 = (a0o f lim).2 ++ y:=by
 rw [a2o hL,a2o hL]
 dsimp only
 by_cases hs : (pullR lim f).1 ≠ 0 /\ (pullR lim f).1 ≠ 3
 · obtain ⟨-,e2⟩:=b8Q (limit:=lim) (f:=f) b hs.2 hs.1
   exact ⟨[],by rw [e2,List.append_nil]⟩
 · rw [b1G lim f b (m:=leftP (addP (pullR lim f).2 b) + 1) (by omega)]
   obtain ⟨g1,g2,-⟩:=a5E lim hf
   obtain ⟨y,h1,-⟩:=b1H lim (leftP (addP (pullR lim f).2 b) + 1) (addP (pullR lim f).2 b) (λ z hz=>(List.mem_append.1 hz).elim (g2 z) (hb z)) (by omega)
   exact ⟨y,h1⟩
theorem OpenPost.out {r : Int × List Int × Nat × Bool} {w : World} {e : Ending} {w' : World} (h : OpenPost r w e w') (hy : Bytes r.2.1) : ∃ A c,e = .returned (.tuple #[.slice A r.2.1.length c,.int .i64 (r.2.2.1 : Nat),.bool r.2.2.2,.int .i64 r.1]) /\ BSl w' A c r.2.1 /\ Below w.heap.size w w':=by
 obtain ⟨A,c,he,hr,hb⟩:=h
 exact ⟨A,c,he,BSl.of hr hy,hb⟩
theorem b555 : Bytes [5,5,5]:=by intro x hx; simp at hx; omega
theorem b9b : bestP [5,5,5] = (1,[5]):=b8n b555 (by decide) (by decide)
theorem a8u : (putM [5,5,5] true).length = 12:=by rw [a0X,b9b]; rfl
theorem d1x (A : Option Addr) (n c k m h : Nat) (hh : h = k + m) (hk : k + m <= n) (hn : n <= c) : ∀ W : World,(Instr.slice 22 (.slice A n c) (some (.int .i64 (k : Int))) (some (.int .i64 (h : Int))) none).run Tryz.prog W = .ok (.slice (if c = k then A else A.map (·.add (k * 1))) m (c - k)) W:=by
 intro W
 obtain ⟨i0,hi0,hz0,hz1,hz2⟩:=info_parts a0E
 have:=b2y (P:=Tryz.prog) 22 5 .i64 .i64 Tryz.underlying22 hi0 1 hz1 A n c (k : Int) (h : Int) (by omega) (by omega) (by omega) hn W
 rw [show (h : Int).toNat - (k : Int).toNat = m by omega,Int.toNat_natCast] at this
 exact this
theorem BSl.off {w : World} {A : Option Addr} {c p : Nat} {x : List Int} (h : BSl w A c x) (hp : w.heap.size <= p) : Apart p A x:=λ hn ad ha=>by
 have:=a5v h.row hn ha
 omega
theorem R_off {W : World} {B n c p : Nat} {A : Option Addr} {xs : List Int} (h : (Kd.int .u8).R 5 W B (λ _=>True) (.slice A n c) xs) (hp : p < B) : Apart p A xs:=by
 intro _ ad ha
 subst ha
 have:=((Kd.R_bound h).1 ad.block rfl).2.1
 omega
theorem d1y : ∃ f,f = encM [5,5,5] 10 /\ f.length = 24 /\ Bytes f /\ a0o (f.take 19) 9 = (3,[]) /\ a0o (f.take 20) 9 = (3,[5,5,5]) /\ a0o f 9 = (0,[5,5,5]):=by
 have hb : blksM (2 ^ 10) ([5,5,5] : List Int).length [5,5,5] = putM [5,5,5] true:=by
  show blksM (2 ^ 10) 3 [5,5,5] = _
  unfold blksM
  rw [if_neg (by decide)]
 have hl : (encM [5,5,5] 10).length = 24:=by
  unfold encM
  rw [hb,List.length_append,List.length_append,a8u,a1L,a2X]
 have hc : ∀ j,j < (encM [5,5,5] 10).length -> a0o ((encM [5,5,5] 10).take j) 9 = (3,([5,5,5] : List Int).take (if j < 8 then 0 else cutN (2 ^ 10) 3 [5,5,5] (j - 8))):=λ j hj=>b7q (x:=[5,5,5]) b555 (by decide) (log:=10) (by decide) hj (by decide)
 have hN : ∀ j,cutN (2 ^ 10) 3 [5,5,5] j = if j < 12 then 0 else 3:=λ j=>by
  unfold cutN
  rw [if_neg (by decide),a8u]
  rfl
 refine ⟨_,rfl,hl,b8t (by decide) b555 (by decide),?_,?_,a8b (x:=[5,5,5]) b555 (by decide) (log:=10) (by decide) (by decide)⟩
 · rw [hc 19 (by rw [hl]; decide),if_neg (by decide),hN]; rfl
 · rw [hc 20 (by rw [hl]; decide),if_neg (by decide),hN]; rfl
set_option maxRecDepth 100000 in
set_option maxHeartbeats 2000000 in
theorem a4I (w : World) : Calls Tryz.prog 56 #[] w (Ret (.bool true) w):=by
 obtain ⟨f,hf,hfl,hfb,p19,p20,p24⟩:=d1y
 have htl : (f.take 19).length = 19:=by rw [List.length_take]; omega
 have hml : ((f.drop 19).take 1).length = 1:=by rw [List.length_take,List.length_drop]; omega
 have hdl : (f.drop 20).length = 4:=by rw [List.length_drop]; omega
 have hj1 : f.take 19 ++ (f.drop 19).take 1 = f.take 20:=(List.take_add (l:=f) (i:=19) (j:=1)).symm
 have hj2 : f.take 20 ++ f.drop 20 = f:=List.take_append_drop _ _
 have HF:=Lib.hid (And.intro hf (And.intro hfl (And.intro hfb (And.intro p19 (And.intro p20 (And.intro p24 (And.intro htl (And.intro hml (And.intro hdl (And.intro hj1 hj2))))))))))
 obtain ⟨w0,hw0⟩ : ∃ w0,w0 = w.alloc (.cells #[.int .u8 5,.int .u8 5,.int .u8 5] 5):=⟨_,rfl⟩
 have HB0 : Hid (Below w.heap.size w w0):=by show Below _ _ _; rw [hw0]; exact (Below.refl _ _).alloc (Nat.le_refl _) _
 have HS0 : Hid (BSl w0 (some ⟨w.heap.size,0,none⟩) 3 [5,5,5]):=by show BSl _ _ _ _; rw [hw0]; exact a4A [5,5,5] b555 (by decide)
 have HE:=a8q (some ⟨w.heap.size,0,none⟩) 3 [5,5,5] 10 w0 HS0.out (by decide) (by decide)
 rw [show ((10 : Nat) : Int) = 10 from rfl,show ([5,5,5] : List Int).length = 3 from rfl,<- hf] at HE
 have HE:=Lib.hid HE
 clear hf hfb p19 p20 p24 htl hml hdl hj1 hj2
 go_enter Tryz.func56,Tryz.ntmps56
 go_wp2_with fail
 rw [<- hw0]
 clear hw0
 refine HE.out.mono ?_
 rintro e w1 ⟨A1,c1,rfl,hr1,hb1⟩
 have hf1:=BSl.of hr1 HF.out.2.2.1
 rw [hfl]
 have HN:=Lib.hid (b1K 9 w1 (by decide))
 have hs1:=a3E A1 24 c1 19 (by decide) (by rw [<- hfl]; exact hf1.cap)
 have hs2:=d1x A1 24 c1 19 1 20 rfl (by decide) (by rw [<- hfl]; exact hf1.cap)
 have hs3:=a2c A1 24 c1 20 (by decide)
 obtain ⟨A2,hA2⟩ : ∃ A2,A2 = (if c1 = 19 then A1 else A1.map (·.add (19 * 1))):=⟨_,rfl⟩
 obtain ⟨A3,hA3⟩ : ∃ A3,A3 = (if c1 = 20 then A1 else A1.map (·.add (20 * 1))):=⟨_,rfl⟩
 have HX:=Lib.hid (And.intro (hf1.cut (k:=19) (by omega)) (And.intro ((hf1.from_ (k:=19) (by omega)).cut (k:=1) (by rw [List.length_drop]; omega)) (hf1.from_ (k:=20) (by omega))))
 rw [<- hA2] at hs2 HX
 rw [<- hA3] at hs3 HX
 have hs1 : ∀ W : World,(Instr.slice 22 (.slice A1 24 c1) none (some (.int .i64 19)) none).run Tryz.prog W = .ok (.slice A1 19 c1) W:=hs1
 have hs2 : ∀ W : World,(Instr.slice 22 (.slice A1 24 c1) (some (.int .i64 19)) (some (.int .i64 20)) none).run Tryz.prog W = .ok (.slice A2 1 (c1 - 19)) W:=hs2
 have hs3 : ∀ W : World,(Instr.slice 22 (.slice A1 24 c1) (some (.int .i64 20)) none none).run Tryz.prog W = .ok (.slice A3 4 (c1 - 20)) W:=hs3
 have hcap : (24 : Int) <= (c1 : Int):=by have:=hf1.cap; omega
 have HB1:=Lib.hid (a0h HB0.out hb1)
 clear hr1 hb1 hf1 hA2 hA3 hfl
 go_wp2_with fail
 refine HN.out.mono ?_
 rintro e w2 ⟨p,rfl,hst2,hp2,hb2⟩
 have a1:=HX.out.1.off hp2
 have a2:=HX.out.2.1.off hp2
 have a3:=HX.out.2.2.off hp2
 have F1:=a2E p (p + 1) 9 [] (f.take 19) (f.take 19) (k:=3) (y:=[]) (X:=[]) A1 c1 w2 hst2 (by decide) (by decide) (λ x h=>by cases h) (HX.out.1.below hb2) a1 (by rw [HF.out.2.2.2.2.2.2.1]; decide) rfl (by rw [a2o (by decide)]; rfl) HF.out.2.2.2.1
 rw [HF.out.2.2.2.2.2.2.1] at F1
 have F1:=Lib.hid F1
 have HA:=Lib.hid (And.intro a1 (And.intro a2 (And.intro a3 (And.intro hp2 hb2))))
 clear hst2 hp2 hb2 a1 a2 a3
 go_wp2_with fail
 refine F1.out.mono ?_
 rintro e w3 ⟨A4,c4,rfl,hr4,hst3,ho3⟩
 have F2:=a2E p w2.heap.size 9 (f.take 19) ((f.drop 19).take 1) (f.take 20) (k:=3) (y:=[5,5,5]) (X:=[]) A2 (c1 - 19) w3 hst3 (by decide) (by decide) (λ z hz=>HF.out.2.2.1 z (List.mem_of_mem_take hz)) ((HX.out.2.1.below HA.out.2.2.2.2).below' ho3 HA.out.2.1) HA.out.2.1 (by rw [HF.out.2.2.2.2.2.2.1,HF.out.2.2.2.2.2.2.2.1]; decide) HF.out.2.2.2.2.2.2.2.2.2.1 (by rw [HF.out.2.2.2.1]) HF.out.2.2.2.2.1
 rw [HF.out.2.2.2.2.2.2.2.1] at F2
 have F2:=Lib.hid F2
 have HO3:=Lib.hid ho3
 have hp3:=hst3.lt
 have l4 : (([] : List Int).length : Int) = 0:=rfl
 clear hr4 hst3 ho3
 unfold errF
 go_wp2_with fail
 refine F2.out.mono ?_
 rintro e w4 ⟨A5,c5,rfl,hr5,hst4,ho4⟩
 have F3:=a2E p w3.heap.size 9 (f.take 20) (f.drop 20) f (k:=0) (y:=[]) (X:=[5,5,5]) A3 (c1 - 20) w4 hst4 (by decide) (by decide) (λ z hz=>HF.out.2.2.1 z (List.mem_of_mem_take hz)) (((HX.out.2.2.below HA.out.2.2.2.2).below' HO3.out HA.out.2.2.1).below' ho4 HA.out.2.2.1) HA.out.2.2.1 (by rw [HF.out.2.2.2.2.2.2.2.2.1,List.length_take]; omega) HF.out.2.2.2.2.2.2.2.2.2.2 (by rw [HF.out.2.2.2.2.1]) (by rw [HF.out.2.2.2.2.2.1]; rfl)
 rw [HF.out.2.2.2.2.2.2.2.2.1] at F3
 have F3:=Lib.hid F3
 have HV:=Lib.hid (BSl.of hr5 b555)
 have HO4:=Lib.hid ho4
 have hpw : Hid (w.heap.size <= p):=Lib.hid (Nat.le_trans HB1.out.size HA.out.2.2.2.1)
 have hw5a:=Lib.hid (And.intro hr5 hst4)
 clear hr5 hst4 ho4
 unfold errF
 go_wp2_with fail
 refine F3.out.mono ?_
 rintro e w5 ⟨A6,c6,rfl,hr6,hst5,ho5⟩
 obtain ⟨q7,q6⟩:=hst5.cells (by decide)
 rw [HF.out.2.2.2.2.2.1] at q7 q6
 have HFi:=Lib.hid (a5G p 0 w5 q7)
 have HTo:=Lib.hid (b9a p 3 w5 q6)
 have hap5 : Apart p A5 [5,5,5]:=R_off hw5a.out.1 hp3
 have v5 : (convert 22 9 (.slice A5 3 c5)).run Tryz.prog w5 = .ok (.string ⟨#[5,5,5]⟩) w5:=(HV.out.below' ho5 hap5).str
 have HBe : Hid (Below w.heap.size w w5):=Lib.hid (HB1.out.trans ((HA.out.2.2.2.2.mono HB1.out.size).trans ((((HO3.out.trans HO4.out).trans ho5)).below (Nat.le_trans HB1.out.size HA.out.2.2.2.2.size) (λ k hk=>by have:=hpw.out; omega))))
 clear hr6 hst5 ho5 q7 q6 hap5 hp3
 unfold errF
 go_wp2_with fail
 refine HFi.out.mono ?_
 rintro e w6 ⟨rfl,rfl⟩
 go_wp2_with fail
 refine HTo.out.mono ?_
 rintro e w6 ⟨rfl,rfl⟩
 go_wp2_with fail
 go_ret
 exact ⟨rfl,HBe.out⟩
def wantL : List Int:=[80,78,67,72,1,0,0,0]
theorem d1z {i : Nat} (hi : i < 8) (h5 : i ≠ 5) (x : Int) : headE i x = if x = wantL.getD i 0 then 0 else if i < 4 then 8 else if i = 4 then 9 else 4:=by
 have h : i = 0 \/ i = 1 \/ i = 2 \/ i = 3 \/ i = 4 \/ i = 6 \/ i = 7:=by omega
 rcases h with rfl | rfl | rfl | rfl | rfl | rfl | rfl <;> simp [headE,wantL]
theorem d1A (x : Int) : headE 5 x = if 10 <= x /\ x <= 17 then 0 else 5:=by
 unfold headE
 rw [if_neg (by omega),if_neg (by omega)]
 by_cases h : 10 <= x /\ x <= 17
 · rw [if_neg (λ k=>k.2 h),if_neg (λ k=>by omega),if_pos h]
 · rw [if_pos ⟨rfl,h⟩,if_neg h]
set_option maxRecDepth 100000 in
set_option maxHeartbeats 4000000 in
theorem d1B (A : Option Addr) (c : Nat) (f : List Int) (w : World) (hf : BSl w A c f) (hl : f.length <= 140737488355328) :
    Calls Tryz.prog 94 #[.slice A f.length c] w (λ e w'=>e = .returned (.tuple #[.int .i64 (a1I f),.int .i64 (headM f)]) /\ Below w.heap.size w w'):=by
 have HF:=Lib.hid hf
 obtain ⟨n,hn⟩ : ∃ n,n = f.length:=⟨_,rfl⟩
 rw [<- hn] at hl ⊢
 have HN:=Lib.hid hn
 obtain ⟨W0,hW0⟩ : ∃ W0,W0 = w.alloc (.cells #[.int .u8 80,.int .u8 78,.int .u8 67,.int .u8 72,.int .u8 1,.int .u8 0,.int .u8 0,.int .u8 0] 5):=⟨_,rfl⟩
 have HB0 : Hid (Below w.heap.size w W0):=Lib.hid (by rw [hW0]; exact (Below.refl _ _).alloc (Nat.le_refl _) _)
 have HW0 : Hid ((Kd.int .u8).R 5 W0 w.heap.size (λ _=>True) (.slice (some ⟨w.heap.size,0,none⟩) 8 8) wantL):=Lib.hid (by rw [hW0]; exact a2A .u8 5 w w.heap.size (λ _=>True) trivial (Nat.le_refl _) wantL (by decide))
 clear hf hn
 go_enter Tryz.func94,Tryz.ntmps94
 go_wp2_with fail
 rw [<- hW0]
 obtain ⟨g,hg⟩ : ∃ g,g = w.heap.size:=⟨_,rfl⟩
 rw [<- hg] at HW0 ⊢
 have HG:=Lib.hid hg
 clear hW0 hg
 go_loopw [5,36,39] (λ kv _ _ wr=>∃ i : Nat,i <= 8 /\ kv = .int .i64 i /\ Hid (headG f (8 - i) i = headM f /\ SLater W0 wr /\ i <= f.length /\ (5 < i -> 10 <= f.getD 5 0 /\ f.getD 5 0 <= 17))) (λ kv _ _ _=>8 - (intOf kv).toNat)
 case atStart=>exact ⟨0,by omega,rfl,Lib.hid ⟨rfl,Below.refl _ _,Nat.zero_le _,λ h=>by omega⟩⟩
 case round=>
  obtain ⟨i,hi,rfl,H⟩:=hrel
  by_cases hlt : i < 8
  · by_cases hle : i < n
    · obtain ⟨ad,hA,hcx⟩:=a0x (Kd.C_below (Kd.C_below HF.out.row HB0.out) H.out.2.1) i (by have:=HN.out; omega)
      subst hA
      have hbx:=HF.out.by'.get i
      obtain ⟨x,hx⟩ : ∃ x,x = f.getD i 0:=⟨_,rfl⟩
      rw [<- hx] at hcx hbx
      have HX:=Lib.hid hx
      have HL:=Lib.hid (show i < f.length by have:=HN.out; omega)
      have hI8 : (i : Int) < 8:=by omega
      have hIn : ¬ (n : Int) <= (i : Int):=by omega
      have hIn2 : (i : Int) < (n : Int):=by omega
      by_cases h5 : i = 5
      · subst h5
        have e1 : ad.add 5 = ⟨ad.block,ad.off + 5,none⟩:=rfl
        rw [e1] at hcx
        have hE:=d1A x
        rw [hx] at hE
        by_cases hp : 10 <= x /\ x <= 17
        · rw [<- hx,if_pos hp,hx] at hE
          have HE:=Lib.hid (a3p (d:=2) HL.out hE)
          have q1 : decide (x < 10) = false:=decide_eq_false (by omega)
          have q2 : decide (17 < x) = false:=decide_eq_false (by omega)
          have HP:=Lib.hid hp
          clear hE hle hx hlt hi hp
          go_wp2_with fail
          go_roundw
          case rel=>exact ⟨5 + 1,by omega,by go_num,Lib.hid ⟨by rw [<- HE.out]; exact H.out.1,H.out.2.1,HL.out,λ _=>by rw [<- HX.out]; exact HP.out⟩⟩
          case measure=>first | (simp [intOf]; done) | (simp [intOf]; omega)
        · rw [<- hx,if_neg hp,hx] at hE
          have HE:=Lib.hid (a2D (d:=2) HL.out hE (by decide))
          have hd : decide (x < 10) = true \/ (decide (x < 10) = false /\ decide (17 < x) = true):=by
           by_cases h : x < 10
           · exact .inl (decide_eq_true h)
           · exact .inr ⟨decide_eq_false h,decide_eq_true (by omega)⟩
          clear hE hle hx hlt hi hp
          rcases hd with q1 | ⟨q1,q2⟩
          all_goals
           go_wp2_with fail
           go_ret2
           have hM : headM f = 5:=by rw [<- H.out.1]; exact HE.out
           rw [a2n hM (by decide),hM]
           exact ⟨rfl,a0h HB0.out H.out.2.1⟩
      · have hne5 : ((i : Int) == 5) = false:=by simp; omega
        obtain ⟨wc,wf⟩:=a1J (Kd.R_below HW0.out H.out.2.1) i hlt
        have hE:=d1z hlt h5 x
        obtain ⟨y,hy⟩ : ∃ y,y = wantL.getD i 0:=⟨_,rfl⟩
        rw [<- hy] at wc hE
        by_cases hxy : x = y
        · rw [if_pos hxy,hx] at hE
          have HE:=Lib.hid (a3p (d:=7 - i) HL.out hE)
          have q1 : (x == y) = true:=by simp [hxy]
          have HQ:=Lib.hid (show 8 - i = 7 - i + 1 /\ 8 - (i + 1) = 7 - i by omega)
          clear hE hle hx hlt hy hxy
          go_wp2_with fail
          go_quiet (fail)
          go_wp2_with fail
          go_roundw
          case rel=>exact ⟨i + 1,by omega,by go_num,Lib.hid ⟨by rw [HQ.out.2,<- HE.out,<- HQ.out.1]; exact H.out.1,a0b H.out.2.1 _,HL.out,λ h=>H.out.2.2.2 (by omega)⟩⟩
          case measure=>first | (simp [intOf]; done) | (simp [intOf]; omega)
        · rw [if_neg hxy,hx] at hE
          have q1 : (x == y) = false:=by simp [hxy]
          have HQ:=Lib.hid (show 8 - i = 7 - i + 1 by omega)
          by_cases h4 : i < 4
          · rw [if_pos h4] at hE
            have HE:=Lib.hid (a2D (d:=7 - i) HL.out hE (by decide))
            have hI4 : (i : Int) < 4:=by omega
            clear hE hle hx hlt hy hxy h4
            go_wp2_with fail
            go_quiet (fail)
            go_wp2_with fail
            go_ret2
            have hM : headM f = 8:=by rw [<- H.out.1,HQ.out]; exact HE.out
            rw [a2n hM (by decide),hM]
            exact ⟨rfl,a0h HB0.out (a0b H.out.2.1 _)⟩
          · have hI4 : ¬ (i : Int) < 4:=by omega
            rw [if_neg h4] at hE
            by_cases h44 : i = 4
            · rw [if_pos h44] at hE
              have HE:=Lib.hid (a2D (d:=7 - i) HL.out hE (by decide))
              have hI5 : ((i : Int) == 4) = true:=by simp; omega
              clear hE hle hx hlt hy hxy h4 h44
              go_wp2_with fail
              go_quiet (fail)
              go_wp2_with fail
              go_ret2
              have hM : headM f = 9:=by rw [<- H.out.1,HQ.out]; exact HE.out
              rw [a2n hM (by decide),hM]
              exact ⟨rfl,a0h HB0.out (a0b H.out.2.1 _)⟩
            · rw [if_neg h44] at hE
              have HE:=Lib.hid (a2D (d:=7 - i) HL.out hE (by decide))
              have hI5 : ((i : Int) == 4) = false:=by simp; omega
              clear hE hle hx hlt hy hxy h4 h44
              go_wp2_with fail
              go_quiet (fail)
              go_wp2_with fail
              go_ret2
              have hM : headM f = 4:=by rw [<- H.out.1,HQ.out]; exact HE.out
              rw [a2n hM (by decide),hM]
              exact ⟨rfl,a0h HB0.out (a0b H.out.2.1 _)⟩
    · have hI : (n : Int) <= (i : Int):=by omega
      have hI8 : (i : Int) < 8:=by omega
      have hM : headM f = 3:=by
       rw [<- H.out.1,show 8 - i = (7 - i) + 1 by omega]
       unfold headG
       rw [if_pos (by have:=HN.out; omega)]
      have HM:=Lib.hid hM
      clear hM hle
      go_wp2_with fail
      go_ret2
      rw [a2n HM.out (by decide),HM.out]
      exact ⟨rfl,a0h HB0.out H.out.2.1⟩
  · obtain rfl : i = 8:=by omega
    have hM : headM f = 0:=by rw [<- H.out.1]; rfl
    have HM:=Lib.hid hM
    obtain ⟨ad,hA,hcx⟩:=a0x (Kd.C_below (Kd.C_below HF.out.row HB0.out) H.out.2.1) 5 (by have:=H.out.2.2.1; omega)
    subst hA
    have e1 : ad.add 5 = ⟨ad.block,ad.off + 5,none⟩:=rfl
    rw [e1] at hcx
    have hbx:=HF.out.by'.get 5
    obtain ⟨x,hx⟩ : ∃ x,x = f.getD 5 0:=⟨_,rfl⟩
    rw [<- hx] at hcx hbx
    have HX:=Lib.hid hx
    have hw64 : IntKind.i64.wrap x = x:=i64_in _ (by omega)
    have hI5 : (5 : Int) < (n : Int):=by have:=H.out.2.2.1; have:=HN.out; omega
    clear hM hlt hx
    go_wp2_with fail
    go_ret2
    unfold a1I
    rw [HM.out,if_pos rfl,<- HX.out]
    exact ⟨rfl,a0h HB0.out H.out.2.1⟩
def a0U (k n m : Int) (w : World) (e : Ending) (w' : World) : Prop:=e = .returned (.int .i64 (a0v k n m)) /\ w = w'
set_option maxRecDepth 100000 in
theorem d1C (k n m : Int) (w : World) (h : k < 0) : Calls Tryz.prog 31 #[.int .i64 k,.int .i64 n,.int .i64 m] w (a0U k n m w):=by
 unfold a0U
 rw [b1q (by omega)]
 have d:=decide_eq_true h
 clear h
 go_enter Tryz.func31,Tryz.ntmps31
 go_wp2_with fail
 go_ret
 exact ⟨rfl,rfl⟩
set_option maxRecDepth 100000 in
theorem d1D (k n m : Int) (w : World) (h : 3 < k) : Calls Tryz.prog 31 #[.int .i64 k,.int .i64 n,.int .i64 m] w (a0U k n m w):=by
 unfold a0U
 rw [b1q (by omega)]
 have d0 : decide (k < 0) = false:=decide_eq_false (by omega)
 have d:=decide_eq_true h
 clear h
 go_enter Tryz.func31,Tryz.ntmps31
 go_wp2_with fail
 go_ret
 exact ⟨rfl,rfl⟩
set_option maxRecDepth 100000 in
theorem d1E (k n m : Int) (w : World) (hk : 0 <= k /\ k <= 3) (h : n < 0) : Calls Tryz.prog 31 #[.int .i64 k,.int .i64 n,.int .i64 m] w (a0U k n m w):=by
 unfold a0U
 rw [b1r (by omega) (.inl h)]
 have d0 : decide (k < 0) = false:=decide_eq_false (by omega)
 have d1 : decide (3 < k) = false:=decide_eq_false (by omega)
 have d:=decide_eq_true h
 clear h hk
 go_enter Tryz.func31,Tryz.ntmps31
 go_wp2_with fail
 go_ret
 exact ⟨rfl,rfl⟩
set_option maxRecDepth 100000 in
theorem d1F (k n m : Int) (w : World) (hk : 0 <= k /\ k <= 3) (h : 131072 < n) : Calls Tryz.prog 31 #[.int .i64 k,.int .i64 n,.int .i64 m] w (a0U k n m w):=by
 unfold a0U
 rw [b1r (by omega) (.inr h)]
 have d0 : decide (k < 0) = false:=decide_eq_false (by omega)
 have d1 : decide (3 < k) = false:=decide_eq_false (by omega)
 have d2 : decide (n < 0) = false:=decide_eq_false (by omega)
 have d:=decide_eq_true h
 clear h hk
 go_enter Tryz.func31,Tryz.ntmps31
 go_wp2_with fail
 go_ret
 exact ⟨rfl,rfl⟩
set_option maxRecDepth 100000 in
theorem d1G (k n m : Int) (w : World) (hk : k = 0) (hn : 0 <= n /\ n <= 131072) (h : m = n) : Calls Tryz.prog 31 #[.int .i64 k,.int .i64 n,.int .i64 m] w (a0U k n m w):=by
 unfold a0U
 subst hk
 subst h
 rw [a4b (by omega) hn (by unfold mayB; first | (simp; done) | (simp; omega))]
 have d2 : decide (m < 0) = false:=decide_eq_false (by omega)
 have d3 : decide (131072 < m) = false:=decide_eq_false (by omega)
 have hmm : (m != m) = false:=by simp
 clear hn
 go_enter Tryz.func31,Tryz.ntmps31
 go_wp2_with fail
 go_ret
 exact ⟨rfl,rfl⟩
set_option maxRecDepth 100000 in
theorem d1H (k n m : Int) (w : World) (hk : k = 0) (hn : 0 <= n /\ n <= 131072) (h : m ≠ n) : Calls Tryz.prog 31 #[.int .i64 k,.int .i64 n,.int .i64 m] w (a0U k n m w):=by
 unfold a0U
 subst hk
 rw [a2Z (by omega) (by unfold mayB; first | (simp; done) | (simp; omega))]
 have d2 : decide (n < 0) = false:=decide_eq_false (by omega)
 have d3 : decide (131072 < n) = false:=decide_eq_false (by omega)
 have hmm : (m != n) = true:=by simpa using h
 clear h hn
 go_enter Tryz.func31,Tryz.ntmps31
 go_wp2_with fail
 go_ret
 exact ⟨rfl,rfl⟩
set_option maxRecDepth 100000 in
theorem d1I (k n m : Int) (w : World) (hk : k = 1) (hn : 0 <= n /\ n <= 131072) (h : m ≠ 1) : Calls Tryz.prog 31 #[.int .i64 k,.int .i64 n,.int .i64 m] w (a0U k n m w):=by
 unfold a0U
 subst hk
 rw [a2Z (by omega) (by unfold mayB; first | (simp; done) | (simp; omega))]
 have d2 : decide (n < 0) = false:=decide_eq_false (by omega)
 have d3 : decide (131072 < n) = false:=decide_eq_false (by omega)
 have hmm : (m != 1) = true:=by simpa using h
 clear h hn
 go_enter Tryz.func31,Tryz.ntmps31
 go_wp2_with fail
 go_ret
 exact ⟨rfl,rfl⟩
set_option maxRecDepth 100000 in
theorem d1J (k n m : Int) (w : World) (hk : k = 1) (hn : 0 <= n /\ n <= 131072) (h : m = 1) (h2 : n < 2) : Calls Tryz.prog 31 #[.int .i64 k,.int .i64 n,.int .i64 m] w (a0U k n m w):=by
 unfold a0U
 subst hk
 subst h
 rw [a2Z (by omega) (by unfold mayB; first | (simp; done) | (simp; omega))]
 have d2 : decide (n < 0) = false:=decide_eq_false (by omega)
 have d3 : decide (131072 < n) = false:=decide_eq_false (by omega)
 have d:=decide_eq_true h2
 clear h2 hn
 go_enter Tryz.func31,Tryz.ntmps31
 go_wp2_with fail
 go_ret
 exact ⟨rfl,rfl⟩
set_option maxRecDepth 100000 in
theorem d1K (k n m : Int) (w : World) (hk : k = 1) (hn : 0 <= n /\ n <= 131072) (h : m = 1) (h2 : ¬ n < 2) : Calls Tryz.prog 31 #[.int .i64 k,.int .i64 n,.int .i64 m] w (a0U k n m w):=by
 unfold a0U
 subst hk
 subst h
 rw [a4b (by omega) hn (by unfold mayB; first | (simp; done) | (simp; omega))]
 have d2 : decide (n < 0) = false:=decide_eq_false (by omega)
 have d3 : decide (131072 < n) = false:=decide_eq_false (by omega)
 have d:=decide_eq_false h2
 clear h2 hn
 go_enter Tryz.func31,Tryz.ntmps31
 go_wp2_with fail
 go_ret
 exact ⟨rfl,rfl⟩
set_option maxRecDepth 100000 in
theorem d1L (k n m : Int) (w : World) (hk : k = 2) (hn : 0 <= n /\ n <= 131072) (h : m < 1) : Calls Tryz.prog 31 #[.int .i64 k,.int .i64 n,.int .i64 m] w (a0U k n m w):=by
 unfold a0U
 subst hk
 rw [a2Z (by omega) (by unfold mayB; first | (simp; done) | (simp; omega))]
 have d2 : decide (n < 0) = false:=decide_eq_false (by omega)
 have d3 : decide (131072 < n) = false:=decide_eq_false (by omega)
 have d:=decide_eq_true h
 clear h hn
 go_enter Tryz.func31,Tryz.ntmps31
 go_wp2_with fail
 go_ret
 exact ⟨rfl,rfl⟩
set_option maxRecDepth 100000 in
theorem d1M (k n m : Int) (w : World) (hk : k = 2) (hn : 0 <= n /\ n <= 131072) (h : ¬ m < 1) (h2 : n - 1 < m) : Calls Tryz.prog 31 #[.int .i64 k,.int .i64 n,.int .i64 m] w (a0U k n m w):=by
 unfold a0U
 subst hk
 rw [a2Z (by omega) (by unfold mayB; first | (simp; done) | (simp; omega))]
 have d2 : decide (n < 0) = false:=decide_eq_false (by omega)
 have d3 : decide (131072 < n) = false:=decide_eq_false (by omega)
 have d4:=decide_eq_false h
 have d:=decide_eq_true h2
 have hw : IntKind.i64.wrap (n - 1) = n - 1:=i64_in _ (by omega)
 clear h h2
 go_enter Tryz.func31,Tryz.ntmps31
 go_wp2_with fail
 go_ret
 exact ⟨rfl,rfl⟩
set_option maxRecDepth 100000 in
theorem d1N (k n m : Int) (w : World) (hk : k = 2) (hn : 0 <= n /\ n <= 131072) (h : ¬ m < 1) (h2 : ¬ n - 1 < m) : Calls Tryz.prog 31 #[.int .i64 k,.int .i64 n,.int .i64 m] w (a0U k n m w):=by
 unfold a0U
 subst hk
 rw [a4b (by omega) hn (by unfold mayB; first | (simp; done) | (simp; omega))]
 have d2 : decide (n < 0) = false:=decide_eq_false (by omega)
 have d3 : decide (131072 < n) = false:=decide_eq_false (by omega)
 have d4:=decide_eq_false h
 have d:=decide_eq_false h2
 have hw : IntKind.i64.wrap (n - 1) = n - 1:=i64_in _ (by omega)
 clear h h2
 go_enter Tryz.func31,Tryz.ntmps31
 go_wp2_with fail
 go_ret
 exact ⟨rfl,rfl⟩
set_option maxRecDepth 100000 in
theorem d1O (k n m : Int) (w : World) (hk : k = 3) (hn : 0 <= n /\ n <= 131072) (h : m < 1) : Calls Tryz.prog 31 #[.int .i64 k,.int .i64 n,.int .i64 m] w (a0U k n m w):=by
 unfold a0U
 subst hk
 rw [a2Z (by omega) (by unfold mayB; first | (simp; done) | (simp; omega))]
 have d2 : decide (n < 0) = false:=decide_eq_false (by omega)
 have d3 : decide (131072 < n) = false:=decide_eq_false (by omega)
 have d:=decide_eq_true h
 clear h hn
 go_enter Tryz.func31,Tryz.ntmps31
 go_wp2_with fail
 go_ret
 exact ⟨rfl,rfl⟩
set_option maxRecDepth 100000 in
theorem d1P (k n m : Int) (w : World) (hk : k = 3) (hn : 0 <= n /\ n <= 131072) (h : ¬ m < 1) (h2 : n - 1 < m) : Calls Tryz.prog 31 #[.int .i64 k,.int .i64 n,.int .i64 m] w (a0U k n m w):=by
 unfold a0U
 subst hk
 rw [a2Z (by omega) (by unfold mayB; first | (simp; done) | (simp; omega))]
 have d2 : decide (n < 0) = false:=decide_eq_false (by omega)
 have d3 : decide (131072 < n) = false:=decide_eq_false (by omega)
 have d4:=decide_eq_false h
 have d:=decide_eq_true h2
 have hw : IntKind.i64.wrap (n - 1) = n - 1:=i64_in _ (by omega)
 clear h h2
 go_enter Tryz.func31,Tryz.ntmps31
 go_wp2_with fail
 go_ret
 exact ⟨rfl,rfl⟩
set_option maxRecDepth 100000 in
theorem d1Q (k n m : Int) (w : World) (hk : k = 3) (hn : 0 <= n /\ n <= 131072) (h : ¬ m < 1) (h2 : ¬ n - 1 < m) : Calls Tryz.prog 31 #[.int .i64 k,.int .i64 n,.int .i64 m] w (a0U k n m w):=by
 unfold a0U
 subst hk
 rw [a4b (by omega) hn (by unfold mayB; first | (simp; done) | (simp; omega))]
 have d2 : decide (n < 0) = false:=decide_eq_false (by omega)
 have d3 : decide (131072 < n) = false:=decide_eq_false (by omega)
 have d4:=decide_eq_false h
 have d:=decide_eq_false h2
 have hw : IntKind.i64.wrap (n - 1) = n - 1:=i64_in _ (by omega)
 clear h h2
 go_enter Tryz.func31,Tryz.ntmps31
 go_wp2_with fail
 go_ret
 exact ⟨rfl,rfl⟩
theorem b1N (k n m : Int) (w : World) : Calls Tryz.prog 31 #[.int .i64 k,.int .i64 n,.int .i64 m] w (a0U k n m w):=by
 by_cases a1 : k < 0
 · exact d1C k n m w a1
 by_cases a2 : 3 < k
 · exact d1D k n m w a2
 by_cases a3 : n < 0
 · exact d1E k n m w (by omega) a3
 by_cases a4 : 131072 < n
 · exact d1F k n m w (by omega) a4
 have hn : 0 <= n /\ n <= 131072:=by omega
 by_cases k0 : k = 0
 · by_cases h : m = n
   · exact d1G k n m w k0 hn h
   · exact d1H k n m w k0 hn h
 by_cases k1 : k = 1
 · by_cases h : m = 1
   · by_cases h2 : n < 2
     · exact d1J k n m w k1 hn h h2
     · exact d1K k n m w k1 hn h h2
   · exact d1I k n m w k1 hn h
 by_cases h : m < 1
 · by_cases k2 : k = 2
   · exact d1L k n m w k2 hn h
   · exact d1O k n m w (by omega) hn h
 by_cases h2 : n - 1 < m
 · by_cases k2 : k = 2
   · exact d1M k n m w k2 hn h h2
   · exact d1P k n m w (by omega) hn h h2
 · by_cases k2 : k = 2
   · exact d1N k n m w k2 hn h h2
   · exact d1Q k n m w (by omega) hn h h2
def hv (g : List Int) (m : Nat) : Nat -> Nat
 | 0=>0
 | d + 1=>256 * hv g m d + (g.getD (m - 1 - d) 0).toNat
theorem hv_lt {g : List Int} (hg : Bytes g) (m : Nat) : ∀ d,hv g m d < 256 ^ d
 | 0=>by simp [hv]
 | d + 1=>by
  have h1:=hv_lt hg m d
  have h2:=hg.get (m - 1 - d)
  unfold hv
  rw [Nat.pow_succ]
  omega
theorem hv_3 (g : List Int) : hv g 3 3 = rdN g 3:=by
 simp only [hv,rdN,Nat.reduceSub]; omega
theorem hv_4 (g : List Int) : hv g 4 4 = rdN g 4:=by
 simp only [hv,rdN,Nat.reduceSub]; omega
set_option maxRecDepth 100000 in
set_option maxHeartbeats 1000000 in
theorem d1R (A : Option Addr) (c : Nat) (f : List Int) (fr m : Nat) (w : World) (hr : (Kd.int .u8).C w A f.length f) (hf : Bytes f) (hl : f.length <= 140737488355328) (h1 : fr + m <= f.length) (hm : m = 3 \/ m = 4) :
    Calls Tryz.prog 90 #[.slice A f.length c,.int .i64 fr,.int .i64 m] w (λ e w'=>e = .returned (.int .i64 (rdN (f.drop fr) m : Nat)) /\ w = w'):=by
 have HR:=Lib.hid (And.intro hr hf)
 have hE : rdN (f.drop fr) m = hv (f.drop fr) m m:=by rcases hm with rfl | rfl; (· exact (hv_3 _).symm); (· exact (hv_4 _).symm)
 rw [hE]
 have HG:=Lib.hid (show Bytes (f.drop fr) from λ x hx=>hf x (List.mem_of_mem_drop hx))
 obtain ⟨g,hg⟩ : ∃ g,g = f.drop fr:=⟨_,rfl⟩
 rw [<- hg] at HG ⊢
 have HGe:=Lib.hid hg
 have hm4 : m <= 4:=by omega
 clear hr hf hE hg hm
 go_enter Tryz.func90,Tryz.ntmps90
 go_wp2_with fail
 go_loop [7,8] (λ nv iv=>∃ d : Nat,d <= m /\ nv = .int .i64 (hv g m d : Nat) /\ iv = .int .i64 ((m : Int) - 1 - (d : Int))) (λ _ iv=>((intOf iv) + 1).toNat)
 case atStart=>exact ⟨0,by omega,rfl,by simp⟩
 case round=>
  obtain ⟨d,hd,rfl,rfl⟩:=hrel
  by_cases hlt : d < m
  · have hI : (0 : Int) <= (m : Int) - 1 - (d : Int):=by omega
    obtain ⟨t,ht⟩ : ∃ t,t = m - 1 - d:=⟨_,rfl⟩
    have htI : (m : Int) - 1 - (d : Int) = (t : Int):=by omega
    obtain ⟨r,hr⟩ : ∃ r,r = fr + t:=⟨_,rfl⟩
    have hrI : (fr : Int) + (t : Int) = (r : Int):=by omega
    have hrl : r < f.length:=by omega
    obtain ⟨ad,hA,hcx⟩:=a0x HR.out.1 r hrl
    subst hA
    have hby:=HR.out.2.get r
    obtain ⟨y,hy⟩ : ∃ y : Nat,f.getD r 0 = y:=⟨(f.getD r 0).toNat,by omega⟩
    rw [hy] at hcx hby
    have hlv:=hv_lt HG.out m d
    have hlv2 : hv g m d < 4294967296:=Nat.lt_of_lt_of_le hlv (Nat.le_trans (Nat.pow_le_pow_right (by decide : 256 > 0) (by omega : d <= 4)) (by decide))
    have HN : Hid (hv g m (d + 1) = 256 * hv g m d + y):=Lib.hid (by
     have hgr : g.getD t 0 = y:=by
      rw [HGe.out,<- hy,hr,List.getD_eq_getElem?_getD,List.getElem?_drop,<- List.getD_eq_getElem?_getD]
     show 256 * hv g m d + (g.getD (m - 1 - d) 0).toNat = _
     rw [<- ht,hgr,Int.toNat_natCast])
    obtain ⟨v,hv'⟩ : ∃ v,v = hv g m d:=⟨_,rfl⟩
    rw [<- hv'] at HN hlv2 ⊢
    have hrlI : (r : Int) < (f.length : Int):=by omega
    have hyl : y < 256:=by omega
    rw [htI]
    rw [htI] at hI
    have HTI:=Lib.hid htI
    clear hlv hv' hby hy ht hr htI
    go_wp2_with fail
    go_round
    case rel=>exact ⟨d + 1,by omega,by first | (rw [HN.out]; done) | (rw [HN.out]; go_num),by have:=HTI.out; first | rfl | (congr 1; done) | (congr 1; omega) | go_num⟩
    case measure=>have:=HTI.out; first | (simp [intOf]; done) | (simp [intOf]; omega)
  · obtain rfl : d = m:=by omega
    have hI : ¬ (0 : Int) <= (d : Int) - 1 - (d : Int):=by omega
    go_wp2_with fail
    go_ret
    exact ⟨rfl,rfl⟩
end Go.Proofs.YtflfjpkmjnnodaaGreat
