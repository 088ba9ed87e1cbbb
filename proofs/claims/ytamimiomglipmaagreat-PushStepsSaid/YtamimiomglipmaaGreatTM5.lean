/- The walks of plain.Encode, and of pick's coders. -/
import Derived.Laws.EntriesVeiled
import Derived.Test.YtamimiomglipmaaGreatTM1
import Derived.Test.YtamimiomglipmaaGreatTM4
import Derived.Test.YtamimiomglipmaaGreatTM2
import Derived.Test.YtamimiomglipmaaGreatTS1
import Derived.Test.YtamimiomglipmaaGreatTM0
import Derived.OwnWalk
import Derived.WalkMore
import Derived.ArgAppend
import Derived.Lib.SlBytesConst
namespace Go.Proofs.YtamimiomglipmaaGreat
open Go.RowKit Go.IntWalk Go.Proofs.YtamimiomglipmaaGreatW.PrintWords
theorem c_nil {A : Option Addr} {b : List Int} {w : World} (hr : (Kd.int .u8).C w A b.length b) (h : A = none) : b = []:=by
 rcases Nat.eq_zero_or_pos b.length with h0 | h0
 · exact List.eq_nil_of_length_eq_zero h0
 · obtain ⟨ad,hA,_⟩:=a0u hr 0 h0
   rw [h] at hA; cases hA
theorem a9O {b : List Int} (hl : b.length <= 40000) : a1m 0 b = (0,b):=by
 unfold a1m; rw [if_neg (by omega),if_pos rfl]
theorem a9P {b : List Int} (hl : b.length <= 40000) (ha : a1A b = true) : a1m 1 b = (0,[b.getD 0 0]):=by
 unfold a1m; rw [if_neg (λ h=>by rcases h with h | h | h; (· omega); (· omega); rw [ha] at h; cases h.2),if_neg (by decide)]
theorem b5M {b : List Int} (ha : a1A b = false) : a1m 1 b = (1,[]):=by
 unfold a1m; rw [if_pos (.inr (.inr ⟨rfl,ha⟩))]
theorem Told.nil (k : Int) {w w' : World} (hb : Below w.heap.size w w') : Told k [] w (.returned (.tuple #[.slice none 0 0,.int .i64 k])) w':=⟨none,0,rfl,Kd.R_nil _ _ _ _ _,hb⟩
set_option maxRecDepth 100000 in
set_option maxHeartbeats 400000 in
theorem c5O (A : Option Addr) (c : Nat) (b : List Int) (w : World) (hr : (Kd.int .u8).C w A b.length b) (hl : b.length <= 40000) :
    Calls Tryz.prog 89 #[.int .i64 0,.slice A b.length c] w (Told 0 b w):=by
 have HR:=Lib.hid hr
 have HN:=Lib.hid (c_nil hr)
 have hI : decide ((131072 : Int) < (b.length : Int)) = false:=decide_eq_false (by omega)
 have HL:=Lib.hid hl
 clear hr hl
 go_enter Tryz.func89,Tryz.ntmps89
 go_wp2_with fail
 refine (a5s 0 w).mono ?_
 rintro e w' ⟨rfl,rfl⟩
 go_wp2_with fail
 refine (c5I A c b w HR.out (by have:=HL.out; omega) HN.out).mono ?_
 rintro e w' ⟨v,rfl,hv,hb⟩
 obtain ⟨A1,c1,rfl⟩:=Kd.R_slice hv
 have H1:=Lib.hid (And.intro hv hb)
 clear hv hb
 go_wp2_with fail
 go_ret2
 exact ⟨A1,c1,rfl,H1.out.1,H1.out.2⟩
set_option maxRecDepth 100000 in
set_option maxHeartbeats 400000 in
theorem c5P (A : Option Addr) (c : Nat) (b : List Int) (w : World) (hr : (Kd.int .u8).C w A b.length b) (hl : b.length <= 40000) :
    Calls Tryz.prog 89 #[.int .i64 1,.slice A b.length c] w (Told (a1m 1 b).1 (a1m 1 b).2 w):=by
 have hI : decide ((131072 : Int) < (b.length : Int)) = false:=decide_eq_false (by omega)
 have HA:=Lib.hid (c5N A c b w hr (by omega))
 obtain ⟨z,hz⟩ : ∃ z,z = a1A b:=⟨_,rfl⟩
 rw [<- hz] at HA
 cases z with
 | false=>
  rw [b5M hz.symm]
  clear hr hl hz
  go_enter Tryz.func89,Tryz.ntmps89
  go_wp2_with fail
  refine (a5s 1 w).mono ?_
  rintro e w' ⟨rfl,rfl⟩
  go_wp2_with fail
  refine HA.out.mono ?_
  rintro e w' ⟨rfl,hb⟩
  have HB:=Lib.hid hb
  clear hb
  go_wp2_with fail
  go_ret2
  exact Told.nil 1 HB.out
 | true=>
  rw [a9P hl hz.symm]
  have h1:=(a9E hz.symm).2
  obtain ⟨ad,hA,hc⟩:=a0u hr 0 (by omega)
  subst hA
  have e0 : ad.add 0 = ad:=by simp [Addr.add]
  rw [e0] at hc
  have HC:=Lib.hid hc
  obtain ⟨x,hx⟩ : ∃ x,x = b.getD 0 0:=⟨_,rfl⟩
  rw [<- hx] at HC ⊢
  have hI0 : (0 : Int) < (b.length : Int):=by omega
  clear hr hl hz hx h1 e0 hc
  go_enter Tryz.func89,Tryz.ntmps89
  go_wp2_with fail
  refine (a5s 1 w).mono ?_
  rintro e w' ⟨rfl,rfl⟩
  go_wp2_with fail
  refine HA.out.mono ?_
  rintro e w' ⟨rfl,hb⟩
  have hc2:=a0o hb HC.out
  have HB:=Lib.hid hb
  clear hb
  go_wp2_with fail
  go_ret2
  have hrow : (Kd.int .u8).R 5 (w'.alloc (.cells #[.int .u8 x] 5)) w.heap.size (λ _=>True) (.slice (some ⟨w'.heap.size,0,none⟩) 1 1) [x]:=a2a .u8 5 w' w.heap.size (λ _=>True) trivial HB.out.size [x] (by simp)
  exact ⟨_,1,rfl,hrow,HB.out.alloc HB.out.size _⟩
def a9Q (p : Nat) (may : FuncId) : Value:=.agg #[.func (.func 88) #[] #[.pointer (some ⟨p,0,none⟩)],.func (.func 90) #[] #[.pointer (some ⟨p,0,none⟩)],.func (.func may) #[] #[]]
theorem a5t : (Tryz.prog.info? 112).map (·.size) = some 3:=by kernel_rfl
set_option maxRecDepth 100000 in
theorem b5N (k : Int) (may : FuncId) (w : World) :
    Calls Tryz.prog 80 #[.int .i64 k,.func (.func may) #[] #[]] w λ e w'=>e = .returned (a9Q w.heap.size may) /\ Below w.heap.size w w' /\ w'.heap[w.heap.size]? = some (.cells #[.int .i64 k] 3 (0,0)):=by
 have hmf : ∀ (fn : Fn) (first cap : Array Value) (w : World),(Instr.makeFunc fn first cap).run Tryz.prog w = .ok (.func fn first cap) w:=λ _ _ _ _=>rfl
 go_enter Tryz.func80,Tryz.ntmps80
 go_wp2_with fail
 refine bodyPost_ret (results_cell_row (fn:=Tryz.f80) (p:=4) (ty:=112) rfl _ _ _ _ _ _ _ rfl (a2w _ _ _) Tryz.underlying112 rfl a5t) rfl ?_
 exact ⟨rfl,((Below.refl w.heap.size w).alloc (Nat.le_refl _) _).alloc (by simp) _,a0t (a0f _ _) _⟩
theorem c5Q : (Tryz.prog.info? 113).map (·.size) = some 12:=by kernel_rfl
theorem c5R {w : World} {m t : Nat} (h : w.heap[m]? = some (.cells #[.nilFunc,.nilFunc,.nilFunc,.nilFunc,.nilFunc,.nilFunc,.nilFunc,.nilFunc,.nilFunc,.nilFunc,.nilFunc,.nilFunc] t (0,0))) : (w.cell? ⟨m,0,none⟩ = some .nilFunc /\ w.cell? ⟨m,1,none⟩ = some .nilFunc /\ w.cell? ⟨m,2,none⟩ = some .nilFunc /\ w.cell? ⟨m,3,none⟩ = some .nilFunc /\ w.cell? ⟨m,4,none⟩ = some .nilFunc /\ w.cell? ⟨m,5,none⟩ = some .nilFunc /\ w.cell? ⟨m,6,none⟩ = some .nilFunc /\ w.cell? ⟨m,7,none⟩ = some .nilFunc /\ w.cell? ⟨m,8,none⟩ = some .nilFunc /\ w.cell? ⟨m,9,none⟩ = some .nilFunc /\ w.cell? ⟨m,10,none⟩ = some .nilFunc /\ w.cell? ⟨m,11,none⟩ = some .nilFunc) /\ (w.frozen? ⟨m,0,none⟩ = false /\ w.frozen? ⟨m,1,none⟩ = false /\ w.frozen? ⟨m,2,none⟩ = false /\ w.frozen? ⟨m,3,none⟩ = false /\ w.frozen? ⟨m,4,none⟩ = false /\ w.frozen? ⟨m,5,none⟩ = false /\ w.frozen? ⟨m,6,none⟩ = false /\ w.frozen? ⟨m,7,none⟩ = false /\ w.frozen? ⟨m,8,none⟩ = false /\ w.frozen? ⟨m,9,none⟩ = false /\ w.frozen? ⟨m,10,none⟩ = false /\ w.frozen? ⟨m,11,none⟩ = false):=⟨⟨(a0a h 0).trans rfl,(a0a h 1).trans rfl,(a0a h 2).trans rfl,(a0a h 3).trans rfl,(a0a h 4).trans rfl,(a0a h 5).trans rfl,(a0a h 6).trans rfl,(a0a h 7).trans rfl,(a0a h 8).trans rfl,(a0a h 9).trans rfl,(a0a h 10).trans rfl,(a0a h 11).trans rfl⟩,a0c h 0,a0c h 1,a0c h 2,a0c h 3,a0c h 4,a0c h 5,a0c h 6,a0c h 7,a0c h 8,a0c h 9,a0c h 10,a0c h 11⟩
theorem c5S {w : World} {m t : Nat} (h : w.heap[m]? = some (.cells #[.nilFunc,.nilFunc,.nilFunc,.nilFunc,.nilFunc,.nilFunc,.nilFunc,.nilFunc,.nilFunc,.nilFunc,.nilFunc,.nilFunc] t (0,0))) (x0 x1 x2 x3 x4 x5 x6 x7 x8 x9 x10 x11 : Value) : ((((((((((((w.setCell ⟨m,0,none⟩ x0).setCell ⟨m,1,none⟩ x1).setCell ⟨m,2,none⟩ x2).setCell ⟨m,3,none⟩ x3).setCell ⟨m,4,none⟩ x4).setCell ⟨m,5,none⟩ x5).setCell ⟨m,6,none⟩ x6).setCell ⟨m,7,none⟩ x7).setCell ⟨m,8,none⟩ x8).setCell ⟨m,9,none⟩ x9).setCell ⟨m,10,none⟩ x10).setCell ⟨m,11,none⟩ x11).heap[m]? = some (.cells #[x0,x1,x2,x3,x4,x5,x6,x7,x8,x9,x10,x11] t (0,0)):=by
 have h0 : (w.setCell ⟨m,0,none⟩ x0).heap[m]? = some (.cells #[x0,.nilFunc,.nilFunc,.nilFunc,.nilFunc,.nilFunc,.nilFunc,.nilFunc,.nilFunc,.nilFunc,.nilFunc,.nilFunc] t (0,0)):=(a0h h 0 x0).trans rfl
 have h1 : ((w.setCell ⟨m,0,none⟩ x0).setCell ⟨m,1,none⟩ x1).heap[m]? = some (.cells #[x0,x1,.nilFunc,.nilFunc,.nilFunc,.nilFunc,.nilFunc,.nilFunc,.nilFunc,.nilFunc,.nilFunc,.nilFunc] t (0,0)):=(a0h h0 1 x1).trans rfl
 have h2 : (((w.setCell ⟨m,0,none⟩ x0).setCell ⟨m,1,none⟩ x1).setCell ⟨m,2,none⟩ x2).heap[m]? = some (.cells #[x0,x1,x2,.nilFunc,.nilFunc,.nilFunc,.nilFunc,.nilFunc,.nilFunc,.nilFunc,.nilFunc,.nilFunc] t (0,0)):=(a0h h1 2 x2).trans rfl
 have h3 : ((((w.setCell ⟨m,0,none⟩ x0).setCell ⟨m,1,none⟩ x1).setCell ⟨m,2,none⟩ x2).setCell ⟨m,3,none⟩ x3).heap[m]? = some (.cells #[x0,x1,x2,x3,.nilFunc,.nilFunc,.nilFunc,.nilFunc,.nilFunc,.nilFunc,.nilFunc,.nilFunc] t (0,0)):=(a0h h2 3 x3).trans rfl
 have h4 : (((((w.setCell ⟨m,0,none⟩ x0).setCell ⟨m,1,none⟩ x1).setCell ⟨m,2,none⟩ x2).setCell ⟨m,3,none⟩ x3).setCell ⟨m,4,none⟩ x4).heap[m]? = some (.cells #[x0,x1,x2,x3,x4,.nilFunc,.nilFunc,.nilFunc,.nilFunc,.nilFunc,.nilFunc,.nilFunc] t (0,0)):=(a0h h3 4 x4).trans rfl
 have h5 : ((((((w.setCell ⟨m,0,none⟩ x0).setCell ⟨m,1,none⟩ x1).setCell ⟨m,2,none⟩ x2).setCell ⟨m,3,none⟩ x3).setCell ⟨m,4,none⟩ x4).setCell ⟨m,5,none⟩ x5).heap[m]? = some (.cells #[x0,x1,x2,x3,x4,x5,.nilFunc,.nilFunc,.nilFunc,.nilFunc,.nilFunc,.nilFunc] t (0,0)):=(a0h h4 5 x5).trans rfl
 have h6 : (((((((w.setCell ⟨m,0,none⟩ x0).setCell ⟨m,1,none⟩ x1).setCell ⟨m,2,none⟩ x2).setCell ⟨m,3,none⟩ x3).setCell ⟨m,4,none⟩ x4).setCell ⟨m,5,none⟩ x5).setCell ⟨m,6,none⟩ x6).heap[m]? = some (.cells #[x0,x1,x2,x3,x4,x5,x6,.nilFunc,.nilFunc,.nilFunc,.nilFunc,.nilFunc] t (0,0)):=(a0h h5 6 x6).trans rfl
 have h7 : ((((((((w.setCell ⟨m,0,none⟩ x0).setCell ⟨m,1,none⟩ x1).setCell ⟨m,2,none⟩ x2).setCell ⟨m,3,none⟩ x3).setCell ⟨m,4,none⟩ x4).setCell ⟨m,5,none⟩ x5).setCell ⟨m,6,none⟩ x6).setCell ⟨m,7,none⟩ x7).heap[m]? = some (.cells #[x0,x1,x2,x3,x4,x5,x6,x7,.nilFunc,.nilFunc,.nilFunc,.nilFunc] t (0,0)):=(a0h h6 7 x7).trans rfl
 have h8 : (((((((((w.setCell ⟨m,0,none⟩ x0).setCell ⟨m,1,none⟩ x1).setCell ⟨m,2,none⟩ x2).setCell ⟨m,3,none⟩ x3).setCell ⟨m,4,none⟩ x4).setCell ⟨m,5,none⟩ x5).setCell ⟨m,6,none⟩ x6).setCell ⟨m,7,none⟩ x7).setCell ⟨m,8,none⟩ x8).heap[m]? = some (.cells #[x0,x1,x2,x3,x4,x5,x6,x7,x8,.nilFunc,.nilFunc,.nilFunc] t (0,0)):=(a0h h7 8 x8).trans rfl
 have h9 : ((((((((((w.setCell ⟨m,0,none⟩ x0).setCell ⟨m,1,none⟩ x1).setCell ⟨m,2,none⟩ x2).setCell ⟨m,3,none⟩ x3).setCell ⟨m,4,none⟩ x4).setCell ⟨m,5,none⟩ x5).setCell ⟨m,6,none⟩ x6).setCell ⟨m,7,none⟩ x7).setCell ⟨m,8,none⟩ x8).setCell ⟨m,9,none⟩ x9).heap[m]? = some (.cells #[x0,x1,x2,x3,x4,x5,x6,x7,x8,x9,.nilFunc,.nilFunc] t (0,0)):=(a0h h8 9 x9).trans rfl
 have h10 : (((((((((((w.setCell ⟨m,0,none⟩ x0).setCell ⟨m,1,none⟩ x1).setCell ⟨m,2,none⟩ x2).setCell ⟨m,3,none⟩ x3).setCell ⟨m,4,none⟩ x4).setCell ⟨m,5,none⟩ x5).setCell ⟨m,6,none⟩ x6).setCell ⟨m,7,none⟩ x7).setCell ⟨m,8,none⟩ x8).setCell ⟨m,9,none⟩ x9).setCell ⟨m,10,none⟩ x10).heap[m]? = some (.cells #[x0,x1,x2,x3,x4,x5,x6,x7,x8,x9,x10,.nilFunc] t (0,0)):=(a0h h9 10 x10).trans rfl
 have h11 : ((((((((((((w.setCell ⟨m,0,none⟩ x0).setCell ⟨m,1,none⟩ x1).setCell ⟨m,2,none⟩ x2).setCell ⟨m,3,none⟩ x3).setCell ⟨m,4,none⟩ x4).setCell ⟨m,5,none⟩ x5).setCell ⟨m,6,none⟩ x6).setCell ⟨m,7,none⟩ x7).setCell ⟨m,8,none⟩ x8).setCell ⟨m,9,none⟩ x9).setCell ⟨m,10,none⟩ x10).setCell ⟨m,11,none⟩ x11).heap[m]? = some (.cells #[x0,x1,x2,x3,x4,x5,x6,x7,x8,x9,x10,x11] t (0,0)):=(a0h h10 11 x11).trans rfl
 exact h11
theorem far12 {w : World} {m p : Nat} {v : Value} (h : w.cell? ⟨p,0,none⟩ = some v) (hm : m ≠ p) (x0 x1 x2 x3 x4 x5 x6 x7 x8 x9 x10 x11 : Value) : ((((((((((((w.setCell ⟨m,0,none⟩ x0).setCell ⟨m,1,none⟩ x1).setCell ⟨m,2,none⟩ x2).setCell ⟨m,3,none⟩ x3).setCell ⟨m,4,none⟩ x4).setCell ⟨m,5,none⟩ x5).setCell ⟨m,6,none⟩ x6).setCell ⟨m,7,none⟩ x7).setCell ⟨m,8,none⟩ x8).setCell ⟨m,9,none⟩ x9).setCell ⟨m,10,none⟩ x10).setCell ⟨m,11,none⟩ x11).cell? ⟨p,0,none⟩ = some v:=by
 have hne : ∀ k,(⟨m,k,none⟩ : Addr) ≠ ⟨p,0,none⟩:=λ k e=>by injection e with e1; exact hm e1
 exact ((World.cell?_setCell_other _ _ _ _ (hne 11)).trans ((World.cell?_setCell_other _ _ _ _ (hne 10)).trans ((World.cell?_setCell_other _ _ _ _ (hne 9)).trans ((World.cell?_setCell_other _ _ _ _ (hne 8)).trans ((World.cell?_setCell_other _ _ _ _ (hne 7)).trans ((World.cell?_setCell_other _ _ _ _ (hne 6)).trans ((World.cell?_setCell_other _ _ _ _ (hne 5)).trans ((World.cell?_setCell_other _ _ _ _ (hne 4)).trans ((World.cell?_setCell_other _ _ _ _ (hne 3)).trans ((World.cell?_setCell_other _ _ _ _ (hne 2)).trans ((World.cell?_setCell_other _ _ _ _ (hne 1)).trans ((World.cell?_setCell_other _ _ _ _ (hne 0)).trans h))))))))))))
def a1d (p q : Nat) : Array Value:=#[.func (.func 88) #[] #[.pointer (some ⟨p,0,none⟩)],.func (.func 90) #[] #[.pointer (some ⟨p,0,none⟩)],.func (.func 81) #[] #[],
 .func (.func 88) #[] #[.pointer (some ⟨q,0,none⟩)],.func (.func 90) #[] #[.pointer (some ⟨q,0,none⟩)],.func (.func 82) #[] #[],
 .func (.func 83) #[] #[],.func (.func 84) #[] #[],.func (.func 85) #[] #[],
 .func (.func 86) #[] #[],.func (.func 87) #[] #[],.func (.func 85) #[] #[]]
def c5T (w : World) (e : Ending) (w' : World) : Prop:=∃ p q,e = .returned (.agg (a1d p q)) /\ w'.cell? ⟨p,0,none⟩ = some (.int .i64 0) /\ w'.cell? ⟨q,0,none⟩ = some (.int .i64 1) /\ Below w.heap.size w w'
set_option maxRecDepth 100000 in
set_option maxHeartbeats 1000000 in
theorem a2b (w : World) : Calls Tryz.prog 76 #[] w (c5T w):=by
 obtain ⟨W0,hW0⟩ : ∃ W0,W0 = w.alloc (.cells #[.nilFunc,.nilFunc,.nilFunc,.nilFunc,.nilFunc,.nilFunc,.nilFunc,.nilFunc,.nilFunc,.nilFunc,.nilFunc,.nilFunc] 113):=⟨_,rfl⟩
 have hb0 : Below w.heap.size w W0:=by rw [hW0]; exact (Below.refl _ _).alloc (Nat.le_refl _) _
 have hk0 : W0.heap[w.heap.size]? = some (.cells #[.nilFunc,.nilFunc,.nilFunc,.nilFunc,.nilFunc,.nilFunc,.nilFunc,.nilFunc,.nilFunc,.nilFunc,.nilFunc,.nilFunc] 113 (0,0)):=by rw [hW0]; exact a0f _ _
 have hs0 : W0.heap.size = w.heap.size + 1:=by rw [hW0]; simp
 obtain ⟨m,hm⟩ : ∃ m,m = w.heap.size:=⟨_,rfl⟩
 rw [<- hm] at hk0
 have HK:=Lib.hid (And.intro hk0 (And.intro hb0 (And.intro hm hs0)))
 clear hk0 hb0 hs0
 go_enter Tryz.func76,Tryz.ntmps76
 go_wp2_with fail
 rw [<- hW0,<- hm]
 clear hW0 hm
 refine (b5N 0 81 W0).mono ?_
 rintro e w1 ⟨rfl,hb1,hp1⟩
 obtain ⟨p,hp⟩ : ∃ p,p = W0.heap.size:=⟨_,rfl⟩
 rw [<- hp] at hp1 ⊢
 have H1:=Lib.hid (And.intro hb1 (And.intro hp1 hp))
 clear hb1 hp1 hp
 unfold a9Q
 go_wp2_with fail
 refine (b5N 1 82 w1).mono ?_
 rintro e w2 ⟨rfl,hb2,hq2⟩
 obtain ⟨q,hq⟩ : ∃ q,q = w1.heap.size:=⟨_,rfl⟩
 rw [<- hq] at hq2 ⊢
 have H2:=Lib.hid (And.intro hb2 (And.intro hq2 hq))
 have hk2:=a0e (a0e HK.out.1 H1.out.1) hb2
 obtain ⟨⟨c0,c1,c2,c3,c4,c5,c6,c7,c8,c9,c10,c11⟩,f0,f1,f2,f3,f4,f5,f6,f7,f8,f9,f10,f11⟩:=c5R hk2
 have HK2:=Lib.hid hk2
 clear hb2 hq2 hq hk2
 unfold a9Q
 go_wp2_with fail
 refine bodyPost_ret (results_cell_row (fn:=Tryz.f76) (p:=0) (ty:=113) rfl _ _ _ _ _ _ _ rfl (c5S HK2.out _ _ _ _ _ _ _ _ _ _ _ _) Tryz.underlying113 rfl c5Q) rfl ?_
 have hm : w.heap.size <= m:=by have:=HK.out.2.2.1; omega
 have hpm : m ≠ p:=by have h1:=H1.out.2.2; have h2:=HK.out.2.2.1; have h3:=HK.out.2.2.2; omega
 have hqm : m ≠ q:=by have h1:=H2.out.2.2; have h2:=HK.out.2.2.1; have h3:=HK.out.2.2.2; have h4:=H1.out.1.size; omega
 have HB : Below w.heap.size w w2:=a0d (a0d HK.out.2.1 H1.out.1) H2.out.1
 have hp2 : w2.cell? ⟨p,0,none⟩ = some (.int .i64 0):=a0o H2.out.1 ((a0a H1.out.2.1 0).trans rfl)
 have hq2 : w2.cell? ⟨q,0,none⟩ = some (.int .i64 1):=(a0a H2.out.2.1 0).trans rfl
 exact ⟨p,q,rfl,far12 hp2 hpm _ _ _ _ _ _ _ _ _ _ _ _,far12 hq2 hqm _ _ _ _ _ _ _ _ _ _ _ _,((((((((((((HB.setCell hm _).setCell hm _).setCell hm _).setCell hm _).setCell hm _).setCell hm _).setCell hm _).setCell hm _).setCell hm _).setCell hm _).setCell hm _).setCell hm _)⟩
set_option maxRecDepth 100000 in
theorem a2m (k : Int) (w : World) : Calls Tryz.prog 75 #[.int .i64 k] w λ e w'=>e = .returned (.bool (decide (0 <= k /\ k < 4))) /\ w = w':=by
 by_cases h0 : 0 <= k
 · by_cases h1 : k < 4
   · have d : decide (0 <= k /\ k < 4) = true:=decide_eq_true ⟨h0,h1⟩
     rw [d]
     have d0:=decide_eq_true h0
     have d1:=decide_eq_true h1
     clear d
     go_enter Tryz.func75,Tryz.ntmps75
     go_wp2_with fail
     go_ret
     exact ⟨rfl,rfl⟩
   · have d : decide (0 <= k /\ k < 4) = false:=decide_eq_false (λ h=>h1 h.2)
     rw [d]
     have d1:=decide_eq_false h1
     clear d h1
     go_enter Tryz.func75,Tryz.ntmps75
     go_wp2_with fail
     go_ret
     exact ⟨by simp,rfl⟩
 · have d : decide (0 <= k /\ k < 4) = false:=decide_eq_false (λ h=>h0 h.1)
   rw [d]
   have d0:=decide_eq_false h0
   clear d h0
   go_enter Tryz.func75,Tryz.ntmps75
   go_wp2_with fail
   go_ret
   exact ⟨by simp,rfl⟩
set_option maxRecDepth 100000 in
theorem b5O {x : Int × List Int} (A : Option Addr) (c p : Nat) (k : Int) (b : List Int) (w : World) (hp : w.cell? ⟨p,0,none⟩ = some (.int .i64 k)) (h : Calls Tryz.prog 89 #[.int .i64 k,.slice A b.length c] w (Told x.1 x.2 w)) :
    Calls Tryz.prog 88 #[.slice A b.length c,.pointer (some ⟨p,0,none⟩)] w (Told x.1 x.2 w):=by
 have H:=Lib.hid h
 clear h
 go_enter Tryz.func88,Tryz.ntmps88
 go_wp2_with fail
 refine H.out.mono ?_
 rintro e w' ⟨A1,c1,rfl,hv,hb⟩
 have H1:=Lib.hid (And.intro hv hb)
 clear hv hb
 go_wp2_with fail
 go_ret2
 exact ⟨A1,c1,rfl,H1.out.1,H1.out.2⟩
theorem a9R (p q : Nat) (w : World) : (Instr.index 113 (.agg (a1d p q)) (.int .i64 0)).run Tryz.prog w = .ok (.agg #[.func (.func 88) #[] #[.pointer (some ⟨p,0,none⟩)],.func (.func 90) #[] #[.pointer (some ⟨p,0,none⟩)],.func (.func 81) #[] #[]]) w:=by
 obtain ⟨i0,hi0,hsz⟩:=Option.map_eq_some_iff.1 a5t
 have hag : (isAgg 112).run Tryz.prog w = .ok true w:=by simp [isAgg,Tryz.underlying112,go_sem,run_underlying]
 unfold Instr.index a1d
 simp [run_underlying (P:=Tryz.prog) Tryz.underlying113,asIntOf,sizeOf,typeInfo,hi0,hsz,part,hag,Result.andThen]
theorem a9S (p q : Nat) (w : World) : (Instr.index 113 (.agg (a1d p q)) (.int .i64 1)).run Tryz.prog w = .ok (.agg #[.func (.func 88) #[] #[.pointer (some ⟨q,0,none⟩)],.func (.func 90) #[] #[.pointer (some ⟨q,0,none⟩)],.func (.func 82) #[] #[]]) w:=by
 obtain ⟨i0,hi0,hsz⟩:=Option.map_eq_some_iff.1 a5t
 have hag : (isAgg 112).run Tryz.prog w = .ok true w:=by simp [isAgg,Tryz.underlying112,go_sem,run_underlying]
 unfold Instr.index a1d
 simp [run_underlying (P:=Tryz.prog) Tryz.underlying113,asIntOf,sizeOf,typeInfo,hi0,hsz,part,hag,Result.andThen]
theorem a9T (p q : Nat) (w : World) : (Instr.index 113 (.agg (a1d p q)) (.int .i64 2)).run Tryz.prog w = .ok (.agg #[.func (.func 83) #[] #[],.func (.func 84) #[] #[],.func (.func 85) #[] #[]]) w:=by
 obtain ⟨i0,hi0,hsz⟩:=Option.map_eq_some_iff.1 a5t
 have hag : (isAgg 112).run Tryz.prog w = .ok true w:=by simp [isAgg,Tryz.underlying112,go_sem,run_underlying]
 unfold Instr.index a1d
 simp [run_underlying (P:=Tryz.prog) Tryz.underlying113,asIntOf,sizeOf,typeInfo,hi0,hsz,part,hag,Result.andThen]
theorem a9U (p q : Nat) (w : World) : (Instr.index 113 (.agg (a1d p q)) (.int .i64 3)).run Tryz.prog w = .ok (.agg #[.func (.func 86) #[] #[],.func (.func 87) #[] #[],.func (.func 85) #[] #[]]) w:=by
 obtain ⟨i0,hi0,hsz⟩:=Option.map_eq_some_iff.1 a5t
 have hag : (isAgg 112).run Tryz.prog w = .ok true w:=by simp [isAgg,Tryz.underlying112,go_sem,run_underlying]
 unfold Instr.index a1d
 simp [run_underlying (P:=Tryz.prog) Tryz.underlying113,asIntOf,sizeOf,typeInfo,hi0,hsz,part,hag,Result.andThen]
theorem a7k (a b c : Value) (w : World) : (Instr.field 112 (.agg #[a,b,c]) 0).run Tryz.prog w = .ok a w:=by kernel_rfl
theorem b5P {k : Int} {b : List Int} (h : ¬ (0 <= k /\ k < 4)) : pickE k b = (10,[]):=by unfold pickE; rw [if_pos (by omega)]
theorem a4y {k : Int} {b : List Int} (h0 : 0 <= k) (h1 : k <= 1) : pickE k b = a1m k b:=by unfold pickE; rw [if_neg (by omega),if_pos h1]
theorem c5U {k : Int} {b : List Int} (h0 : 2 <= k) (h1 : k <= 3) (hb : b.length = 0) : pickE k b = (1,[]):=by unfold pickE; rw [if_neg (by omega),if_neg (by omega),if_pos hb]
theorem b5Q {b : List Int} (hb : 0 < b.length) : pickE 2 b = (0,a1h b):=by unfold pickE; rw [if_neg (by decide),if_neg (by decide),if_neg (by omega),if_pos rfl]
theorem b5R {b : List Int} (hb : 0 < b.length) : pickE 3 b = (0,a1c b):=by unfold pickE; rw [if_neg (by decide),if_neg (by decide),if_neg (by omega),if_neg (by decide)]
set_option maxRecDepth 100000 in
theorem c5V (A : Option Addr) (c : Nat) (k : Int) (b : List Int) (w : World) (h : ¬ (0 <= k /\ k < 4)) :
    Calls Tryz.prog 61 #[.int .i64 k,.slice A b.length c] w (Told 10 [] w):=by
 have hd:=decide_eq_false h
 have HI:=Lib.hid (a2m k w)
 rw [hd] at HI
 clear hd h
 go_enter Tryz.func61,Tryz.ntmps61
 go_wp2_with fail
 refine HI.out.mono ?_
 rintro e w' ⟨rfl,rfl⟩
 go_wp2_with fail
 go_ret2
 exact Told.nil 10 (Below.refl _ _)
set_option maxRecDepth 100000 in
theorem c5W {x : Int × List Int} (A : Option Addr) (c : Nat) (b : List Int) (w : World) (h : ∀ (W : World) (p q : Nat),Below w.heap.size w W -> W.cell? ⟨p,0,none⟩ = some (.int .i64 0) -> W.cell? ⟨q,0,none⟩ = some (.int .i64 1) -> Calls Tryz.prog 88 #[.slice A b.length c,.pointer (some ⟨p,0,none⟩)] W (Told x.1 x.2 W)) :
    Calls Tryz.prog 61 #[.int .i64 0,.slice A b.length c] w (Told x.1 x.2 w):=by
 have H:=Lib.hid h
 clear h
 go_enter Tryz.func61,Tryz.ntmps61
 go_wp2_with fail
 refine (a2m 0 w).mono ?_
 rintro e w' ⟨rfl,rfl⟩
 go_wp2_with fail
 refine (a2b w).mono ?_
 rintro e w1 ⟨p,q,rfl,hp,hq,hb⟩
 have H1:=Lib.hid (H.out w1 p q hb hp hq)
 have HB:=Lib.hid hb
 have hix:=λ W=>a9R p q W
 have hkf:=a7k
 obtain ⟨V,hV⟩ : ∃ V,V = a1d p q:=⟨_,rfl⟩
 rw [<- hV] at hix ⊢
 clear hb hp hq hV
 go_wp2_with fail
 refine H1.out.mono ?_
 rintro e w2 ⟨A1,c1,rfl,hv,hb⟩
 have H2:=Lib.hid (And.intro hv hb)
 clear hv hb hix hkf
 go_wp2_with fail
 go_ret2
 exact ⟨A1,c1,rfl,Kd.R_lower H2.out.1 HB.out.size,a0d HB.out H2.out.2⟩
set_option maxRecDepth 100000 in
theorem c5X {x : Int × List Int} (A : Option Addr) (c : Nat) (b : List Int) (w : World) (h : ∀ (W : World) (p q : Nat),Below w.heap.size w W -> W.cell? ⟨p,0,none⟩ = some (.int .i64 0) -> W.cell? ⟨q,0,none⟩ = some (.int .i64 1) -> Calls Tryz.prog 88 #[.slice A b.length c,.pointer (some ⟨q,0,none⟩)] W (Told x.1 x.2 W)) :
    Calls Tryz.prog 61 #[.int .i64 1,.slice A b.length c] w (Told x.1 x.2 w):=by
 have H:=Lib.hid h
 clear h
 go_enter Tryz.func61,Tryz.ntmps61
 go_wp2_with fail
 refine (a2m 1 w).mono ?_
 rintro e w' ⟨rfl,rfl⟩
 go_wp2_with fail
 refine (a2b w).mono ?_
 rintro e w1 ⟨p,q,rfl,hp,hq,hb⟩
 have H1:=Lib.hid (H.out w1 p q hb hp hq)
 have HB:=Lib.hid hb
 have hix:=λ W=>a9S p q W
 have hkf:=a7k
 obtain ⟨V,hV⟩ : ∃ V,V = a1d p q:=⟨_,rfl⟩
 rw [<- hV] at hix ⊢
 clear hb hp hq hV
 go_wp2_with fail
 refine H1.out.mono ?_
 rintro e w2 ⟨A1,c1,rfl,hv,hb⟩
 have H2:=Lib.hid (And.intro hv hb)
 clear hv hb hix hkf
 go_wp2_with fail
 go_ret2
 exact ⟨A1,c1,rfl,Kd.R_lower H2.out.1 HB.out.size,a0d HB.out H2.out.2⟩
set_option maxRecDepth 100000 in
theorem b5S {x : Int × List Int} (A : Option Addr) (c : Nat) (b : List Int) (w : World) (h : ∀ (W : World) (p q : Nat),Below w.heap.size w W -> W.cell? ⟨p,0,none⟩ = some (.int .i64 0) -> W.cell? ⟨q,0,none⟩ = some (.int .i64 1) -> Calls Tryz.prog 83 #[.slice A b.length c] W (Told x.1 x.2 W)) :
    Calls Tryz.prog 61 #[.int .i64 2,.slice A b.length c] w (Told x.1 x.2 w):=by
 have H:=Lib.hid h
 clear h
 go_enter Tryz.func61,Tryz.ntmps61
 go_wp2_with fail
 refine (a2m 2 w).mono ?_
 rintro e w' ⟨rfl,rfl⟩
 go_wp2_with fail
 refine (a2b w).mono ?_
 rintro e w1 ⟨p,q,rfl,hp,hq,hb⟩
 have H1:=Lib.hid (H.out w1 p q hb hp hq)
 have HB:=Lib.hid hb
 have hix:=λ W=>a9T p q W
 have hkf:=a7k
 obtain ⟨V,hV⟩ : ∃ V,V = a1d p q:=⟨_,rfl⟩
 rw [<- hV] at hix ⊢
 clear hb hp hq hV
 go_wp2_with fail
 refine H1.out.mono ?_
 rintro e w2 ⟨A1,c1,rfl,hv,hb⟩
 have H2:=Lib.hid (And.intro hv hb)
 clear hv hb hix hkf
 go_wp2_with fail
 go_ret2
 exact ⟨A1,c1,rfl,Kd.R_lower H2.out.1 HB.out.size,a0d HB.out H2.out.2⟩
set_option maxRecDepth 100000 in
theorem b5T {x : Int × List Int} (A : Option Addr) (c : Nat) (b : List Int) (w : World) (h : ∀ (W : World) (p q : Nat),Below w.heap.size w W -> W.cell? ⟨p,0,none⟩ = some (.int .i64 0) -> W.cell? ⟨q,0,none⟩ = some (.int .i64 1) -> Calls Tryz.prog 86 #[.slice A b.length c] W (Told x.1 x.2 W)) :
    Calls Tryz.prog 61 #[.int .i64 3,.slice A b.length c] w (Told x.1 x.2 w):=by
 have H:=Lib.hid h
 clear h
 go_enter Tryz.func61,Tryz.ntmps61
 go_wp2_with fail
 refine (a2m 3 w).mono ?_
 rintro e w' ⟨rfl,rfl⟩
 go_wp2_with fail
 refine (a2b w).mono ?_
 rintro e w1 ⟨p,q,rfl,hp,hq,hb⟩
 have H1:=Lib.hid (H.out w1 p q hb hp hq)
 have HB:=Lib.hid hb
 have hix:=λ W=>a9U p q W
 have hkf:=a7k
 obtain ⟨V,hV⟩ : ∃ V,V = a1d p q:=⟨_,rfl⟩
 rw [<- hV] at hix ⊢
 clear hb hp hq hV
 go_wp2_with fail
 refine H1.out.mono ?_
 rintro e w2 ⟨A1,c1,rfl,hv,hb⟩
 have H2:=Lib.hid (And.intro hv hb)
 clear hv hb hix hkf
 go_wp2_with fail
 go_ret2
 exact ⟨A1,c1,rfl,Kd.R_lower H2.out.1 HB.out.size,a0d HB.out H2.out.2⟩
theorem c5Y (A : Option Addr) (c : Nat) (k : Int) (b : List Int) (w : World) (hr : (Kd.int .u8).C w A b.length b) (hb : Bytes b) (hl : b.length <= 40000) :
    Calls Tryz.prog 61 #[.int .i64 k,.slice A b.length c] w (Told (pickE k b).1 (pickE k b).2 w):=by
 by_cases h : 0 <= k /\ k < 4
 · by_cases k0 : k = 0
   · subst k0
     exact c5W A c b w (λ W p q hB hp _=>b5O A c p 0 b W hp (by rw [a4y (by decide) (by decide),a9O hl]; exact c5O A c b W (Kd.C_below hr hB) hl))
   by_cases k1 : k = 1
   · subst k1
     exact c5X A c b w (λ W p q hB _ hq=>b5O A c q 1 b W hq (by rw [a4y (by decide) (by decide)]; exact c5P A c b W (Kd.C_below hr hB) hl))
   rcases Nat.eq_zero_or_pos b.length with h0 | h0
   · rw [c5U (by omega) (by omega) h0]
     by_cases k2 : k = 2
     · subst k2
       exact b5S (x:=(1,[])) A c b w (λ W p q hB _ _=>(b4V A c b W (Kd.C_below hr hB) hb hl).mono λ e w' h=>by
        rcases h with ⟨_,rfl,hbl⟩ | ⟨h,_⟩
        · exact Told.nil 1 hbl
        · omega)
     · obtain rfl : k = 3:=by omega
       exact b5T (x:=(1,[])) A c b w (λ W p q hB _ _=>by
        rw [h0]
        exact (c5F A c W).mono λ e w' ⟨he,hbl⟩=>by subst he; exact Told.nil 1 hbl)
   · by_cases k2 : k = 2
     · subst k2
       rw [b5Q h0]
       exact b5S (x:=(0,a1h b)) A c b w (λ W p q hB _ _=>c4k A c b W (Kd.C_below hr hB) hb hl h0)
     · obtain rfl : k = 3:=by omega
       rw [b5R h0]
       exact b5T (x:=(0,a1c b)) A c b w (λ W p q hB _ _=>c5H A c b W (Kd.C_below hr hB) hb hl h0)
 · rw [b5P h]; exact c5V A c k b w h
def bestN (b : List Int) : Nat -> Int × List Int
 | 0=>(0,b)
 | k + 1=>a0P ((k + 1 : Nat) : Int) b (bestN b k)
theorem c6m (b : List Int) : bestN b 3 = bestP b:=rfl
theorem b5X (b : List Int) : ∀ k,(bestN b k).2.length <= b.length
 | 0=>Nat.le_refl _
 | k + 1=>Nat.le_trans (a7d _ b _).1 (b5X b k)
theorem b5Y {k : Int} {b : List Int} {x : Int × List Int} (h0 : (pickE k b).1 = 0) (h1 : (pickE k b).2.length < x.2.length) : a0P k b x = (k,(pickE k b).2):=by unfold a0P; rw [if_pos ⟨h0,h1⟩]
theorem a7p {k : Int} {b : List Int} {x : Int × List Int} (h : ¬ ((pickE k b).1 = 0 /\ (pickE k b).2.length < x.2.length)) : a0P k b x = x:=by unfold a0P; rw [if_neg h]
def BestPost (b : List Int) (w : World) (e : Ending) (w' : World) : Prop:=
 ∃ A c,e = .returned (.tuple #[.int .i64 (bestP b).1,.slice A (bestP b).2.length c,.int .i64 0]) /\ (Kd.int .u8).R 5 w' w.heap.size (λ _=>True) (.slice A (bestP b).2.length c) (bestP b).2 /\ Below w.heap.size w w'
set_option maxRecDepth 100000 in
set_option maxHeartbeats 1000000 in
theorem a9X (A : Option Addr) (c : Nat) (b : List Int) (w : World) (hr : (Kd.int .u8).C w A b.length b) (hb : Bytes b) (hl : b.length <= 40000) :
    Calls Tryz.prog 47 #[.slice A b.length c] w (BestPost b w):=by
 have HE:=Lib.hid (λ (k : Int) (W : World) (hB : Below w.heap.size w W)=>c5Y A c k b W (Kd.C_below hr hB) hb hl)
 have HE0:=Lib.hid (HE.out 0 w (Below.refl _ _))
 have e0 : pickE 0 b = (0,b):=by rw [a4y (by decide) (by decide),a9O hl]
 rw [e0] at HE0
 have HL:=Lib.hid (And.intro hl e0)
 clear hr hb hl e0
 go_enter Tryz.func47,Tryz.ntmps47
 go_wp2_with fail
 refine HE0.out.mono ?_
 rintro e w1 ⟨A1,c1,rfl,hv1,hb1⟩
 have H1:=Lib.hid (And.intro hv1 hb1)
 clear hv1 hb1
 dsimp only
 go_wp2_with fail
 go_loopw [2,3,5,6,7] (λ nv bv kv xv fv wr=>∃ (k n : Nat) (y : List Int) (B : Option Addr) (cb : Nat),nv = .int .i64 n /\ bv = .slice B y.length cb /\ kv = .int .i64 ((k + 1 : Nat) : Int) /\ k <= 3 /\ Hid (bestN b k = ((n : Int),y) /\ (Kd.int .u8).R 5 wr w.heap.size (λ _=>True) (.slice B y.length cb) y /\ Below w.heap.size w wr)) (λ _ _ kv _ _ _=>4 - (intOf kv).toNat)
 case atStart=>exact ⟨0,0,b,A1,c1,rfl,rfl,rfl,by omega,Lib.hid ⟨rfl,H1.out.1,H1.out.2⟩⟩
 case round=>
  obtain ⟨k,n,y,B,cb,rfl,rfl,rfl,hk,H⟩:=hrel
  by_cases hlt : k < 3
  · have hI : ((k + 1 : Nat) : Int) < 4:=by omega
    have HC:=Lib.hid (HE.out ((k + 1 : Nat) : Int) wr H.out.2.2)
    have hyl:=b5X b k
    rw [H.out.1] at hyl
    have hyl2 : y.length <= b.length:=hyl
    obtain ⟨x,hx⟩ : ∃ x,x = pickE ((k + 1 : Nat) : Int) b:=⟨_,rfl⟩
    have HX:=Lib.hid hx
    rw [<- hx] at HC
    obtain ⟨f,z⟩:=x
    have hz : Hid (f = 0 -> z.length <= 1000000 \/ True):=Lib.hid (λ _=>.inr trivial)
    clear hx hyl hz
    go_wp2_with fail
    refine HC.out.mono ?_
    rintro e w2 ⟨A2,c2,rfl,hv2,hb2⟩
    have H2:=Lib.hid (And.intro hv2 hb2)
    clear hv2 hb2
    dsimp only at H2 ⊢
    have HB2:=Lib.hid (a0d H.out.2.2 H2.out.2)
    have HR2:=Lib.hid (Kd.R_below H.out.2.1 H2.out.2)
    by_cases h0 : f = 0
    · subst h0
      by_cases h1 : z.length < y.length
      · have hI1 : decide (z.length < y.length) = true:=decide_eq_true h1
        have HN:=Lib.hid (show bestN b (k + 1) = (((k + 1 : Nat) : Int),z) from by
         have e1 : bestN b (k + 1) = a0P ((k + 1 : Nat) : Int) b (bestN b k):=rfl
         rw [e1,b5Y (by rw [<- HX.out]) (by rw [<- HX.out,H.out.1]; exact h1),<- HX.out])
        clear h1
        go_wp2_with fail
        go_roundw
        case rel=>exact ⟨k + 1,k + 1,z,A2,c2,rfl,rfl,by go_num,by omega,Lib.hid ⟨HN.out,Kd.R_lower H2.out.1 H.out.2.2.size,HB2.out⟩⟩
        case measure=>simp [intOf]; omega
      · have hI1 : decide (z.length < y.length) = false:=decide_eq_false h1
        have HN:=Lib.hid (show bestN b (k + 1) = ((n : Int),y) from by
         have e1 : bestN b (k + 1) = a0P ((k + 1 : Nat) : Int) b (bestN b k):=rfl
         rw [e1,a7p (by rw [<- HX.out,H.out.1]; exact λ h=>h1 h.2),H.out.1])
        clear h1
        go_wp2_with fail
        go_roundw
        case rel=>exact ⟨k + 1,n,y,B,cb,rfl,rfl,by go_num,by omega,Lib.hid ⟨HN.out,HR2.out,HB2.out⟩⟩
        case measure=>simp [intOf]; omega
    · have hf : (f == 0) = false:=by simpa using h0
      have HN:=Lib.hid (show bestN b (k + 1) = ((n : Int),y) from by
       have e1 : bestN b (k + 1) = a0P ((k + 1 : Nat) : Int) b (bestN b k):=rfl
       rw [e1,a7p (by rw [<- HX.out]; exact λ h=>h0 h.1),H.out.1])
      clear h0
      go_wp2_with fail
      go_roundw
      case rel=>exact ⟨k + 1,n,y,B,cb,rfl,rfl,by go_num,by omega,Lib.hid ⟨HN.out,HR2.out,HB2.out⟩⟩
      case measure=>simp [intOf]; omega
  · obtain rfl : k = 3:=by omega
    go_wp2_with fail
    go_ret3
    have e3:=H.out.1
    rw [c6m] at e3
    unfold BestPost
    rw [e3]
    exact ⟨B,cb,rfl,H.out.2.1,H.out.2.2⟩
theorem c6o {k : Int} {b : List Int} (hb : Bytes b) (hl : b.length <= 40000) (h0 : 0 < b.length) (he : (pickE k b).1 = 0) : 0 < (pickE k b).2.length:=by
 by_cases h : 0 <= k /\ k < 4
 · by_cases k0 : k = 0
   · subst k0; rw [a4y (by decide) (by decide),a9O hl]; exact h0
   by_cases k1 : k = 1
   · subst k1
     rw [a4y (by decide) (by decide)] at he ⊢
     cases ha : a1A b with
     | false=>rw [b5M ha] at he; cases he
     | true=>rw [a9P hl ha]; exact Nat.one_pos
   by_cases k2 : k = 2
   · subst k2; rw [b5Q h0]; have:=b4W hb hl h0; show 0 < (a1h b).length; omega
   · obtain rfl : k = 3:=by omega
     rw [b5R h0]; have:=b5m hb hl h0; show 0 < (a1c b).length; omega
 · rw [b5P h] at he; cases he
theorem b5Z {k : Int} {b : List Int} {x : Int × List Int} (hb : Bytes b) (hl : b.length <= 40000) (h0 : 0 < b.length) (h1 : x.2.length <= 1) : a0P k b x = x:=by
 refine a7p ?_
 rintro ⟨he,hlt⟩
 have:=c6o hb hl h0 he
 omega
theorem c6q {b : List Int} (hb : Bytes b) (hl : b.length <= 40000) (ha : a1A b = true) : bestP b = (1,[b.getD 0 0]):=by
 have h0:=(a9E ha).2
 have e : a0P 1 b (0,b) = (1,[b.getD 0 0]):=by
  have e1 : pickE 1 b = (0,[b.getD 0 0]):=by rw [a4y (by decide) (by decide),a9P hl ha]
  rw [b5Y (by rw [e1]) (by rw [e1]; exact h0),e1]
 unfold bestP
 have hs : ∀ k,a0P k b (1,[b.getD 0 0]) = (1,[b.getD 0 0]):=λ k=>b5Z hb hl (by omega) (Nat.le_refl 1)
 rw [e,hs,hs]
theorem BestPost.out {b : List Int} {w : World} {e : Ending} {w' : World} (h : BestPost b w e w') (hb : Bytes b) : ∃ A c,e = .returned (.tuple #[.int .i64 (bestP b).1,.slice A (bestP b).2.length c,.int .i64 0]) /\ BSl w' A c (bestP b).2 /\ Below w.heap.size w w':=by
 obtain ⟨A,c,he,hr,hbl⟩:=h
 exact ⟨A,c,he,BSl.of hr (a5o hb),hbl⟩
theorem or_4 {k : Nat} (h : k <= 3) : bits .or .i64 (k : Int) 4 = ((k + 4 : Nat) : Int):=by
 have h1:=b5H k 4 (by omega) (by decide)
 have h2 : k ||| 4 = k + 4:=by
  have : k = 0 \/ k = 1 \/ k = 2 \/ k = 3:=by omega
  rcases this with rfl | rfl | rfl | rfl <;> rfl
 rw [h2] at h1; exact h1
structure PutF (k kk sm : Nat) (x e1 e2 e3 B : List Int) : Prop where
 kk7 : kk <= 7
 sm' : sm = a0L 0 x
 e1l : e1.length = 3
 e2l : e2.length = 3
 e3l : e3.length = 4
 all : B = (([(kk : Int)] ++ e1) ++ e2) ++ e3 ++ x
theorem putF {b : List Int} (hl : b.length <= 40000) (last : Bool) : ∃ k kk sm : Nat,(bestP b).1 = k /\ k <= 3 /\ kk = k + (if last then 4 else 0) /\ sm < 4294967296 /\ PutF k kk sm (bestP b).2 (leN b.length 3) (leN (bestP b).2.length 3) (leN sm 4) (putM b last):=by
 obtain ⟨k,hk,hk3⟩:=a9I (b:=b) (by omega)
 have hcl:=a5d 0 (bestP b).2
 refine ⟨k,_,a0L 0 (bestP b).2,hk,hk3,rfl,by omega,by split <;> omega,rfl,a1B _ _,a1B _ _,a1B _ _,?_⟩
 unfold putM
 rw [hk]
 cases last <;> simp
set_option maxRecDepth 100000 in
set_option maxHeartbeats 2000000 in
theorem c6r (A : Option Addr) (c : Nat) (b : List Int) (w : World) (hr : (Kd.int .u8).C w A b.length b) (hb : Bytes b) (hl : b.length <= 40000) (h0 : 0 < b.length) :
    Calls Tryz.prog 28 #[.slice A b.length c,.bool false] w (Told 0 (putM b false) w):=by
 have d1 : decide ((131072 : Int) < (b.length : Int)) = false:=decide_eq_false (by omega)
 have hn0 : ((b.length : Int) == 0) = false:=by simp; intro e; subst e; simp at h0
 have HBest:=Lib.hid (a9X A c b w hr hb hl)
 have HBy:=Lib.hid (a5o hb)
 have hbl:=a1P b
 obtain ⟨k,kk,sm,hk,hk3,hkk,hsm4,hF⟩:=putF hl false
 have HF:=Lib.hid hF
 obtain ⟨x,hx⟩ : ∃ x,x = (bestP b).2:=⟨_,rfl⟩
 unfold BestPost at HBest
 rw [hk,<- hx] at HBest
 rw [<- hx] at HBy hbl HF
 have hxl : x.length <= 40000:=by omega
 have hw1 : IntKind.u32.wrap (b.length : Int) = (b.length : Int):=by rw [IntKind.wrap_u32']; omega
 have hw2 : IntKind.u32.wrap (x.length : Int) = (x.length : Int):=by rw [IntKind.wrap_u32']; omega
 have hkk7:=hF.kk7
 have hw3 : IntKind.u8.wrap (kk : Int) = (kk : Int):=by rw [IntKind.wrap_u8']; omega
 have HLit1:=Lib.hid (λ W : World=>a2P b.length 3 W (by omega) (by decide))
 have HLit2:=Lib.hid (λ W : World=>a2P x.length 3 W (by omega) (by decide))
 have HLit3:=Lib.hid (λ W : World=>a2P sm 4 W hsm4 (by decide))
 obtain ⟨e1,he1⟩ : ∃ l,l = leN b.length 3:=⟨_,rfl⟩
 obtain ⟨e2,he2⟩ : ∃ l,l = leN x.length 3:=⟨_,rfl⟩
 obtain ⟨e3,he3⟩ : ∃ l,l = leN sm 4:=⟨_,rfl⟩
 rw [<- he1] at HF HLit1
 rw [<- he2] at HF HLit2
 rw [<- he3] at HF HLit3
 have hk2 : kk = k:=by rw [hkk]; rfl
 subst hk2
 obtain ⟨B,hB⟩ : ∃ l,l = putM b false:=⟨_,rfl⟩
 rw [<- hB] at HF ⊢
 have HXl:=Lib.hid hxl
 clear hr hb hk hk3 hkk hx he1 he2 he3 hl hbl hkk7 hsm4 hF hB
 go_enter Tryz.func28,Tryz.ntmps28
 go_wp2_with fail
 refine HBest.out.mono ?_
 rintro e w1 ⟨Ax,cx,rfl,hvx,hb1⟩
 have HX1:=Lib.hid (Kd.R_reads' hvx).2.2
 have HB1:=Lib.hid hb1
 have hbl2 : Below w1.heap.size w1 (w1.alloc (.cells #[.int .u8 (kk : Int)] 5)):=(Below.refl _ _).alloc (Nat.le_refl _) _
 have HO1 : Hid ((Kd.int .u8).R 5 (w1.alloc (.cells #[.int .u8 (kk : Int)] 5)) w1.heap.size (λ _=>True) (.slice (some ⟨w1.heap.size,0,none⟩) 1 1) [(kk : Int)]):=Lib.hid (a2a .u8 5 w1 w1.heap.size (λ _=>True) trivial (Nat.le_refl _) [(kk : Int)] (by simp))
 have HBl2:=Lib.hid hbl2
 clear hvx hb1 hbl2
 go_wp2_with fail
 refine (HLit1.out _).mono ?_
 rintro e w2 ⟨v2,rfl,hv2,hb2⟩
 obtain ⟨A2,c2,rfl⟩:=Kd.R_slice hv2
 have HO2:=Lib.hid (Kd.R_below HO1.out hb2)
 have HD2 : Hid ((Kd.int .u8).C w2 A2 3 e1):=Lib.hid (by have:=(Kd.R_reads' hv2).2.2; rw [HF.out.e1l] at this; exact this)
 have HB2:=Lib.hid (a0d HBl2.out hb2)
 have HS2:=Lib.hid (a0d HBl2.out hb2).size
 have HN2 : Hid (([(kk : Int)].length + 3) * 1 <= 140737488355328):=Lib.hid (by simp)
 have HZ2 : Hid (([(kk : Int)] ++ e1).length = 4):=Lib.hid (by rw [List.length_append,HF.out.e1l]; rfl)
 rw [HF.out.e1l]
 clear hv2 hb2
 go_wp2_with (at_builtin; refine Kd.R_append_rows (Kd.int .u8) (Rr:=(Kd.int .u8).K w2) (w0:=w1) (W:=w2) w1.heap.size rfl (.tmp 33) (.tmp 37) 29 5 (.int .u8 0) 1 rfl Tryz.underlying29 a0y rfl (by decide) (by decide) (.slice (some ⟨w1.heap.size,0,none⟩) 1 1) ([(kk : Int)]) (e1) A2 3 c2 (λ _=>True) (λ _=>False) rfl rfl HO2.out HD2.out (λ _ _ h=>h) (λ _ h=>h.elim) (λ _ _=>trivial) HB2.out HS2.out HN2.out ?_; intro v3 w3 hr3 hb3 hg3 hat3; obtain ⟨A3,c3,rfl⟩:=Kd.R_slice hr3; rw [HZ2.out] at hr3 ⊢; have HR3:=Lib.hid (And.intro hr3 hb3); clear hr3 hb3 hg3 hat3)
 obtain ⟨L1,hL1⟩ : ∃ l,l = [(kk : Int)] ++ e1:=⟨_,rfl⟩
 rw [<- hL1] at HR3 HZ2
 have HL1:=Lib.hid hL1
 clear hL1
 refine (HLit2.out _).mono ?_
 rintro e w4 ⟨v4,rfl,hv4,hb4⟩
 obtain ⟨A4,c4,rfl⟩:=Kd.R_slice hv4
 have HO4:=Lib.hid (Kd.R_below HR3.out.1 hb4)
 have HD4 : Hid ((Kd.int .u8).C w4 A4 3 e2):=Lib.hid (by have:=(Kd.R_reads' hv4).2.2; rw [HF.out.e2l] at this; exact this)
 have HB4:=Lib.hid (HR3.out.2.trans (hb4.mono HR3.out.2.size))
 have HS4:=Lib.hid HB4.out.size
 have HN4 : Hid ((L1.length + 3) * 1 <= 140737488355328):=Lib.hid (by rw [HZ2.out]; decide)
 have HZ4 : Hid ((L1 ++ e2).length = 7):=Lib.hid (by rw [List.length_append,HZ2.out,HF.out.e2l])
 rw [HF.out.e2l]
 clear hv4 hb4
 go_wp2_with (at_builtin; refine Kd.R_append_rows (Kd.int .u8) (Rr:=(Kd.int .u8).K w4) (w0:=w1) (W:=w4) w1.heap.size rfl (.tmp 39) (.tmp 43) 29 5 (.int .u8 0) 1 rfl Tryz.underlying29 a0y rfl (by decide) (by decide) (.slice A3 4 c3) (L1) (e2) A4 3 c4 (λ _=>True) (λ _=>False) rfl rfl HO4.out HD4.out (λ _ _ h=>h) (λ _ h=>h.elim) (λ _ _=>trivial) HB4.out HS4.out HN4.out ?_; intro v5 w5 hr5 hb5 hg5 hat5; obtain ⟨A5,c5,rfl⟩:=Kd.R_slice hr5; rw [HZ4.out] at hr5 ⊢; have HR5:=Lib.hid (And.intro hr5 hb5); clear hr5 hb5 hg5 hat5)
 obtain ⟨L2,hL2⟩ : ∃ l,l = L1 ++ e2:=⟨_,rfl⟩
 rw [<- hL2] at HR5 HZ4
 have HL2:=Lib.hid hL2
 clear hL2
 refine (a3J w5).mono ?_
 rintro e w6 ⟨p,rfl,hp6,ht6,hb6⟩
 have HT6:=Lib.hid ht6
 have HB6:=Lib.hid (HR5.out.2.trans (hb6.mono HR5.out.2.size))
 have HO6:=Lib.hid (Kd.R_below HR5.out.1 hb6)
 have HX6:=Lib.hid (Kd.C_below HX1.out HB6.out)
 have HCr:=Lib.hid (a5m p Ax cx x w6 HT6.out HX6.out (by have:=HXl.out; omega) HBy.out)
 rw [<- HF.out.sm'] at HCr
 clear hp6 ht6 hb6
 go_wp2_with fail
 refine HCr.out.mono ?_
 rintro e w6' ⟨rfl,rfl⟩
 go_wp2_with fail
 refine (HLit3.out _).mono ?_
 rintro e w7 ⟨v7,rfl,hv7,hb7⟩
 obtain ⟨A7,c7,rfl⟩:=Kd.R_slice hv7
 have HO7:=Lib.hid (Kd.R_below HO6.out hb7)
 have HD7 : Hid ((Kd.int .u8).C w7 A7 4 e3):=Lib.hid (by have:=(Kd.R_reads' hv7).2.2; rw [HF.out.e3l] at this; exact this)
 have HB7:=Lib.hid (HB6.out.trans (hb7.mono HB6.out.size))
 have HS7:=Lib.hid HB7.out.size
 have HN7 : Hid ((L2.length + 4) * 1 <= 140737488355328):=Lib.hid (by rw [HZ4.out]; decide)
 have HZ7 : Hid ((L2 ++ e3).length = 11):=Lib.hid (by rw [List.length_append,HZ4.out,HF.out.e3l])
 have HALL : Hid (L2 ++ e3 ++ x = B):=Lib.hid (by rw [HL2.out,HL1.out]; exact HF.out.all.symm)
 rw [HF.out.e3l]
 clear hv7 hb7
 go_wp2_with (at_builtin; first
  | (refine Kd.R_append_rows (Kd.int .u8) (Rr:=(Kd.int .u8).K w7) (w0:=w1) (W:=w7) w1.heap.size rfl (.tmp 45) (.tmp 49) 29 5 (.int .u8 0) 1 rfl Tryz.underlying29 a0y rfl (by decide) (by decide) (.slice A5 7 c5) (L2) (e3) A7 4 c7 (λ _=>True) (λ _=>False) rfl rfl HO7.out HD7.out (λ _ _ h=>h) (λ _ h=>h.elim) (λ _ _=>trivial) HB7.out HS7.out HN7.out ?_; intro v8 w8 hr8 hb8 hg8 hat8; obtain ⟨A8,c8,rfl⟩:=Kd.R_slice hr8; rw [HZ7.out] at hr8 ⊢; have HR8:=Lib.hid (And.intro hr8 hb8); clear hr8 hb8 hg8 hat8; have HS8:=Lib.hid HR8.out.2.size; have HX8:=Lib.hid (Kd.C_below HX1.out HR8.out.2); have HN8 : Hid (((L2 ++ e3).length + x.length) * 1 <= 140737488355328):=Lib.hid (by rw [HZ7.out]; have:=HXl.out; omega))
  | (refine Kd.R_append_rows (Kd.int .u8) (Rr:=(Kd.int .u8).K w8) (w0:=w1) (W:=w8) w1.heap.size rfl (.tmp 51) (.tmp 52) 29 5 (.int .u8 0) 1 rfl Tryz.underlying29 a0y rfl (by decide) (by decide) (.slice A8 11 c8) (L2 ++ e3) x Ax x.length cx (λ _=>True) (λ _=>False) rfl rfl HR8.out.1 HX8.out (λ _ _ h=>h) (λ _ h=>h.elim) (λ _ _=>trivial) HR8.out.2 HS8.out HN8.out ?_; intro v9 w9 hr9 hb9 hg9 hat9; rw [HALL.out] at hr9; obtain ⟨A9,c9,rfl⟩:=Kd.R_slice hr9; have HR9:=Lib.hid (And.intro hr9 hb9); clear hr9 hb9 hg9 hat9))
 go_ret2
 exact ⟨A9,c9,rfl,Kd.R_lower HR9.out.1 HB1.out.size,a0d HB1.out HR9.out.2⟩
set_option maxRecDepth 100000 in
set_option maxHeartbeats 2000000 in
theorem c6s (A : Option Addr) (c : Nat) (b : List Int) (w : World) (hr : (Kd.int .u8).C w A b.length b) (hb : Bytes b) (hl : b.length <= 40000) (h0 : 0 < b.length) :
    Calls Tryz.prog 28 #[.slice A b.length c,.bool true] w (Told 0 (putM b true) w):=by
 have d1 : decide ((131072 : Int) < (b.length : Int)) = false:=decide_eq_false (by omega)
 have hn0 : ((b.length : Int) == 0) = false:=by simp; intro e; subst e; simp at h0
 have HBest:=Lib.hid (a9X A c b w hr hb hl)
 have HBy:=Lib.hid (a5o hb)
 have hbl:=a1P b
 obtain ⟨k,kk,sm,hk,hk3,hkk,hsm4,hF⟩:=putF hl true
 have HF:=Lib.hid hF
 obtain ⟨x,hx⟩ : ∃ x,x = (bestP b).2:=⟨_,rfl⟩
 unfold BestPost at HBest
 rw [hk,<- hx] at HBest
 rw [<- hx] at HBy hbl HF
 have hxl : x.length <= 40000:=by omega
 have hw1 : IntKind.u32.wrap (b.length : Int) = (b.length : Int):=by rw [IntKind.wrap_u32']; omega
 have hw2 : IntKind.u32.wrap (x.length : Int) = (x.length : Int):=by rw [IntKind.wrap_u32']; omega
 have hkk7:=hF.kk7
 have hw3 : IntKind.u8.wrap (kk : Int) = (kk : Int):=by rw [IntKind.wrap_u8']; omega
 have HLit1:=Lib.hid (λ W : World=>a2P b.length 3 W (by omega) (by decide))
 have HLit2:=Lib.hid (λ W : World=>a2P x.length 3 W (by omega) (by decide))
 have HLit3:=Lib.hid (λ W : World=>a2P sm 4 W hsm4 (by decide))
 obtain ⟨e1,he1⟩ : ∃ l,l = leN b.length 3:=⟨_,rfl⟩
 obtain ⟨e2,he2⟩ : ∃ l,l = leN x.length 3:=⟨_,rfl⟩
 obtain ⟨e3,he3⟩ : ∃ l,l = leN sm 4:=⟨_,rfl⟩
 rw [<- he1] at HF HLit1
 rw [<- he2] at HF HLit2
 rw [<- he3] at HF HLit3
 have hor : bits .or .i64 (k : Int) 4 = (kk : Int):=by rw [hkk]; exact or_4 hk3
 obtain ⟨B,hB⟩ : ∃ l,l = putM b true:=⟨_,rfl⟩
 rw [<- hB] at HF ⊢
 have HXl:=Lib.hid hxl
 clear hr hb hk hk3 hkk hx he1 he2 he3 hl hbl hkk7 hsm4 hF hB
 go_enter Tryz.func28,Tryz.ntmps28
 go_wp2_with fail
 refine HBest.out.mono ?_
 rintro e w1 ⟨Ax,cx,rfl,hvx,hb1⟩
 have HX1:=Lib.hid (Kd.R_reads' hvx).2.2
 have HB1:=Lib.hid hb1
 have hbl2 : Below w1.heap.size w1 (w1.alloc (.cells #[.int .u8 (kk : Int)] 5)):=(Below.refl _ _).alloc (Nat.le_refl _) _
 have HO1 : Hid ((Kd.int .u8).R 5 (w1.alloc (.cells #[.int .u8 (kk : Int)] 5)) w1.heap.size (λ _=>True) (.slice (some ⟨w1.heap.size,0,none⟩) 1 1) [(kk : Int)]):=Lib.hid (a2a .u8 5 w1 w1.heap.size (λ _=>True) trivial (Nat.le_refl _) [(kk : Int)] (by simp))
 have HBl2:=Lib.hid hbl2
 clear hvx hb1 hbl2
 go_wp2_with fail
 refine (HLit1.out _).mono ?_
 rintro e w2 ⟨v2,rfl,hv2,hb2⟩
 obtain ⟨A2,c2,rfl⟩:=Kd.R_slice hv2
 have HO2:=Lib.hid (Kd.R_below HO1.out hb2)
 have HD2 : Hid ((Kd.int .u8).C w2 A2 3 e1):=Lib.hid (by have:=(Kd.R_reads' hv2).2.2; rw [HF.out.e1l] at this; exact this)
 have HB2:=Lib.hid (a0d HBl2.out hb2)
 have HS2:=Lib.hid (a0d HBl2.out hb2).size
 have HN2 : Hid (([(kk : Int)].length + 3) * 1 <= 140737488355328):=Lib.hid (by simp)
 have HZ2 : Hid (([(kk : Int)] ++ e1).length = 4):=Lib.hid (by rw [List.length_append,HF.out.e1l]; rfl)
 rw [HF.out.e1l]
 clear hv2 hb2
 go_wp2_with (at_builtin; refine Kd.R_append_rows (Kd.int .u8) (Rr:=(Kd.int .u8).K w2) (w0:=w1) (W:=w2) w1.heap.size rfl (.tmp 33) (.tmp 37) 29 5 (.int .u8 0) 1 rfl Tryz.underlying29 a0y rfl (by decide) (by decide) (.slice (some ⟨w1.heap.size,0,none⟩) 1 1) ([(kk : Int)]) (e1) A2 3 c2 (λ _=>True) (λ _=>False) rfl rfl HO2.out HD2.out (λ _ _ h=>h) (λ _ h=>h.elim) (λ _ _=>trivial) HB2.out HS2.out HN2.out ?_; intro v3 w3 hr3 hb3 hg3 hat3; obtain ⟨A3,c3,rfl⟩:=Kd.R_slice hr3; rw [HZ2.out] at hr3 ⊢; have HR3:=Lib.hid (And.intro hr3 hb3); clear hr3 hb3 hg3 hat3)
 obtain ⟨L1,hL1⟩ : ∃ l,l = [(kk : Int)] ++ e1:=⟨_,rfl⟩
 rw [<- hL1] at HR3 HZ2
 have HL1:=Lib.hid hL1
 clear hL1
 refine (HLit2.out _).mono ?_
 rintro e w4 ⟨v4,rfl,hv4,hb4⟩
 obtain ⟨A4,c4,rfl⟩:=Kd.R_slice hv4
 have HO4:=Lib.hid (Kd.R_below HR3.out.1 hb4)
 have HD4 : Hid ((Kd.int .u8).C w4 A4 3 e2):=Lib.hid (by have:=(Kd.R_reads' hv4).2.2; rw [HF.out.e2l] at this; exact this)
 have HB4:=Lib.hid (HR3.out.2.trans (hb4.mono HR3.out.2.size))
 have HS4:=Lib.hid HB4.out.size
 have HN4 : Hid ((L1.length + 3) * 1 <= 140737488355328):=Lib.hid (by rw [HZ2.out]; decide)
 have HZ4 : Hid ((L1 ++ e2).length = 7):=Lib.hid (by rw [List.length_append,HZ2.out,HF.out.e2l])
 rw [HF.out.e2l]
 clear hv4 hb4
 go_wp2_with (at_builtin; refine Kd.R_append_rows (Kd.int .u8) (Rr:=(Kd.int .u8).K w4) (w0:=w1) (W:=w4) w1.heap.size rfl (.tmp 39) (.tmp 43) 29 5 (.int .u8 0) 1 rfl Tryz.underlying29 a0y rfl (by decide) (by decide) (.slice A3 4 c3) (L1) (e2) A4 3 c4 (λ _=>True) (λ _=>False) rfl rfl HO4.out HD4.out (λ _ _ h=>h) (λ _ h=>h.elim) (λ _ _=>trivial) HB4.out HS4.out HN4.out ?_; intro v5 w5 hr5 hb5 hg5 hat5; obtain ⟨A5,c5,rfl⟩:=Kd.R_slice hr5; rw [HZ4.out] at hr5 ⊢; have HR5:=Lib.hid (And.intro hr5 hb5); clear hr5 hb5 hg5 hat5)
 obtain ⟨L2,hL2⟩ : ∃ l,l = L1 ++ e2:=⟨_,rfl⟩
 rw [<- hL2] at HR5 HZ4
 have HL2:=Lib.hid hL2
 clear hL2
 refine (a3J w5).mono ?_
 rintro e w6 ⟨p,rfl,hp6,ht6,hb6⟩
 have HT6:=Lib.hid ht6
 have HB6:=Lib.hid (HR5.out.2.trans (hb6.mono HR5.out.2.size))
 have HO6:=Lib.hid (Kd.R_below HR5.out.1 hb6)
 have HX6:=Lib.hid (Kd.C_below HX1.out HB6.out)
 have HCr:=Lib.hid (a5m p Ax cx x w6 HT6.out HX6.out (by have:=HXl.out; omega) HBy.out)
 rw [<- HF.out.sm'] at HCr
 clear hp6 ht6 hb6
 go_wp2_with fail
 refine HCr.out.mono ?_
 rintro e w6' ⟨rfl,rfl⟩
 go_wp2_with fail
 refine (HLit3.out _).mono ?_
 rintro e w7 ⟨v7,rfl,hv7,hb7⟩
 obtain ⟨A7,c7,rfl⟩:=Kd.R_slice hv7
 have HO7:=Lib.hid (Kd.R_below HO6.out hb7)
 have HD7 : Hid ((Kd.int .u8).C w7 A7 4 e3):=Lib.hid (by have:=(Kd.R_reads' hv7).2.2; rw [HF.out.e3l] at this; exact this)
 have HB7:=Lib.hid (HB6.out.trans (hb7.mono HB6.out.size))
 have HS7:=Lib.hid HB7.out.size
 have HN7 : Hid ((L2.length + 4) * 1 <= 140737488355328):=Lib.hid (by rw [HZ4.out]; decide)
 have HZ7 : Hid ((L2 ++ e3).length = 11):=Lib.hid (by rw [List.length_append,HZ4.out,HF.out.e3l])
 have HALL : Hid (L2 ++ e3 ++ x = B):=Lib.hid (by rw [HL2.out,HL1.out]; exact HF.out.all.symm)
 rw [HF.out.e3l]
 clear hv7 hb7
 go_wp2_with (at_builtin; first
  | (refine Kd.R_append_rows (Kd.int .u8) (Rr:=(Kd.int .u8).K w7) (w0:=w1) (W:=w7) w1.heap.size rfl (.tmp 45) (.tmp 49) 29 5 (.int .u8 0) 1 rfl Tryz.underlying29 a0y rfl (by decide) (by decide) (.slice A5 7 c5) (L2) (e3) A7 4 c7 (λ _=>True) (λ _=>False) rfl rfl HO7.out HD7.out (λ _ _ h=>h) (λ _ h=>h.elim) (λ _ _=>trivial) HB7.out HS7.out HN7.out ?_; intro v8 w8 hr8 hb8 hg8 hat8; obtain ⟨A8,c8,rfl⟩:=Kd.R_slice hr8; rw [HZ7.out] at hr8 ⊢; have HR8:=Lib.hid (And.intro hr8 hb8); clear hr8 hb8 hg8 hat8; have HS8:=Lib.hid HR8.out.2.size; have HX8:=Lib.hid (Kd.C_below HX1.out HR8.out.2); have HN8 : Hid (((L2 ++ e3).length + x.length) * 1 <= 140737488355328):=Lib.hid (by rw [HZ7.out]; have:=HXl.out; omega))
  | (refine Kd.R_append_rows (Kd.int .u8) (Rr:=(Kd.int .u8).K w8) (w0:=w1) (W:=w8) w1.heap.size rfl (.tmp 51) (.tmp 52) 29 5 (.int .u8 0) 1 rfl Tryz.underlying29 a0y rfl (by decide) (by decide) (.slice A8 11 c8) (L2 ++ e3) x Ax x.length cx (λ _=>True) (λ _=>False) rfl rfl HR8.out.1 HX8.out (λ _ _ h=>h) (λ _ h=>h.elim) (λ _ _=>trivial) HR8.out.2 HS8.out HN8.out ?_; intro v9 w9 hr9 hb9 hg9 hat9; rw [HALL.out] at hr9; obtain ⟨A9,c9,rfl⟩:=Kd.R_slice hr9; have HR9:=Lib.hid (And.intro hr9 hb9); clear hr9 hb9 hg9 hat9))
 go_ret2
 exact ⟨A9,c9,rfl,Kd.R_lower HR9.out.1 HB1.out.size,a0d HB1.out HR9.out.2⟩
set_option maxRecDepth 100000 in
set_option maxHeartbeats 2000000 in
theorem c6t (A : Option Addr) (c : Nat) (b : List Int) (w : World) (hr : (Kd.int .u8).C w A b.length b) (hb : Bytes b) (hl : b.length <= 40000) (h0 : b = []) :
    Calls Tryz.prog 28 #[.slice A 0 c,.bool true] w (Told 0 (putM b true) w):=by
 have hb0 : b.length = 0:=by rw [h0]; rfl
 have HBest:=Lib.hid (a9X A c b w hr hb hl)
 have HBy:=Lib.hid (a5o hb)
 have hbl:=a1P b
 obtain ⟨k,kk,sm,hk,hk3,hkk,hsm4,hF⟩:=putF hl true
 have HF:=Lib.hid hF
 obtain ⟨x,hx⟩ : ∃ x,x = (bestP b).2:=⟨_,rfl⟩
 unfold BestPost at HBest
 rw [hb0] at HBest
 rw [hk,<- hx] at HBest
 rw [<- hx] at HBy hbl HF
 have hxl : x.length <= 40000:=by omega
 have hw2 : IntKind.u32.wrap (x.length : Int) = (x.length : Int):=by rw [IntKind.wrap_u32']; omega
 have hkk7:=hF.kk7
 have hw3 : IntKind.u8.wrap (kk : Int) = (kk : Int):=by rw [IntKind.wrap_u8']; omega
 have HLit1:=Lib.hid (λ W : World=>a2P b.length 3 W (by omega) (by decide))
 rw [hb0] at HLit1 HF
 have HLit2:=Lib.hid (λ W : World=>a2P x.length 3 W (by omega) (by decide))
 have HLit3:=Lib.hid (λ W : World=>a2P sm 4 W hsm4 (by decide))
 obtain ⟨e1,he1⟩ : ∃ l,l = leN 0 3:=⟨_,rfl⟩
 obtain ⟨e2,he2⟩ : ∃ l,l = leN x.length 3:=⟨_,rfl⟩
 obtain ⟨e3,he3⟩ : ∃ l,l = leN sm 4:=⟨_,rfl⟩
 rw [<- he1] at HF HLit1
 rw [<- he2] at HF HLit2
 rw [<- he3] at HF HLit3
 have hor : bits .or .i64 (k : Int) 4 = (kk : Int):=by rw [hkk]; exact or_4 hk3
 obtain ⟨B,hB⟩ : ∃ l,l = putM b true:=⟨_,rfl⟩
 rw [<- hB] at HF ⊢
 have HXl:=Lib.hid hxl
 clear hr hb hk hk3 hkk hx he1 he2 he3 hl hbl hkk7 hsm4 hF hB
 go_enter Tryz.func28,Tryz.ntmps28
 go_wp2_with fail
 refine HBest.out.mono ?_
 rintro e w1 ⟨Ax,cx,rfl,hvx,hb1⟩
 have HX1:=Lib.hid (Kd.R_reads' hvx).2.2
 have HB1:=Lib.hid hb1
 have hbl2 : Below w1.heap.size w1 (w1.alloc (.cells #[.int .u8 (kk : Int)] 5)):=(Below.refl _ _).alloc (Nat.le_refl _) _
 have HO1 : Hid ((Kd.int .u8).R 5 (w1.alloc (.cells #[.int .u8 (kk : Int)] 5)) w1.heap.size (λ _=>True) (.slice (some ⟨w1.heap.size,0,none⟩) 1 1) [(kk : Int)]):=Lib.hid (a2a .u8 5 w1 w1.heap.size (λ _=>True) trivial (Nat.le_refl _) [(kk : Int)] (by simp))
 have HBl2:=Lib.hid hbl2
 clear hvx hb1 hbl2
 go_wp2_with fail
 refine (HLit1.out _).mono ?_
 rintro e w2 ⟨v2,rfl,hv2,hb2⟩
 obtain ⟨A2,c2,rfl⟩:=Kd.R_slice hv2
 have HO2:=Lib.hid (Kd.R_below HO1.out hb2)
 have HD2 : Hid ((Kd.int .u8).C w2 A2 3 e1):=Lib.hid (by have:=(Kd.R_reads' hv2).2.2; rw [HF.out.e1l] at this; exact this)
 have HB2:=Lib.hid (a0d HBl2.out hb2)
 have HS2:=Lib.hid (a0d HBl2.out hb2).size
 have HN2 : Hid (([(kk : Int)].length + 3) * 1 <= 140737488355328):=Lib.hid (by simp)
 have HZ2 : Hid (([(kk : Int)] ++ e1).length = 4):=Lib.hid (by rw [List.length_append,HF.out.e1l]; rfl)
 rw [HF.out.e1l]
 clear hv2 hb2
 go_wp2_with (at_builtin; refine Kd.R_append_rows (Kd.int .u8) (Rr:=(Kd.int .u8).K w2) (w0:=w1) (W:=w2) w1.heap.size rfl (.tmp 33) (.tmp 37) 29 5 (.int .u8 0) 1 rfl Tryz.underlying29 a0y rfl (by decide) (by decide) (.slice (some ⟨w1.heap.size,0,none⟩) 1 1) ([(kk : Int)]) (e1) A2 3 c2 (λ _=>True) (λ _=>False) rfl rfl HO2.out HD2.out (λ _ _ h=>h) (λ _ h=>h.elim) (λ _ _=>trivial) HB2.out HS2.out HN2.out ?_; intro v3 w3 hr3 hb3 hg3 hat3; obtain ⟨A3,c3,rfl⟩:=Kd.R_slice hr3; rw [HZ2.out] at hr3 ⊢; have HR3:=Lib.hid (And.intro hr3 hb3); clear hr3 hb3 hg3 hat3)
 obtain ⟨L1,hL1⟩ : ∃ l,l = [(kk : Int)] ++ e1:=⟨_,rfl⟩
 rw [<- hL1] at HR3 HZ2
 have HL1:=Lib.hid hL1
 clear hL1
 refine (HLit2.out _).mono ?_
 rintro e w4 ⟨v4,rfl,hv4,hb4⟩
 obtain ⟨A4,c4,rfl⟩:=Kd.R_slice hv4
 have HO4:=Lib.hid (Kd.R_below HR3.out.1 hb4)
 have HD4 : Hid ((Kd.int .u8).C w4 A4 3 e2):=Lib.hid (by have:=(Kd.R_reads' hv4).2.2; rw [HF.out.e2l] at this; exact this)
 have HB4:=Lib.hid (HR3.out.2.trans (hb4.mono HR3.out.2.size))
 have HS4:=Lib.hid HB4.out.size
 have HN4 : Hid ((L1.length + 3) * 1 <= 140737488355328):=Lib.hid (by rw [HZ2.out]; decide)
 have HZ4 : Hid ((L1 ++ e2).length = 7):=Lib.hid (by rw [List.length_append,HZ2.out,HF.out.e2l])
 rw [HF.out.e2l]
 clear hv4 hb4
 go_wp2_with (at_builtin; refine Kd.R_append_rows (Kd.int .u8) (Rr:=(Kd.int .u8).K w4) (w0:=w1) (W:=w4) w1.heap.size rfl (.tmp 39) (.tmp 43) 29 5 (.int .u8 0) 1 rfl Tryz.underlying29 a0y rfl (by decide) (by decide) (.slice A3 4 c3) (L1) (e2) A4 3 c4 (λ _=>True) (λ _=>False) rfl rfl HO4.out HD4.out (λ _ _ h=>h) (λ _ h=>h.elim) (λ _ _=>trivial) HB4.out HS4.out HN4.out ?_; intro v5 w5 hr5 hb5 hg5 hat5; obtain ⟨A5,c5,rfl⟩:=Kd.R_slice hr5; rw [HZ4.out] at hr5 ⊢; have HR5:=Lib.hid (And.intro hr5 hb5); clear hr5 hb5 hg5 hat5)
 obtain ⟨L2,hL2⟩ : ∃ l,l = L1 ++ e2:=⟨_,rfl⟩
 rw [<- hL2] at HR5 HZ4
 have HL2:=Lib.hid hL2
 clear hL2
 refine (a3J w5).mono ?_
 rintro e w6 ⟨p,rfl,hp6,ht6,hb6⟩
 have HT6:=Lib.hid ht6
 have HB6:=Lib.hid (HR5.out.2.trans (hb6.mono HR5.out.2.size))
 have HO6:=Lib.hid (Kd.R_below HR5.out.1 hb6)
 have HX6:=Lib.hid (Kd.C_below HX1.out HB6.out)
 have HCr:=Lib.hid (a5m p Ax cx x w6 HT6.out HX6.out (by have:=HXl.out; omega) HBy.out)
 rw [<- HF.out.sm'] at HCr
 clear hp6 ht6 hb6
 go_wp2_with fail
 refine HCr.out.mono ?_
 rintro e w6' ⟨rfl,rfl⟩
 go_wp2_with fail
 refine (HLit3.out _).mono ?_
 rintro e w7 ⟨v7,rfl,hv7,hb7⟩
 obtain ⟨A7,c7,rfl⟩:=Kd.R_slice hv7
 have HO7:=Lib.hid (Kd.R_below HO6.out hb7)
 have HD7 : Hid ((Kd.int .u8).C w7 A7 4 e3):=Lib.hid (by have:=(Kd.R_reads' hv7).2.2; rw [HF.out.e3l] at this; exact this)
 have HB7:=Lib.hid (HB6.out.trans (hb7.mono HB6.out.size))
 have HS7:=Lib.hid HB7.out.size
 have HN7 : Hid ((L2.length + 4) * 1 <= 140737488355328):=Lib.hid (by rw [HZ4.out]; decide)
 have HZ7 : Hid ((L2 ++ e3).length = 11):=Lib.hid (by rw [List.length_append,HZ4.out,HF.out.e3l])
 have HALL : Hid (L2 ++ e3 ++ x = B):=Lib.hid (by rw [HL2.out,HL1.out]; exact HF.out.all.symm)
 rw [HF.out.e3l]
 clear hv7 hb7
 go_wp2_with (at_builtin; first
  | (refine Kd.R_append_rows (Kd.int .u8) (Rr:=(Kd.int .u8).K w7) (w0:=w1) (W:=w7) w1.heap.size rfl (.tmp 45) (.tmp 49) 29 5 (.int .u8 0) 1 rfl Tryz.underlying29 a0y rfl (by decide) (by decide) (.slice A5 7 c5) (L2) (e3) A7 4 c7 (λ _=>True) (λ _=>False) rfl rfl HO7.out HD7.out (λ _ _ h=>h) (λ _ h=>h.elim) (λ _ _=>trivial) HB7.out HS7.out HN7.out ?_; intro v8 w8 hr8 hb8 hg8 hat8; obtain ⟨A8,c8,rfl⟩:=Kd.R_slice hr8; rw [HZ7.out] at hr8 ⊢; have HR8:=Lib.hid (And.intro hr8 hb8); clear hr8 hb8 hg8 hat8; have HS8:=Lib.hid HR8.out.2.size; have HX8:=Lib.hid (Kd.C_below HX1.out HR8.out.2); have HN8 : Hid (((L2 ++ e3).length + x.length) * 1 <= 140737488355328):=Lib.hid (by rw [HZ7.out]; have:=HXl.out; omega))
  | (refine Kd.R_append_rows (Kd.int .u8) (Rr:=(Kd.int .u8).K w8) (w0:=w1) (W:=w8) w1.heap.size rfl (.tmp 51) (.tmp 52) 29 5 (.int .u8 0) 1 rfl Tryz.underlying29 a0y rfl (by decide) (by decide) (.slice A8 11 c8) (L2 ++ e3) x Ax x.length cx (λ _=>True) (λ _=>False) rfl rfl HR8.out.1 HX8.out (λ _ _ h=>h) (λ _ h=>h.elim) (λ _ _=>trivial) HR8.out.2 HS8.out HN8.out ?_; intro v9 w9 hr9 hb9 hg9 hat9; rw [HALL.out] at hr9; obtain ⟨A9,c9,rfl⟩:=Kd.R_slice hr9; have HR9:=Lib.hid (And.intro hr9 hb9); clear hr9 hb9 hg9 hat9))
 go_ret2
 exact ⟨A9,c9,rfl,Kd.R_lower HR9.out.1 HB1.out.size,a0d HB1.out HR9.out.2⟩
theorem a5u (A : Option Addr) (c : Nat) (b : List Int) (last : Bool) (w : World) (hr : (Kd.int .u8).C w A b.length b) (hb : Bytes b) (hl : b.length <= 40000) (h0 : last = true \/ 0 < b.length) :
    Calls Tryz.prog 28 #[.slice A b.length c,.bool last] w (Told 0 (putM b last) w):=by
 rcases Nat.eq_zero_or_pos b.length with hz | hz
 · obtain rfl : last = true:=by rcases h0 with h | h; (· exact h); (· omega)
   have:=c6t A c b w hr hb hl (List.eq_nil_of_length_eq_zero hz)
   rw [hz]; exact this
 · cases last with
   | false=>exact c6r A c b w hr hb hl hz
   | true=>exact c6s A c b w hr hb hl hz
end Go.Proofs.YtamimiomglipmaaGreat
namespace Go.Proofs.YtamimiomglipmaaGreat
open Go.RowKit
def headL (log : Nat) : List Int:=[80,78,67,72,1,(log : Int),0,0]
def tailL (x : List Int) : List Int:=leN (a0L 0 x) 4
def blksM (s : Nat) : Nat -> List Int -> List Int
 | 0,x=>putM x true
 | n + 1,x=>if s < x.length then putM (x.take s) false ++ blksM s n (x.drop s) else putM x true
def encM (x : List Int) (log : Nat) : List Int:=headL log ++ (blksM (2 ^ log) x.length x ++ tailL x)
theorem a2n {b : List Int} (h : Bytes b) (k : Nat) : Bytes (b.take k):=λ x hx=>h x (List.mem_of_mem_take hx)
theorem a3o {b : List Int} (h : Bytes b) (k : Nat) : Bytes (b.drop k):=λ x hx=>h x (List.mem_of_mem_drop hx)
theorem a2A (log : Nat) : (headL log).length = 8:=rfl
theorem a1N (x : List Int) : (tailL x).length = 4:=a1B _ _
def nBlks (s : Nat) : Nat -> Nat -> Nat
 | 0,_=>1
 | n + 1,l=>if s < l then 1 + nBlks s n (l - s) else 1
theorem a7r (s : Nat) : ∀ (n : Nat) (x : List Int),11 * nBlks s n x.length <= (blksM s n x).length /\ (blksM s n x).length <= x.length + 11 * nBlks s n x.length
 | 0,x=>by
  unfold blksM nBlks
  have:=a1P x
  rw [a0J]; omega
 | n + 1,x=>by
  unfold blksM nBlks
  by_cases h : s < x.length
  · rw [if_pos h,if_pos h,List.length_append,a0J]
    have h1:=a1P (x.take s)
    have h2:=a7r s n (x.drop s)
    rw [List.length_drop] at h2
    rw [List.length_take] at h1
    omega
  · rw [if_neg h,if_neg h]
    have:=a1P x
    rw [a0J]; omega
theorem b6g (x : List Int) (log : Nat) : 12 + 11 * nBlks (2 ^ log) x.length x.length <= (encM x log).length /\ (encM x log).length <= 12 + x.length + 11 * nBlks (2 ^ log) x.length x.length:=by
 have:=a7r (2 ^ log) x.length x
 unfold encM
 rw [List.length_append,List.length_append,a2A,a1N]; omega
open Go.IntWalk Go.Proofs.YtamimiomglipmaaGreatW.PrintWords
def logP (log : Int) : Bool:=decide (10 <= log) && decide (log <= 17)
theorem logP_iff {log : Int} : logP log = true ↔ 10 <= log /\ log <= 17:=by unfold logP; rw [Bool.and_eq_true,decide_eq_true_eq,decide_eq_true_eq]
set_option maxRecDepth 100000 in
theorem b6h (log : Int) (w : World) : Calls Tryz.prog 46 #[.int .i64 log] w (λ e w'=>e = .returned (.bool (logP log)) /\ Drawn0 w w'):=by
 go_enter Tryz.func46,Tryz.ntmps46
 go_wp2_with fail
 all_goals
  go_ret
  refine ⟨a0Q ?_,Drawn0.refl _⟩
  unfold logP
  first | rfl | (rw [Bool.eq_iff_iff]; simp; done) | (rw [Bool.eq_iff_iff]; simp; omega)
theorem b6j (w : World) (cs : List Value) (e : TypeId) (fr : Nat × Nat) (j : Nat) (u : Value) (h : cs[j]? = some u) : (w.alloc (.cells cs.toArray e fr)).cell? ((⟨w.heap.size,0,none⟩ : Addr).add j) = some u:=by
 have h1 : (w.alloc (.cells cs.toArray e fr)).heap[w.heap.size]? = some (.cells cs.toArray e fr):=World.alloc_heap_new w _
 have e1 : ((⟨w.heap.size,0,none⟩ : Addr).add j) = ⟨w.heap.size,j,none⟩:=by
  unfold Addr.add
  split
  · rename_i h0; rw [h0]
  · simp
 rw [e1]
 unfold World.cell?
 rw [h1]
 simpa using h
set_option maxRecDepth 100000 in
theorem a5w (L : Nat) (w : World) (hL : 10 <= L /\ L <= 17) : Calls Tryz.prog 24 #[.int .i64 L] w (Told 0 (headL L) w):=by
 have h : logP (L : Int) = true:=logP_iff.2 (by omega)
 have hw8 : IntKind.u8.wrap (L : Int) = (L : Int):=by rw [IntKind.wrap_u8']; omega
 go_enter Tryz.func24,Tryz.ntmps24
 go_wp2_with fail
 refine (b6h L w).mono ?_
 rintro e w1 ⟨rfl,hd⟩
 rw [h]
 have HB:=Lib.hid hd.below
 clear hd
 have hcv:=Lib.run_convert_bytes_const (P:=Tryz.prog) w1 29 5 #[.int .u8 80,.int .u8 78,.int .u8 67,.int .u8 72] 4 4 Tryz.underlying29 Tryz.underlying5
 obtain ⟨w2,hw2⟩ : ∃ w2,w2 = w1.alloc (.cells #[.int .u8 80,.int .u8 78,.int .u8 67,.int .u8 72] 5 (4,5)):=⟨_,rfl⟩
 have hcv2 : (convert 29 29 (.slice (some ⟨w1.heap.size,0,none⟩) 4 4)).run Tryz.prog (w1.alloc (.cells #[.int .u8 80,.int .u8 78,.int .u8 67,.int .u8 72] 5)) = .ok (.slice (some ⟨w1.heap.size,0,none⟩) 4 4) w2:=by rw [hw2]; exact hcv
 have hb2 : Below w1.heap.size w1 w2:=by rw [hw2]; exact (Below.refl _ _).alloc (Nat.le_refl _) _
 have HC1 : Hid (∀ o : Obj,∀ j u,([.int .u8 80,.int .u8 78,.int .u8 67,.int .u8 72] : List Value)[j]? = some u -> (w2.alloc o).cell? ((⟨w1.heap.size,0,none⟩ : Addr).add j) = some u):=Lib.hid (λ o j u h=>a0o ((Below.refl _ _).alloc (Nat.le_refl _) o) (by rw [hw2]; exact b6j w1 _ 5 (4,5) j u h))
 have HC2 : Hid (∀ j u,([.int .u8 1,.int .u8 L,.int .u8 0,.int .u8 0] : List Value)[j]? = some u -> (w2.alloc (.cells #[.int .u8 1,.int .u8 L,.int .u8 0,.int .u8 0] 5)).cell? ((⟨w2.heap.size,0,none⟩ : Addr).add j) = some u):=Lib.hid (λ j u h=>b6j w2 _ 5 (0,0) j u h)
 have HB2 : Hid (Below w1.heap.size w1 (w2.alloc (.cells #[.int .u8 1,.int .u8 L,.int .u8 0,.int .u8 0] 5))):=Lib.hid (hb2.alloc hb2.size _)
 obtain ⟨i0,hi0,hz0,hz1,hz2⟩:=info_parts a0y
 have H0:=Lib.hid (And.intro hi0 (And.intro hz0 (And.intro hz1 hz2)))
 clear hcv hw2 hb2 hi0 hz0 hz1 hz2
 go_wp2_with (at_builtin; refine wpList_append_grows _ rfl (.tmp 8) (.tmp 11) 29 rfl 5 i0 (.int .u8 0) 1 1 Tryz.underlying29 H0.out.1 H0.out.2.1 H0.out.2.2.1 H0.out.2.2.2 rfl (by decide) (some ⟨w1.heap.size,0,none⟩) 4 4 [.int .u8 80,.int .u8 78,.int .u8 67,.int .u8 72] rfl (λ h=>by cases h) rfl (λ b hb j u h=>by injection hb with e; rw [<- e]; exact HC1.out _ j u h) ⟨w2.heap.size,0,none⟩ 4 4 [.int .u8 1,.int .u8 L,.int .u8 0,.int .u8 0] rfl rfl HC2.out (by simp [Value.oneCell']) (by decide) (by decide) (by decide) ?_; intro v4 w4 ho4 hg4; have HR4:=Lib.hid (And.intro ho4 hg4); clear ho4 hg4)
 have hr4 : (Kd.int .u8).R 5 w4 (w2.alloc (.cells #[.int .u8 1,.int .u8 L,.int .u8 0,.int .u8 0] 5)).heap.size (λ _=>True) v4 (headL L):=Kd.R_of_own (h1:=λ _=>rfl) HR4.out.1 (λ _ _=>trivial)
 obtain ⟨A4,c4,rfl⟩:=Kd.R_slice hr4
 have H4:=Lib.hid (Kd.R_lower hr4 (Nat.le_trans HB.out.size HB2.out.size))
 have HB4 : Hid (Below w.heap.size w w4):=Lib.hid (b1H (a0d HB.out HB2.out) HR4.out.2 (λ k hk=>by cases hk) (Nat.le_trans HB.out.size HB2.out.size))
 clear hr4
 go_ret2
 exact ⟨A4,c4,rfl,H4.out,HB4.out⟩
end Go.Proofs.YtamimiomglipmaaGreat
namespace Go.Proofs.YtamimiomglipmaaGreat
open Go.RowKit
def fullL (s : Nat) : Nat -> List Int -> List Int
 | 0,_=>[]
 | n + 1,x=>if s < x.length then putM (x.take s) false ++ fullL s n (x.drop s) else []
def endL (s : Nat) : Nat -> List Int -> List Int
 | 0,x=>x
 | n + 1,x=>if s < x.length then endL s n (x.drop s) else x
theorem a9Y (s : Nat) : ∀ (n : Nat) (x : List Int),blksM s n x = fullL s n x ++ putM (endL s n x) true
 | 0,_=>rfl
 | n + 1,x=>by
  unfold blksM fullL endL
  by_cases h : s < x.length
  · rw [if_pos h,if_pos h,if_pos h,a9Y s n,List.append_assoc]
  · rw [if_neg h,if_neg h,if_neg h,List.nil_append]
theorem a9Z {s : Nat} (hs : 0 < s) : ∀ (n m : Nat) (x : List Int),x.length <= n -> x.length <= m -> fullL s n x = fullL s m x /\ endL s n x = endL s m x /\ blksM s n x = blksM s m x
 | 0,0,_,_,_=>⟨rfl,rfl,rfl⟩
 | 0,m + 1,x,h,_=>by unfold fullL endL blksM; rw [if_neg (by omega),if_neg (by omega),if_neg (by omega)]; exact ⟨rfl,rfl,rfl⟩
 | n + 1,0,x,_,h=>by unfold fullL endL blksM; rw [if_neg (by omega),if_neg (by omega),if_neg (by omega)]; exact ⟨rfl,rfl,rfl⟩
 | n + 1,m + 1,x,h1,h2=>by
  unfold fullL endL blksM
  by_cases h : s < x.length
  · rw [if_pos h,if_pos h,if_pos h,if_pos h,if_pos h,if_pos h]
    obtain ⟨a,b,c⟩:=a9Z hs n m (x.drop s) (by rw [List.length_drop]; omega) (by rw [List.length_drop]; omega)
    rw [a,b,c]; exact ⟨rfl,rfl,rfl⟩
  · rw [if_neg h,if_neg h,if_neg h,if_neg h,if_neg h,if_neg h]; exact ⟨rfl,rfl,rfl⟩
theorem b6k {s : Nat} (hs : 0 < s) : ∀ (n : Nat) (x : List Int),x.length <= n -> (endL s n x).length <= s /\ (endL s n x).length <= x.length /\ (0 < x.length -> 0 < (endL s n x).length)
 | 0,x,h=>by unfold endL; omega
 | n + 1,x,h=>by
  unfold endL
  by_cases h1 : s < x.length
  · rw [if_pos h1]
    obtain ⟨a,b,c⟩:=b6k hs n (x.drop s) (by rw [List.length_drop]; omega)
    rw [List.length_drop] at b c
    exact ⟨a,by omega,λ _=>c (by omega)⟩
  · rw [if_neg h1]; omega
theorem b0a (s : Nat) : ∀ (n : Nat) {x : List Int},Bytes x -> x.length <= 131072 -> Bytes (fullL s n x)
 | 0,_,_,_=>λ _ h=>by cases h
 | n + 1,x,h,hl=>by
  unfold fullL
  split
  · exact a1l (a9J (a2n h s) (by rw [List.length_take]; omega) false) (b0a s n (a3o h s) (by rw [List.length_drop]; omega))
  · intro y hy; cases hy
theorem b6m {s : Nat} (hs : 0 < s) (b : List Int) : ∀ (n m k : Nat) (x : List Int),x.length + b.length <= n -> x.length <= m -> (endL s m x).length + b.length <= k ->
    fullL s n (x ++ b) = fullL s m x ++ fullL s k (endL s m x ++ b) /\ endL s n (x ++ b) = endL s k (endL s m x ++ b)
 | n,0,k,x,h1,h2,h3=>by
  have hx : x = []:=List.eq_nil_of_length_eq_zero (by omega)
  subst hx
  have e1 : fullL s 0 [] = []:=rfl
  have e2 : endL s 0 [] = []:=rfl
  rw [e2] at h3 ⊢
  rw [e1,List.nil_append,List.nil_append]
  obtain ⟨a,c,_⟩:=a9Z hs n k b (by simp at h1; omega) (by simp at h3; omega)
  exact ⟨a,c⟩
 | n,m + 1,k,x,h1,h2,h3=>by
  by_cases h : s < x.length
  · have e1 : fullL s (m + 1) x = putM (x.take s) false ++ fullL s m (x.drop s):=by rw [fullL,if_pos h]
    have e2 : endL s (m + 1) x = endL s m (x.drop s):=by rw [endL,if_pos h]
    obtain ⟨n,rfl⟩ : ∃ j,n = j + 1:=⟨n - 1,by omega⟩
    have e3 : fullL s (n + 1) (x ++ b) = putM (x.take s) false ++ fullL s n (x.drop s ++ b):=by
     rw [fullL,if_pos (by rw [List.length_append]; omega),List.take_append_of_le_length (by omega),List.drop_append_of_le_length (by omega)]
    have e4 : endL s (n + 1) (x ++ b) = endL s n (x.drop s ++ b):=by
     rw [endL,if_pos (by rw [List.length_append]; omega),List.drop_append_of_le_length (by omega)]
    rw [e2] at h3
    obtain ⟨a,c⟩:=b6m hs b n m k (x.drop s) (by rw [List.length_drop]; omega) (by rw [List.length_drop]; omega) h3
    rw [e1,e2,e3,e4,a,c,List.append_assoc]; exact ⟨rfl,rfl⟩
  · have e1 : fullL s (m + 1) x = []:=by rw [fullL,if_neg h]
    have e2 : endL s (m + 1) x = x:=by rw [endL,if_neg h]
    rw [e2] at h3
    obtain ⟨a,c,_⟩:=a9Z hs n k (x ++ b) (by rw [List.length_append]; omega) (by rw [List.length_append]; omega)
    rw [e1,e2,List.nil_append]; exact ⟨a,c⟩
def goneL (log : Nat) (x : List Int) : List Int:=headL log ++ fullL (2 ^ log) x.length x
def leftL (log : Nat) (x : List Int) : List Int:=endL (2 ^ log) x.length x
theorem b0b (log : Nat) (x b : List Int) : goneL log (x ++ b) = goneL log x ++ fullL (2 ^ log) (leftL log x ++ b).length (leftL log x ++ b) /\ leftL log (x ++ b) = endL (2 ^ log) (leftL log x ++ b).length (leftL log x ++ b):=by
 obtain ⟨a,c⟩:=b6m (Nat.two_pow_pos log) b (x ++ b).length x.length (leftL log x ++ b).length x (by rw [List.length_append]; omega) (Nat.le_refl _) (by rw [List.length_append]; exact Nat.le_refl _)
 unfold goneL
 rw [List.append_assoc]
 exact ⟨congrArg (headL log ++ ·) a,c⟩
theorem b0c (log : Nat) (x : List Int) : encM x log = goneL log x ++ (putM (leftL log x) true ++ tailL x):=by
 unfold encM goneL leftL
 rw [a9Y,List.append_assoc,List.append_assoc]
theorem c6M (log : Nat) : goneL log [] = headL log /\ leftL log [] = []:=⟨List.append_nil _,rfl⟩
theorem a5x (s : Nat) : ∀ n l : Nat,nBlks s n l <= n + 1
 | 0,_=>Nat.le_refl _
 | n + 1,l=>by
  unfold nBlks
  have:=a5x s n (l - s)
  split <;> omega
def wentL (L ph : Nat) (x : List Int) : List Int:=if ph = 0 then [] else goneL L x
def feedY (L ph : Nat) (x b : List Int) (last : Bool) : List Int:=
 (if ph = 0 then headL L else []) ++ (fullL (2 ^ L) (leftL L x ++ b).length (leftL L x ++ b) ++ (if last = true then putM (leftL L (x ++ b)) true ++ tailL (x ++ b) else []))
theorem a5y {L ph : Nat} {x : List Int} (h : ph = 0 -> x = []) (b : List Int) : wentL L ph x ++ feedY L ph x b false = goneL L (x ++ b):=by
 unfold wentL feedY
 rw [if_neg (by decide : ¬ (false = true)),List.append_nil]
 by_cases h0 : ph = 0
 · rw [if_pos h0,if_pos h0,h h0,(b0b L [] b).1,(c6M L).1]; rfl
 · rw [if_neg h0,if_neg h0,List.nil_append,(b0b L x b).1]
theorem c6N {s n : Nat} {r : List Int} (h : r.length <= n) (hl : s < r.length) (hs : 0 < s) : ∃ n',fullL s n r = putM (r.take s) false ++ fullL s n' (r.drop s) /\ endL s n r = endL s n' (r.drop s) /\ (r.drop s).length <= n':=by
 obtain ⟨m,rfl⟩ : ∃ j,n = j + 1:=⟨n - 1,by omega⟩
 refine ⟨m,?_,?_,by rw [List.length_drop]; omega⟩
 · conv=>lhs; unfold fullL
   rw [if_pos hl]
 · conv=>lhs; unfold endL
   rw [if_pos hl]
theorem b6n {s : Nat} {r : List Int} (hl : ¬ s < r.length) : ∀ n,fullL s n r = [] /\ endL s n r = r
 | 0=>⟨rfl,rfl⟩
 | n + 1=>by unfold fullL endL; rw [if_neg hl,if_neg hl]; exact ⟨rfl,rfl⟩
theorem b6o {L : Nat} (hL : L <= 17) {x : List Int} (hb : Bytes x) (hl : x.length <= 131072) : Bytes (goneL L x):=by
 unfold goneL
 refine a1l (λ y hy=>?_) (b0a _ _ hb hl)
 simp [headL] at hy; omega
theorem a3P (L : Nat) (x : List Int) : (leftL L x).length <= x.length:=(b6k (Nat.two_pow_pos L) x.length x (Nat.le_refl _)).2.1
theorem c6O (L : Nat) {x : List Int} (h : x.length <= 100000) : (goneL L x).length <= 2000000:=by
 have h1 : (goneL L x).length <= (encM x L).length:=by rw [b0c]; simp
 have h2:=(b6g x L).2
 have h3 : nBlks (2 ^ L) x.length x.length <= x.length + 1:=a5x _ _ _
 omega
theorem b0f {s : Nat} (n : Nat) (r : List Int) : (fullL s n r).length <= r.length + 11 * (n + 1):=by
 have h1 : (fullL s n r).length <= (blksM s n r).length:=by rw [a9Y]; simp
 have h2:=(a7r s n r).2
 have h3:=a5x s n r.length
 omega
theorem a3Q {L ph : Nat} {x b : List Int} {last : Bool} (h : x.length + b.length <= 100000) : (feedY L ph x b last).length <= 100000000:=by
 unfold feedY
 have h1:=b0f (s:=2 ^ L) (leftL L x ++ b).length (leftL L x ++ b)
 have h2:=a3P L x
 have h3:=a3P L (x ++ b)
 have h4:=a0J (leftL L (x ++ b)) true
 have h5:=a1P (leftL L (x ++ b))
 have hlen : (leftL L x ++ b).length = (leftL L x).length + b.length:=List.length_append
 rw [List.length_append] at h3
 have h6 : (if ph = 0 then headL L else []).length <= 8:=by split <;> simp [headL]
 have h7 : (if last = true then putM (leftL L (x ++ b)) true ++ tailL (x ++ b) else []).length <= 200000:=by
  split
  · rw [List.length_append,a1N]; omega
  · simp
 rw [List.length_append,List.length_append]
 omega
theorem b0i {L ph : Nat} {x : List Int} (h : x.length <= 100000) : (wentL L ph x).length <= 2000000:=by
 unfold wentL
 split
 · exact Nat.zero_le _
 · exact c6O L h
open Go.IntWalk Go.Proofs.YtamimiomglipmaaGreatW.PrintWords
theorem BSl.from_ {w : World} {A : Option Addr} {c : Nat} {p : List Int} (h : BSl w A c p) {k : Nat} (hk : k <= p.length) : BSl w (if c = k then A else A.map (·.add (k * 1))) (c - k) (p.drop k):=
 ⟨Kd.C_drop h.row hk h.cap,by rw [List.length_drop]; have:=h.cap; omega,λ ha=>by
  have h0 : A = none:=by
   split at ha
   · exact ha
   · exact Option.map_eq_none_iff.1 ha
  have:=h.nil h0; omega,λ x hx=>h.by' x (List.mem_of_mem_drop hx)⟩
def slN : Value -> Nat
 | .slice _ n _=>n
 | _=>0
def someL (b : List Int) (fill : Int) (k : Nat) : List Int:=b ++ List.replicate k fill
theorem a5z (b : List Int) (fill : Int) (k : Nat) : (someL b fill k).length = b.length + k:=by simp [someL]
theorem b0k {b : List Int} (h : Bytes b) {fill : Int} (hf : 0 <= fill /\ fill < 256) (k : Nat) : Bytes (someL b fill k):=λ x hx=>by
 rcases List.mem_append.1 hx with h1 | h1
 · exact h x h1
 · rw [List.eq_of_mem_replicate h1]; exact hf
theorem c6S (b : List Int) (fill : Int) (k : Nat) : someL b fill (k + 1) = someL b fill k ++ [fill]:=by unfold someL; rw [List.replicate_succ',List.append_assoc]
set_option maxRecDepth 100000 in
set_option maxHeartbeats 1000000 in
theorem b6p (A : Option Addr) (c : Nat) (b : List Int) (fill : Int) (more : Nat) (w : World) (hb : BSl w A c b) (hl : b.length <= 60) (hf : 0 <= fill /\ fill < 256) (hm : more < 65536) :
    Calls Tryz.prog 23 #[.slice A b.length c,.int .u8 fill,.int .u16 more] w (λ e w'=>∃ A' c',e = .returned (.slice A' (b.length + more % 2600) c') /\ BSl w' A' c' (someL b fill (more % 2600)) /\ Below w.heap.size w w'):=by
 have HX:=Lib.hid hb
 have HF:=Lib.hid hf
 have hw1 : IntKind.i64.wrap (more : Int) = (more : Int):=i64_in _ (by omega)
 obtain ⟨N,hN⟩ : ∃ N,N = more % 2600:=⟨_,rfl⟩
 have hm1 : (more : Int).tmod 2600 = (N : Int):=by rw [Int.tmod_eq_emod_of_nonneg (by omega),hN]; simp
 have hm2 : (more : Int) % 2600 = (N : Int):=by rw [hN]; simp
 have hNl : N < 2600:=by rw [hN]; exact Nat.mod_lt _ (by decide)
 rw [<- hN]
 have HE0 : Hid ((Kd.int .u8).R 5 (w.alloc (.cells #[] 5)) w.heap.size (λ _=>True) (.slice (some ⟨w.heap.size,0,none⟩) 0 0) []):=a2a .u8 5 w w.heap.size (λ _=>True) trivial (Nat.le_refl _) [] (by decide)
 have HB0 : Hid (Below w.heap.size w (w.alloc (.cells #[] 5))):=(Below.refl _ _).alloc (Nat.le_refl _) _
 have HRow0 : Hid ((Kd.int .u8).C (w.alloc (.cells #[] 5)) A b.length b):=Kd.C_alloc hb.row _
 have HL0 : Hid (([] : List Int).length + b.length <= 140737488355328):=Lib.hid (by simp; omega)
 have HN:=Lib.hid hN
 clear hb hf hN
 go_enter Tryz.func23,Tryz.ntmps23
 go_wp2_with (at_builtin; refine app8 rfl rfl rfl rfl HE0 HRow0 HB0 HB0.out.size HL0 ?_; intro A4 c4 w4 hr4 hb4 _; have HR4:=Lib.hid (And.intro hr4 hb4); clear hr4 hb4)
 go_loopw [7,8] (λ ov kv wr=>∃ (i : Nat) (Ao : Option Addr) (co : Nat),i <= N /\ ov = .slice Ao (b.length + i) co /\ kv = .int .i64 i /\ Hid ((Kd.int .u8).R 5 wr w.heap.size (λ _=>True) (.slice Ao (b.length + i) co) (someL b fill i) /\ Below w.heap.size w wr)) (λ _ kv _=>N - (intOf kv).toNat)
 case atStart=>exact ⟨0,A4,c4,by omega,by simp,rfl,Lib.hid ⟨by have:=HR4.out.1; simpa [someL] using this,HR4.out.2⟩⟩
 case round=>
  obtain ⟨i,Ao,co,hi,rfl,rfl,H⟩:=hrel
  by_cases hlt : i < N
  · have hI : (i : Int) < (N : Int):=by omega
    have HO:=Lib.hid H.out.1
    have HB:=Lib.hid H.out.2
    have HLn : Hid ((someL b fill i).length + 1 <= 140737488355328):=Lib.hid (by rw [a5z]; omega)
    have HNx:=Lib.hid (c6S b fill i)
    clear hlt
    go_wp2_with (at_builtin; refine app8i rfl rfl rfl rfl HO HB HB.out.size HLn ?_; intro A1 c1 w3 hr3 hb3 _; have HA:=Lib.hid (And.intro hr3 hb3); clear hr3 hb3)
    go_roundw
    case rel=>exact ⟨i + 1,A1,c1,by omega,by rw [a5z]; rfl,by go_num,Lib.hid ⟨by have:=HA.out.1; rw [a5z] at this; rw [HNx.out]; exact this,HA.out.2⟩⟩
    case measure=>simp [intOf]; omega
  · obtain rfl : i = N:=by omega
    go_wp2_with fail
    go_ret
    exact ⟨Ao,co,rfl,BSl.of H.out.1 (b0k HX.out.by' HF.out _),H.out.2⟩
theorem Only.behind {S : Nat -> Prop} {a b c : World} {B : Nat} (h : Only S a b) (k : Below B b c) (hB : a.heap.size <= B) : Only S a c:=
 ⟨k.os.trans h.os,k.tape.trans h.tape,k.output.trans h.output,Nat.le_trans h.size k.size,λ i hi hs=>(k.block i (Nat.lt_of_lt_of_le hi hB)).trans (h.block i hi hs)⟩
theorem BSl.only {w w' : World} {A : Option Addr} {c : Nat} {p : List Int} {S : Nat -> Prop} (h : BSl w A c p) (ho : Only S w w') (hs : 0 < p.length -> ∀ ad,A = some ad -> ¬ S ad.block) : BSl w' A c p:=
 ⟨b2h h.row (λ hn ad ha=>ho.block _ (a6d h.row hn ha) (hs hn ad ha)),h.cap,h.nil,h.by'⟩
theorem cell7 {w : World} {g : Nat} {a b c d e f n : Value} {t : Nat} (h : w.heap[g]? = some (.cells #[a,b,c,d,e,f,n] t (0,0))) :
    (w.cell? ⟨g,0,none⟩ = some a /\ w.cell? ⟨g,1,none⟩ = some b /\ w.cell? ⟨g,2,none⟩ = some c /\ w.cell? ⟨g,3,none⟩ = some d /\ w.cell? ⟨g,4,none⟩ = some e /\ w.cell? ⟨g,5,none⟩ = some f /\ w.cell? ⟨g,6,none⟩ = some n) /\
    (w.frozen? ⟨g,0,none⟩ = false /\ w.frozen? ⟨g,1,none⟩ = false /\ w.frozen? ⟨g,2,none⟩ = false /\ w.frozen? ⟨g,3,none⟩ = false /\ w.frozen? ⟨g,4,none⟩ = false /\ w.frozen? ⟨g,5,none⟩ = false /\ w.frozen? ⟨g,6,none⟩ = false):=
 ⟨⟨(a0a h 0).trans rfl,(a0a h 1).trans rfl,(a0a h 2).trans rfl,(a0a h 3).trans rfl,(a0a h 4).trans rfl,(a0a h 5).trans rfl,(a0a h 6).trans rfl⟩,a0c h 0,a0c h 1,a0c h 2,a0c h 3,a0c h 4,a0c h 5,a0c h 6⟩
def CompC (p : Nat) (L most fed sm : Int) (tb : Value) (rest nx : Value) (W : World) : Prop:=W.heap[p]? = some (.cells #[.int .i64 L,.int .i64 most,.int .i64 fed,.int .u32 sm,tb,rest,nx] 70 (0,0))
def Apart (p : Nat) (A : Option Addr) (x : List Int) : Prop:=0 < x.length -> ∀ ad,A = some ad -> ad.block ≠ p
def Above (r : Nat) (A : Option Addr) (x : List Int) : Prop:=0 < x.length -> ∀ ad,A = some ad -> r <= ad.block
theorem Above.from_ {r : Nat} {A : Option Addr} {c k : Nat} {x : List Int} (h : Above r A x) (hk : k <= x.length) : Above r (if c = k then A else A.map (·.add (k * 1))) (x.drop k):=by
 intro hn ad ha
 rw [List.length_drop] at hn
 split at ha
 · exact h (by omega) ad ha
 · obtain ⟨ad',h1,h2⟩:=Option.map_eq_some_iff.1 ha
   have:=h (by omega) ad' h1
   rw [<- h2]
   show r <= (ad'.add (k * 1)).block
   rw [a1w]; exact this
theorem Above.apart {r p : Nat} {A : Option Addr} {x : List Int} (h : Above r A x) (hp : p < r) : Apart p A x:=λ hn ad ha=>by
 have:=h hn ad ha; omega
def c6T (p b0 : Nat) (L most fed sm : Int) (tb nx : Value) (y r : List Int) (w : World) (e : Ending) (w' : World) : Prop:=
 ∃ A c Ar cr,e = .returned (.slice A y.length c) /\ (Kd.int .u8).R 5 w' w.heap.size (λ _=>True) (.slice A y.length c) y /\ CompC p L most fed sm tb (.slice Ar r.length cr) nx w' /\ BSl w' Ar cr r /\ Above b0 Ar r /\ Only (λ k=>k = p) w w'
theorem c6U {a b c : World} {B g : Nat} {o : Obj} (_ : b.heap[g]? = some o) (_ : Below B a b) (h2 : Below B a c) (hg : g < B) (h0 : a.heap[g]? = some o) : c.heap[g]? = some o:=(h2.block g hg).trans h0
set_option maxRecDepth 100000 in
set_option maxHeartbeats 2000000 in
theorem c6V (p b0 L : Nat) (most fed sm : Int) (tb nx : Value) (Ar : Option Addr) (cr : Nat) (r : List Int) (w : World) (hk : CompC p L most fed sm tb (.slice Ar r.length cr) nx w) (hr : BSl w Ar cr r) (ha : Above b0 Ar r) (hpb : p < b0) (hl : r.length <= 40000) (hL : 10 <= L /\ L <= 17) :
    Calls Tryz.prog 73 #[.pointer (some ⟨p,0,none⟩)] w (c6T p b0 L most fed sm tb nx (fullL (2 ^ L) r.length r) (endL (2 ^ L) r.length r) w):=by
 obtain ⟨s,hs⟩ : ∃ s : Nat,s = 2 ^ L:=⟨_,rfl⟩
 have hsI : (2 : Int) ^ L = (s : Int):=by rw [hs]; simp
 have hL0 : ¬ (L : Int) < 0:=by omega
 have hs2 : s <= 131072:=by rw [hs]; exact Nat.le_trans (Nat.pow_le_pow_right (by decide : 2 > 0) hL.2) (by decide)
 have hs1 : 1024 <= s:=by rw [hs]; exact Nat.le_trans (by decide) (Nat.pow_le_pow_right (by decide : 2 > 0) hL.1)
 have hsw : IntKind.i64.wrap (s : Int) = (s : Int):=i64_in _ (by omega)
 rw [<- hs]
 obtain ⟨T,hT⟩ : ∃ T,T = fullL s r.length r:=⟨_,rfl⟩
 obtain ⟨E,hE⟩ : ∃ E,E = endL s r.length r:=⟨_,rfl⟩
 have hTl : T.length <= 1000000:=by rw [hT]; have:=b0f (s:=s) r.length r; omega
 rw [<- hT,<- hE]
 have HX:=Lib.hid (And.intro hr (And.intro ha (And.intro hl (And.intro hT (And.intro hE hTl)))))
 have HK:=Lib.hid hk
 have HP:=Lib.hid (a0b hk)
 obtain ⟨⟨c0,c1,c2,c3,c4,c5,c6⟩,-⟩:=cell7 hk
 clear hk hr ha hl hT hE hTl hs
 go_enter Tryz.func73,Tryz.ntmps73
 go_wp2_with fail
 go_loopw [3,5,6] (λ ov _ _ wr=>∃ (Lo : List Int) (Ao : Option Addr) (co : Nat),ov = .slice Ao Lo.length co /\ Hid (∃ (q : List Int) (m : Nat) (Aq : Option Addr) (cq : Nat),(Kd.int .u8).R 5 wr w.heap.size (λ _=>True) (.slice Ao Lo.length co) Lo /\ CompC p L most fed sm tb (.slice Aq q.length cq) nx wr /\ BSl w Aq cq q /\ Above b0 Aq q /\ Only (λ k=>k = p) w wr /\ q.length <= m /\ q.length <= 40000 /\ Lo ++ fullL s m q = T /\ endL s m q = E)) (λ _ _ _ wr=>slN ((wr.cell? ⟨p,5,none⟩).getD undef))
 case atStart=>exact ⟨[],none,0,rfl,Lib.hid ⟨r,r.length,Ar,cr,Kd.R_nil _ _ _ _ _,HK.out,HX.out.1,HX.out.2.1,Only.refl _ _,Nat.le_refl _,HX.out.2.2.1,HX.out.2.2.2.1.symm,HX.out.2.2.2.2.1.symm⟩⟩
 case round=>
  obtain ⟨Lo,Ao,co,rfl,H⟩:=hrel
  obtain ⟨q,m,Aq,cq,hO,hK,hQ,hA,hon,hm,hq4,hLT,hEE⟩:=H.out
  obtain ⟨⟨d0,d1,d2,d3,d4,d5,d6⟩,f0,f1,f2,f3,f4,f5,f6⟩:=cell7 hK
  by_cases hlt : s < q.length
  · have hI : (s : Int) < (q.length : Int):=by omega
    obtain ⟨m',hm1,hm2,hm3⟩:=c6N hm hlt (by omega)
    have hsl:=a9y Aq q.length cq s (by omega) hQ.cap
    have hsf:=a4x Aq q.length cq s (by omega)
    have htl : (q.take s).length = s:=by rw [List.length_take]; omega
    have hdl : (q.drop s).length = q.length - s:=List.length_drop
    have hQw : BSl wr Aq cq q:=hQ.only hon (hA.apart hpb)
    have HP2:=Lib.hid (a5u Aq cq (q.take s) false wr (hQw.cut (k:=s) (by omega)).row (hQ.cut (k:=s) (by omega)).by' (by omega) (.inr (by omega)))
    rw [htl] at HP2
    obtain ⟨y,hy⟩ : ∃ y,y = putM (q.take s) false:=⟨_,rfl⟩
    rw [<- hy] at HP2 hm1
    rw [hm1] at hLT
    rw [hm2] at hEE
    have hyl : Lo.length + y.length <= 1000000:=by
     have h1:=HX.out.2.2.2.2.2
     rw [<- hLT,List.length_append,List.length_append] at h1
     omega
    have HDr:=Lib.hid (hQ.from_ (k:=s) (by omega))
    have HAp:=Lib.hid (hA.from_ (c:=cq) (k:=s) (by omega))
    obtain ⟨Ad,hAd⟩ : ∃ Ad,Ad = (if cq = s then Aq else Aq.map (·.add (s * 1))):=⟨_,rfl⟩
    rw [<- hAd] at HDr hsf HAp
    obtain ⟨rd,hrd⟩ : ∃ rd,rd = q.drop s:=⟨_,rfl⟩
    rw [<- hrd] at HDr hdl HAp hm3 hLT hEE
    have hrl : q.length - s = rd.length:=hdl.symm
    rw [hrl] at hsf
    have HN:=Lib.hid (And.intro hO (And.intro hK (And.intro hon (And.intro hm3 (And.intro hLT (And.intro hEE hq4))))))
    have HZ : Hid (Lo.length + y.length <= 140737488355328):=Lib.hid (by omega)
    have hrds : rd.length < q.length:=by omega
    clear hm1 hm2 hm3 htl hy hAd hrd hlt hQw hO hK hQ hA hon hm hq4 hLT hEE hyl H hrl hdl
    go_wp2_with fail
    refine HP2.out.mono ?_
    rintro e w3 ⟨A3,c3',rfl,hr3,hb3⟩
    have HO3:=Lib.hid (Kd.R_below HN.out.1 hb3)
    have HC3:=Lib.hid (Kd.R_reads' hr3).2.2
    have HK3:=Lib.hid (show CompC p L most fed sm tb (.slice Aq q.length cq) nx w3 from a0e HN.out.2.1 hb3)
    have HB3 : Hid (Below w.heap.size wr w3):=Lib.hid (hb3.mono HN.out.2.2.1.size)
    have HS3 : Hid (w.heap.size <= w3.heap.size):=Lib.hid (Nat.le_trans HN.out.2.2.1.size hb3.size)
    clear hr3 hb3 d0 d1 d2 d3 d4 d5 d6 f0 f1 f2 f3 f4 f5 f6
    go_wp2_with (at_builtin; refine app8 rfl rfl rfl rfl HO3 HC3 HB3 HS3.out HZ ?_; intro A4 c4' w4 hr4 hb4 _; have hk4:=c6U HK3.out HB3.out hb4 HP.out HN.out.2.1; have HR4:=Lib.hid (And.intro hr4 (And.intro hb4 hk4)); obtain ⟨⟨d0,d1,d2,d3,d4,d5,d6⟩,f0,f1,f2,f3,f4,f5,f6⟩:=cell7 hk4; clear hr4 hb4 hk4)
    go_roundw
    case rel=>exact ⟨Lo ++ y,A4,c4',by rw [List.length_append],Lib.hid ⟨rd,_,Ad,cq - s,by
     rw [List.length_append]
     exact a1i HR4.out.1 ((Only.refl (λ k=>k = p) w4).setCell (p:=⟨p,5,none⟩) rfl _) (λ k hk h=>by have:=HP.out; omega),(a0h HR4.out.2.2 5 _).trans rfl,HDr.out,HAp.out,(HN.out.2.2.1.behind HR4.out.2.1 (Nat.le_refl _)).setCell (p:=⟨p,5,none⟩) rfl _,HN.out.2.2.2.1,by have:=HN.out.2.2.2.2.2.2; omega,by rw [List.append_assoc]; exact HN.out.2.2.2.2.1,HN.out.2.2.2.2.2.1⟩⟩
    case measure=>
     have e1 : (w4.setCell ⟨p,5,none⟩ (.slice Ad rd.length (cq - s))).cell? ⟨p,5,none⟩ = some (.slice Ad rd.length (cq - s)):=(a0a ((a0h HR4.out.2.2 5 _).trans rfl) 5).trans rfl
     have e2 : wr.cell? ⟨p,5,none⟩ = some (.slice Aq q.length cq):=(a0a HN.out.2.1 5).trans rfl
     rw [e1,e2]
     exact hrds
  · have hI : ¬ (s : Int) < (q.length : Int):=by omega
    obtain ⟨e1,e2⟩:=b6n hlt m
    rw [e1,List.append_nil] at hLT
    rw [e2] at hEE
    subst hLT hEE
    have HF:=Lib.hid (And.intro hO (And.intro hK (And.intro (hQ.only hon (hA.apart hpb)) (And.intro hA hon))))
    clear hO hK hQ hA hon H e1 e2
    go_wp2_with fail
    go_ret
    exact ⟨Ao,co,Aq,cq,rfl,HF.out⟩
set_option maxRecDepth 100000 in
set_option maxHeartbeats 2000000 in
theorem c6W (p : Nat) (L most fed : Int) (sm : Nat) (tb nx : Value) (Ar : Option Addr) (cr : Nat) (r : List Int) (w : World) (hk : CompC p L most fed sm tb (.slice Ar r.length cr) nx w) (hr : BSl w Ar cr r) (hl : r.length <= 40000) (hsm : sm < 4294967296) :
    Calls Tryz.prog 74 #[.pointer (some ⟨p,0,none⟩)] w (λ e w'=>∃ A c,e = .returned (.slice A ((putM r true).length + 4) c) /\ (Kd.int .u8).R 5 w' w.heap.size (λ _=>True) (.slice A ((putM r true).length + 4) c) (putM r true ++ leN sm 4) /\ Below w.heap.size w w'):=by
 have HP:=Lib.hid (a5u Ar cr r true w hr.row hr.by' hl (.inl rfl))
 have hyl : (putM r true).length <= 100000:=by
  have h1:=a0J r true
  have h2:=a1P r
  omega
 obtain ⟨y,hy⟩ : ∃ y,y = putM r true:=⟨_,rfl⟩
 rw [<- hy] at HP hyl ⊢
 have HK:=Lib.hid hk
 obtain ⟨⟨c0,c1,c2,c3,c4,c5,c6⟩,-⟩:=cell7 hk
 clear hk hr hl hy
 go_enter Tryz.func74,Tryz.ntmps74
 go_wp2_with fail
 refine HP.out.mono ?_
 rintro e w1 ⟨A1,c1',rfl,hr1,hb1⟩
 have H1:=Lib.hid (And.intro hr1 hb1)
 have HK1:=Lib.hid (show CompC p L most fed sm tb (.slice Ar r.length cr) nx w1 from a0e HK.out hb1)
 clear hr1 hb1 c0 c1 c2 c3 c4 c5 c6
 go_wp2_with fail
 go_loopw [3,5,14] (λ v _ kv wr=>∃ (i : Nat) (Ao : Option Addr) (co : Nat),i <= 4 /\ v = .slice Ao (y.length + i) co /\ kv = .int .i64 i /\ Hid ((Kd.int .u8).R 5 wr w.heap.size (λ _=>True) (.slice Ao (y.length + i) co) (y ++ leN sm i) /\ Below w.heap.size w wr)) (λ _ _ kv _=>4 - (intOf kv).toNat)
 case atStart=>exact ⟨0,A1,c1',by omega,rfl,rfl,Lib.hid ⟨by show (Kd.int .u8).R _ _ _ _ _ (y ++ []); rw [List.append_nil]; exact H1.out.1,H1.out.2⟩⟩
 case round=>
  obtain ⟨i,Ao,co,hi,rfl,rfl,H⟩:=hrel
  by_cases hlt : i < 4
  · have hI : (i : Int) < 4:=by omega
    have HN:=Lib.hid (a9F sm i)
    have hLl : (y ++ leN sm i).length = y.length + i:=by rw [List.length_append,a1B]
    obtain ⟨Lo,hLo⟩ : ∃ Lo,Lo = y ++ leN sm i:=⟨_,rfl⟩
    rw [<- hLo] at H hLl
    have HLn : Hid (Lo.length + 1 <= 140737488355328):=Lib.hid (by omega)
    have HLl:=Lib.hid hLl
    have HO:=Lib.hid H.out.1
    have HB:=Lib.hid H.out.2
    have hk2 : CompC p L most fed sm tb (.slice Ar r.length cr) nx wr:=a0e HK.out H.out.2
    obtain ⟨⟨c0,c1,c2,c3,c4,c5,c6⟩,-⟩:=cell7 hk2
    have hcA : ∀ o : Obj,(wr.alloc o).cell? ⟨p,3,none⟩ = some (.int .u32 sm):=λ o=>a0o ((Below.refl _ _).alloc (Nat.le_refl _) o) c3
    have HE : Hid (∀ z : Int,z = ((sm / 256 ^ i % 256 : Nat) : Int) -> y ++ leN sm (i + 1) = Lo ++ [z]):=Lib.hid (λ z hz=>by rw [hz,HN.out,hLo,List.append_assoc])
    have hi4 : i = 0 \/ i = 1 \/ i = 2 \/ i = 3:=by omega
    clear hLo hLl HN hk2
    rcases hi4 with rfl | rfl | rfl | rfl
    all_goals
     go_wp2_with (at_builtin; refine app8i rfl rfl rfl rfl HO HB HB.out.size HLn ?_; intro A1 c1 w3 hr3 hb3 _; have HA:=Lib.hid (And.intro hr3 hb3); clear hr3 hb3)
     go_roundw
     case rel=>
      have hnn:=hsm
      have HV:=HA.out.1
      rw [HLl.out] at HV ⊢
      first
       | exact ⟨0 + 1,_,_,by omega,rfl,by go_num,Lib.hid ⟨by rw [HE.out ((sm : Int) % 256) (by clear HA HV; first | rfl | (simp; done) | (simp; omega))]; exact HV,HA.out.2⟩⟩
       | exact ⟨1 + 1,_,_,by omega,rfl,by go_num,Lib.hid ⟨by rw [HE.out ((sm : Int) / 256 % 256) (by clear HA HV; first | rfl | (simp; done) | (simp; omega))]; exact HV,HA.out.2⟩⟩
       | exact ⟨2 + 1,_,_,by omega,rfl,by go_num,Lib.hid ⟨by rw [HE.out ((sm : Int) / 65536 % 256) (by clear HA HV; first | rfl | (simp; done) | (simp; omega))]; exact HV,HA.out.2⟩⟩
       | exact ⟨3 + 1,_,_,by omega,rfl,by go_num,Lib.hid ⟨by rw [HE.out ((sm : Int) / 16777216) (by clear HA HV; simp; omega)]; exact HV,HA.out.2⟩⟩
     case measure=>first | (simp [intOf]; done) | (simp [intOf]; omega)
  · obtain rfl : i = 4:=by omega
    go_wp2_with fail
    go_ret
    exact ⟨Ao,co,rfl,H.out.1,H.out.2⟩
set_option maxRecDepth 100000 in
theorem b6q (k : Int) (w : World) :
    Calls Tryz.prog 72 #[.int .i64 k] w (λ e w'=>e = .returned (.func (.func 79) #[] #[.pointer (some ⟨w.heap.size,0,none⟩)]) /\ w' = w.alloc (.cells #[.int .i64 k] 24)):=by
 have hmf : ∀ (fn : Fn) (first cap : Array Value) (w : World),(Instr.makeFunc fn first cap).run Tryz.prog w = .ok (.func fn first cap) w:=λ _ _ _ _=>rfl
 go_enter Tryz.func72,Tryz.ntmps72
 go_wp2_with fail
 go_ret
 exact ⟨rfl,rfl⟩
def c6X (p ph : Nat) (k : Int) (nx : Value) (W : World) : Prop:=
 (ph = 0 /\ nx = .func (.func 45) #[.pointer (some ⟨p,0,none⟩)] #[]) \/
 (ph = 1 /\ nx = .func (.func 60) #[.pointer (some ⟨p,0,none⟩)] #[]) \/
 (ph = 2 /\ ∃ q,q ≠ p /\ nx = .func (.func 79) #[] #[.pointer (some ⟨q,0,none⟩)] /\ W.heap[q]? = some (.cells #[.int .i64 k] 24 (0,0)))
def CompAt (p b0 L most : Nat) (x : List Int) (nx : Value) (W : World) : Prop:=
 ∃ (t : Nat) (Ar : Option Addr) (cr : Nat),CompC p L most x.length (a0L 0 x : Nat) (.pointer (some ⟨t,0,none⟩)) (.slice Ar (leftL L x).length cr) nx W /\ TabAt t 256 W /\ t < p /\ BSl W Ar cr (leftL L x) /\ Above b0 Ar (leftL L x) /\ p < b0
def DoneAt (p : Nat) (L : Int) (n : Nat) (k : Int) (W : World) : Prop:=
 ∃ (b c tb r nx : Value),W.heap[p]? = some (.cells #[.int .i64 L,b,.int .i64 n,c,tb,r,nx] 70 (0,0)) /\ c6X p 2 k nx W
theorem DoneAt.mk_ {p n q : Nat} {k L most sm : Int} {tb r : Value} {W : World} (h : CompC p L most (n : Int) sm tb r (.func (.func 79) #[] #[.pointer (some ⟨q,0,none⟩)]) W) (hq : q ≠ p) (hk : W.heap[q]? = some (.cells #[.int .i64 k] 24 (0,0))) : DoneAt p L n k W:=
 ⟨_,_,_,_,_,h,.inr (.inr ⟨rfl,q,hq,rfl,hk⟩)⟩
theorem b6t {W : World} {B n c : Nat} {A : Option Addr} {xs : List Int} (h : (Kd.int .u8).R 5 W B (λ _=>True) (.slice A n c) xs) : Above B A xs:=by
 intro _ ad ha
 subst ha
 exact ((Kd.R_bound h).1 ad.block rfl).2.1
def CTakePost (p L most : Nat) (x b : List Int) (nx : Value) (l : Bool) (y : List Int) (w : World) (e : Ending) (w' : World) : Prop:=
 ∃ A c,e = .returned (.tuple #[.slice A y.length c,.int .i64 0]) /\ (Kd.int .u8).R 5 w' w.heap.size (λ _=>True) (.slice A y.length c) y /\ (l = false -> CompAt p w.heap.size L most (x ++ b) nx w') /\ (l = true -> DoneAt p L (x ++ b).length 18 w') /\ Only (λ k=>k = p) w w'
set_option maxRecDepth 100000 in
set_option maxHeartbeats 4000000 in
theorem b0l (p b0 L most : Nat) (x : List Int) (nx : Value) (A : Option Addr) (c : Nat) (b : List Int) (l : Bool) (w : World) (h : CompAt p b0 L most x nx w) (hb : BSl w A c b) (hap : Apart p A b) (hn : x.length + b.length <= most) (hm : most <= 1073741824) (hl : x.length + b.length <= 20000) (hL : 10 <= L /\ L <= 17) (hxb : Bytes x) :
    Calls Tryz.prog 60 #[.pointer (some ⟨p,0,none⟩),.slice A b.length c,.bool l] w (CTakePost p L most x b nx l (feedY L 1 x b l) w):=by
 obtain ⟨t,Ar,cr,hk,htab,htp,hrest,hrap0,hpb⟩:=h
 have hll:=a3P L x
 obtain ⟨r0,hr0⟩ : ∃ r0,r0 = leftL L x:=⟨_,rfl⟩
 rw [<- hr0] at hk hrest hrap0 hll
 have hrap:=hrap0.apart hpb
 obtain ⟨s0,hs0⟩ : ∃ s0,s0 = a0L 0 x:=⟨_,rfl⟩
 obtain ⟨s1,hs1⟩ : ∃ s1,s1 = a0L s0 b:=⟨_,rfl⟩
 have hs0l : s0 <= 4294967295:=by rw [hs0]; exact a5d _ _
 have hs1l : s1 < 4294967296:=by rw [hs1]; have:=a5d s0 b; omega
 have HCrc:=Lib.hid (show a0L 0 (x ++ b) = s1 by rw [hs1,hs0]; exact c2i (by decide) hxb)
 rw [<- hs0] at hk
 obtain ⟨⟨c0,c1,c2,c3,c4,c5,c6⟩,f0,f1,f2,f3,f4,f5,f6⟩:=cell7 hk
 have hwa : IntKind.i64.wrap ((most : Int) - (x.length : Int)) = (most : Int) - (x.length : Int):=i64_in _ (by omega)
 have hwb : IntKind.i64.wrap ((x.length : Int) + (b.length : Int)) = (x.length : Int) + (b.length : Int):=i64_in _ (by omega)
 have hd : decide ((most : Int) - (x.length : Int) < (b.length : Int)) = false:=decide_eq_false (by omega)
 have H0:=Lib.hid (And.intro hk (And.intro htab (And.intro htp (And.intro hrest (And.intro hrap (And.intro hb (And.intro hap (And.intro hll hs1))))))))
 have HR0:=Lib.hid hr0
 clear hk htab htp hrest hrap0 hpb hrap hb hap hll hs0 hs1 hr0 hxb
 go_enter Tryz.func60,Tryz.ntmps60
 go_wp2_with fail
 go_quiet (fail)
 go_wp2_with fail
 obtain ⟨w1,hw1⟩ : ∃ w1,w1 = (w.drewN nq).setCell ⟨p,2,none⟩ (.int .i64 ((x.length : Int) + (b.length : Int))):=⟨_,rfl⟩
 rw [<- hw1]
 have ho1 : Only (λ k=>k = p) w w1:=by rw [hw1]; exact ((Only.refl (λ k=>k = p) w).drewN nq).setCell (p:=⟨p,2,none⟩) rfl _
 have hk1 : CompC p L most ((x.length : Int) + (b.length : Int)) s0 (.pointer (some ⟨t,0,none⟩)) (.slice Ar r0.length cr) nx w1:=by rw [hw1]; exact (a0h (a0e H0.out.1 (a0i (Below.refl _ _) nq)) 2 _).trans rfl
 have ht1 : TabAt t 256 w1:=(ho1.block t (a0b H0.out.2.1) (by have:=H0.out.2.2.1; omega)).trans H0.out.2.1
 have hb1:=H0.out.2.2.2.2.2.1.only ho1 H0.out.2.2.2.2.2.2.1
 have HAd : Hid (∀ W : World,SLater w1 W -> Calls Tryz.prog 62 #[.pointer (some ⟨t,0,none⟩),.int .u32 s0,.slice A b.length c] W (λ e W'=>e = .returned (.int .u32 s1) /\ W = W')):=Lib.hid (λ W hW=>by
  have h2:=b5a t s0 A c b W (ht1.later hW) hs0l (Kd.C_below hb1.row hW) (by omega) hb1.by'
  rw [<- H0.out.2.2.2.2.2.2.2.2] at h2
  exact h2)
 clear c0 c1 c2 c3 c4 c5 c6 f0 f1 f2 f3 f4 f5 f6
 obtain ⟨⟨c0,c1,c2,c3,c4,c5,c6⟩,f0,f1,f2,f3,f4,f5,f6⟩:=cell7 hk1
 have s0' : SLater w1 w1:=Below.refl _ _
 have H1:=Lib.hid (And.intro ho1 (And.intro hk1 ht1))
 clear hw1 ho1 hk1 ht1 hb1
 go_cut [] (λ wx=>Hid (∃ W,SLater w1 W /\ SLater (W.setCell ⟨p,3,none⟩ (.int .u32 s1)) wx))
 case first=>
  go_region_law (go_simp; go_at_call 62; refine (HAd.out _ (by first | assumption | exact SLater.drew ‹_›)).mono ?_; rintro e w' ⟨rfl,rfl⟩)
  all_goals
   go_wp2_with fail
   go_meet
   first | exact Lib.hid ⟨w1,Below.refl _ _,Below.refl _ _⟩ | exact Lib.hid ⟨w1,Below.refl _ _,(Below.refl _ _).drew⟩ | exact Lib.hid ⟨w1,Below.refl _ _,(Below.refl _ _).drew.drew⟩
 case rest=>
  obtain ⟨W,hW,hB⟩:=hcut.out
  have hoW : Only (λ k=>k = p) w W:=H1.out.1.trans (Only.of_below hW)
  have ho2 : Only (λ k=>k = p) w wc:=(hoW.setCell (p:=⟨p,3,none⟩) rfl (.int .u32 s1)).trans (Only.of_below hB)
  have hk2 : CompC p L most ((x.length : Int) + (b.length : Int)) s1 (.pointer (some ⟨t,0,none⟩)) (.slice Ar r0.length cr) nx wc:=a0e ((a0h (a0e H1.out.2.1 hW) 3 _).trans rfl) hB
  have hp2 : p < wc.heap.size:=a0b hk2
  have ht2 : TabAt t 256 wc:=(ho2.block t (a0b H0.out.2.1) (by have:=H0.out.2.2.1; omega)).trans H0.out.2.1
  have hrest2:=H0.out.2.2.2.1.only ho2 H0.out.2.2.2.2.1
  have hb2:=H0.out.2.2.2.2.2.1.only ho2 H0.out.2.2.2.2.2.2.1
  have HE0 : Hid ((Kd.int .u8).R 5 (wc.alloc (.cells #[] 5)) wc.heap.size (λ _=>True) (.slice (some ⟨wc.heap.size,0,none⟩) 0 0) []):=a2a .u8 5 wc wc.heap.size (λ _=>True) trivial (Nat.le_refl _) [] (by decide)
  have HB0 : Hid (Below wc.heap.size wc (wc.alloc (.cells #[] 5))):=(Below.refl _ _).alloc (Nat.le_refl _) _
  have HRow0 : Hid ((Kd.int .u8).C (wc.alloc (.cells #[] 5)) Ar r0.length r0):=Kd.C_alloc hrest2.row _
  have HL1 : Hid (([] : List Int).length + r0.length <= 140737488355328):=Lib.hid (by simp; have:=H0.out.2.2.2.2.2.2.2.1; omega)
  have HL2 : Hid (r0.length + b.length <= 140737488355328):=Lib.hid (by have:=H0.out.2.2.2.2.2.2.2.1; omega)
  have hcA : ∀ o : Obj,(wc.alloc o).cell? ⟨p,5,none⟩ = some (.slice Ar r0.length cr):=λ o=>a0o ((Below.refl _ _).alloc (Nat.le_refl _) o) (cell7 hk2).1.2.2.2.2.2.1
  have HK:=Lib.hid (And.intro hk2 (And.intro ho2 (And.intro ht2 (And.intro hb2 hp2))))
  clear hoW ho2 hk2 hp2 ht2 hrest2 hb2 hW hB hcut c0 c1 c2 c3 c4 c5 c6 f0 f1 f2 f3 f4 f5 f6
  go_wp2_with (at_builtin; first
   | (refine app8 rfl rfl rfl rfl HE0 HRow0 HB0 HB0.out.size HL1 ?_
      intro A4 c4 w4 hr4 hb4 _
      rw [List.nil_append] at hr4
      have e4 : ([] : List Int).length + r0.length = r0.length:=by simp
      rw [e4] at hr4 ⊢
      have HO4:=Lib.hid hr4
      have HB4:=Lib.hid hb4
      have HC4:=Lib.hid (Kd.C_below HK.out.2.2.2.1.row hb4)
      have hk4:=a0e HK.out.1 hb4
      obtain ⟨⟨c0,c1,c2,c3,c4',c5,c6⟩,f0,f1,f2,f3,f4,f5,f6⟩:=cell7 hk4
      clear hr4 hb4 hk4 e4)
   | (refine app8 rfl rfl rfl rfl HO4 HC4 HB4 HB4.out.size HL2 ?_
      intro A5 e5 w5 hr5 hb5 _
      have HR5:=Lib.hid (And.intro hr5 hb5)
      have hk5:=a0e HK.out.1 hb5
      clear c0 c1 c2 c3 c4' c5 c6 f0 f1 f2 f3 f4 f5 f6
      obtain ⟨⟨c0,c1,c2,c3,c4',c5,c6⟩,f0,f1,f2,f3,f4,f5,f6⟩:=cell7 hk5
      clear hr5 hb5 hk5))
  obtain ⟨w6,hw6⟩ : ∃ w6,w6 = w5.setCell ⟨p,5,none⟩ (.slice A5 (r0.length + b.length) e5):=⟨_,rfl⟩
  rw [<- hw6]
  clear c0 c1 c2 c3 c4' c5 c6 f0 f1 f2 f3 f4 f5 f6
  have hle0 : w.heap.size <= wc.heap.size:=HK.out.2.1.size
  have ho5 : Only (λ k=>k = p) w w5:=HK.out.2.1.behind HR5.out.2 hle0
  have hs56 : Only (λ k=>k = p) w5 w6:=by rw [hw6]; exact (Only.refl (λ k=>k = p) w5).setCell (p:=⟨p,5,none⟩) rfl _
  have ho6:=ho5.trans hs56
  have hk6 : CompC p L most ((x.length : Int) + (b.length : Int)) s1 (.pointer (some ⟨t,0,none⟩)) (.slice A5 (r0 ++ b).length e5) nx w6:=by rw [hw6,List.length_append]; exact (a0h (a0e HK.out.1 HR5.out.2) 5 _).trans rfl
  have hab : Above wc.heap.size A5 (r0 ++ b):=b6t HR5.out.1
  have hS6 : BSl w6 A5 e5 (r0 ++ b):=(BSl.of HR5.out.1 (a1l H0.out.2.2.2.1.by' HK.out.2.2.2.1.by')).only hs56 (hab.apart HK.out.2.2.2.2)
  have HBl:=c6V p wc.heap.size L most ((x.length : Int) + (b.length : Int)) s1 (.pointer (some ⟨t,0,none⟩)) nx A5 e5 (r0 ++ b) w6 hk6 hS6 hab HK.out.2.2.2.2 (by rw [List.length_append]; have:=H0.out.2.2.2.2.2.2.2.1; omega) hL
  have hg:=b0b L x b
  rw [<- HR0.out] at hg
  rw [<- hg.2] at HBl
  have HY : Hid (feedY L 1 x b l = fullL (2 ^ L) (r0 ++ b).length (r0 ++ b) ++ (if l = true then putM (leftL L (x ++ b)) true ++ tailL (x ++ b) else [])):=Lib.hid (by unfold feedY; rw [if_neg (by decide),List.nil_append,HR0.out])
  have hYl:=b0f (s:=2 ^ L) (r0 ++ b).length (r0 ++ b)
  have hrl : (r0 ++ b).length <= 40000:=by rw [List.length_append]; have:=H0.out.2.2.2.2.2.2.2.1; omega
  have hql:=a3P L (x ++ b)
  rw [List.length_append] at hql
  obtain ⟨Y,hY⟩ : ∃ Y,Y = fullL (2 ^ L) (r0 ++ b).length (r0 ++ b):=⟨_,rfl⟩
  obtain ⟨q,hq⟩ : ∃ q,q = leftL L (x ++ b):=⟨_,rfl⟩
  rw [<- hY,<- hq] at HBl
  rw [<- hY,<- hq] at HY
  rw [<- hY] at hYl
  rw [<- hq] at hql
  have hYl2 : Y.length <= 1000000:=by omega
  have HBl:=Lib.hid HBl
  have H6:=Lib.hid (And.intro ho6 (And.intro hle0 hq))
  have ht6 : TabAt t 256 w6:=(hs56.block t (by have:=a0b HK.out.2.2.1; have:=HR5.out.2.size; omega) (by have:=H0.out.2.2.1; omega)).trans ((HR5.out.2.block t (a0b HK.out.2.2.1)).trans HK.out.2.2.1)
  have HT6:=Lib.hid ht6
  have hxb : ((x ++ b).length : Int) = (x.length : Int) + (b.length : Int):=by rw [List.length_append]; omega
  clear hw6 ho5 hs56 ho6 hk6 hab hS6 hg hY hq hYl hrl ht6
  refine HBl.out.mono ?_
  rintro e w7 ⟨A7,c7,A8,c8,rfl,hr7,hk7,hS7,hab7,ho7⟩
  have H7:=Lib.hid (And.intro hr7 (And.intro hk7 (And.intro hS7 (And.intro hab7 ho7))))
  have hle6 : w.heap.size <= w6.heap.size:=H6.out.1.size
  clear hr7 hk7 hS7 hab7 ho7
  have ho67:=H6.out.1.trans H7.out.2.2.2.2
  cases l with
  | false=>
   have HO:=Lib.hid ho67
   clear ho67
   go_wp2_with fail
   go_ret2
   have hYf : feedY L 1 x b false = Y:=by rw [HY.out,if_neg (by decide),List.append_nil]
   rw [hYf]
   refine ⟨A7,c7,rfl,Kd.R_lower H7.out.1 hle6,λ _=>?_,(λ h=>by cases h),HO.out⟩
   refine ⟨t,A8,c8,?_,(H7.out.2.2.2.2.block t (a0b HT6.out) (by have:=H0.out.2.2.1; omega)).trans HT6.out,H0.out.2.2.1,by rw [<- H6.out.2.2]; exact H7.out.2.2.1,λ hn ad h0=>by rw [<- H6.out.2.2] at hn; exact Nat.le_trans H6.out.2.1 (H7.out.2.2.2.1 hn ad h0),a0b H0.out.1⟩
   rw [hxb,HCrc.out,<- H6.out.2.2]
   exact H7.out.2.1
  | true=>
   have hk8 : ∀ o : Obj,CompC p L most ((x.length : Int) + (b.length : Int)) s1 (.pointer (some ⟨t,0,none⟩)) (.slice A8 q.length c8) nx (w7.alloc o):=λ o=>a0t H7.out.2.1 o
   have hc6 : ∀ o : Obj,(w7.alloc o).cell? ⟨p,6,none⟩ = some nx:=λ o=>(cell7 (hk8 o)).1.2.2.2.2.2.2
   have hf6 : ∀ o : Obj,(w7.alloc o).frozen? ⟨p,6,none⟩ = false:=λ o=>(cell7 (hk8 o)).2.2.2.2.2.2.2
   have HO:=Lib.hid (And.intro ho67 hk8)
   clear ho67 hk8
   go_wp2_with fail
   refine (b6q 18 w7).mono ?_
   rintro e w8 ⟨rfl,rfl⟩
   go_wp2_with fail
   obtain ⟨w9,hw9⟩ : ∃ w9,w9 = (w7.alloc (.cells #[.int .i64 18] 24)).setCell ⟨p,6,none⟩ (.func (.func 79) #[] #[.pointer (some ⟨w7.heap.size,0,none⟩)]):=⟨_,rfl⟩
   rw [<- hw9]
   have hk9 : CompC p L most ((x.length : Int) + (b.length : Int)) s1 (.pointer (some ⟨t,0,none⟩)) (.slice A8 q.length c8) (.func (.func 79) #[] #[.pointer (some ⟨w7.heap.size,0,none⟩)]) w9:=by rw [hw9]; exact (a0h (HO.out.2 _) 6 _).trans rfl
   have ho79 : Only (λ k=>k = p) w7 w9:=by rw [hw9]; exact ((Only.refl (λ k=>k = p) w7).alloc _).setCell (p:=⟨p,6,none⟩) rfl _
   have hq9 : w9.heap[w7.heap.size]? = some (.cells #[.int .i64 18] 24 (0,0)):=by rw [hw9]; exact a1e (a0f _ _) (p:=⟨p,6,none⟩) (by show w7.heap.size ≠ p; have:=a0b H7.out.2.1; omega) _
   have hp6 : p < w6.heap.size:=by have:=a0b H0.out.1; omega
   have hS9:=H7.out.2.2.1.only ho79 (H7.out.2.2.2.1.apart HK.out.2.2.2.2)
   have HEn:=Lib.hid (c6W p L most ((x.length : Int) + (b.length : Int)) s1 _ _ A8 c8 q w9 hk9 hS9 (by omega) hs1l)
   have hpl:=a0J q true
   have hbl:=a1P q
   obtain ⟨z,hz⟩ : ∃ z,z = putM q true:=⟨_,rfl⟩
   rw [<- hz] at HEn hpl
   have H9:=Lib.hid (And.intro hk9 (And.intro ho79 (And.intro hq9 (And.intro hp6 hz))))
   have HZ : Hid (Y.length + (z.length + 4) <= 140737488355328):=Lib.hid (by omega)
   clear hw9 hk9 ho79 hq9 hp6 hS9 hpl hbl hz hc6 hf6
   refine HEn.out.mono ?_
   rintro e w10 ⟨A10,c10,rfl,hr10,hb10⟩
   have HO10 : Hid ((Kd.int .u8).R 5 w10 w6.heap.size (λ _=>True) (.slice A7 Y.length c7) Y):=Lib.hid (Kd.R_below (a1i H7.out.1 H9.out.2.1 (λ k hk h=>by have:=H9.out.2.2.2.1; omega)) hb10)
   have HC10 : Hid ((Kd.int .u8).C w10 A10 (z.length + 4) (z ++ leN s1 4)):=Lib.hid (by have:=(Kd.R_reads' hr10).2.2; rw [List.length_append,a1B] at this; exact this)
   have HB10 : Hid (Below w6.heap.size w10 w10):=Lib.hid (Below.refl _ _)
   have HS10 : Hid (w6.heap.size <= w10.heap.size):=Lib.hid (Nat.le_trans H7.out.2.2.2.2.size (Nat.le_trans H9.out.2.1.size hb10.size))
   have HBt:=Lib.hid hb10
   have HOb : Hid (∀ k,(Value.slice A7 Y.length c7).ownBlock = some k -> k < w7.heap.size /\ w6.heap.size <= k):=Lib.hid (λ k hk=>by have:=((Kd.R_bound H7.out.1).1 k hk).2; exact ⟨this.2.1,this.1⟩)
   clear hr10 hb10
   go_wp2_with (at_builtin; refine app8 rfl rfl rfl rfl HO10 HC10 HB10 HS10.out HZ ?_; intro A11 c11 w11 hr11 hb11 hg11; have HR11:=Lib.hid (And.intro hr11 (And.intro hb11 hg11)); clear hr11 hb11 hg11)
   go_ret2
   have hYt : feedY L 1 x b true = Y ++ (z ++ leN s1 4):=by rw [HY.out,if_pos trivial,H9.out.2.2.2.2]; unfold tailL; rw [HCrc.out]
   have hlen : (feedY L 1 x b true).length = Y.length + (z.length + 4):=by rw [hYt,List.length_append,List.length_append,a1B]
   have hk11:=(HR11.out.2.1.block p H9.out.2.2.2.1).trans (a0e H9.out.1 HBt.out)
   have hq11:=a0O (a0e H9.out.2.2.1 HBt.out) HR11.out.2.2 (λ e=>by have:=(HOb.out _ e.symm).1; omega)
   refine ⟨A11,c11,?_,by rw [hlen,hYt]; exact Kd.R_lower HR11.out.1 hle6,(λ h=>by cases h),λ _=>?_,?_⟩
   · rw [hlen]; rfl
   · have hk12 : CompC p L most (((x ++ b).length : Nat) : Int) s1 (.pointer (some ⟨t,0,none⟩)) (.slice A8 q.length c8) (.func (.func 79) #[] #[.pointer (some ⟨w7.heap.size,0,none⟩)]) w11:=by rw [hxb]; exact hk11
     exact DoneAt.mk_ hk12 (by have:=a0b H7.out.2.1; omega) hq11
   · exact ((HO.out.1.trans H9.out.2.1).trans (Only.of_below HBt.out)).behind HR11.out.2.1 hle6
def bgV (p : Nat) : Value:=.func (.func 45) #[.pointer (some ⟨p,0,none⟩)] #[]
def tkV (p : Nat) : Value:=.func (.func 60) #[.pointer (some ⟨p,0,none⟩)] #[]
theorem CompAt.next {p b0 L most : Nat} {x : List Int} {nx : Value} {W : World} (h : CompAt p b0 L most x nx W) (v : Value) : CompAt p b0 L most x v (W.setCell ⟨p,6,none⟩ v):=by
 obtain ⟨t,Ar,cr,hk,ht,htp,hr,ha,hpb⟩:=h
 have ho : Only (λ k=>k = p) W (W.setCell ⟨p,6,none⟩ v):=(Only.refl (λ k=>k = p) W).setCell (p:=⟨p,6,none⟩) rfl _
 exact ⟨t,Ar,cr,(a0h hk 6 _).trans rfl,(ho.block t (a0b ht) (by omega)).trans ht,htp,hr.only ho (ha.apart hpb),ha,hpb⟩
theorem CompAt.cells {p b0 L most : Nat} {x : List Int} {nx : Value} {W : World} (h : CompAt p b0 L most x nx W) : (W.cell? ⟨p,0,none⟩ = some (.int .i64 L) /\ W.cell? ⟨p,2,none⟩ = some (.int .i64 x.length) /\ W.cell? ⟨p,6,none⟩ = some nx) /\ W.frozen? ⟨p,6,none⟩ = false /\ p < W.heap.size:=by
 obtain ⟨t,Ar,cr,hk,-⟩:=h
 obtain ⟨⟨c0,c1,c2,c3,c4,c5,c6⟩,f0,f1,f2,f3,f4,f5,f6⟩:=cell7 hk
 exact ⟨⟨c0,c2,c6⟩,f6,a0b hk⟩
theorem CompAt.below {p b0 L most : Nat} {x : List Int} {nx : Value} {W W' : World} (h : CompAt p b0 L most x nx W) (hb : Below W.heap.size W W') : CompAt p b0 L most x nx W':=by
 obtain ⟨t,Ar,cr,hk,ht,htp,hr,ha,hpb⟩:=h
 exact ⟨t,Ar,cr,a0e hk hb,a0e ht hb,htp,hr.below hb,ha,hpb⟩
theorem CompAt.low {p b0 b1 L most : Nat} {x : List Int} {nx : Value} {W : World} (h : CompAt p b0 L most x nx W) (hb : b1 <= b0) (hp : p < b1) : CompAt p b1 L most x nx W:=by
 obtain ⟨t,Ar,cr,hk,ht,htp,hr,ha,hpb⟩:=h
 exact ⟨t,Ar,cr,hk,ht,htp,hr,λ hn ad h0=>Nat.le_trans hb (ha hn ad h0),hp⟩
theorem CompAt.grown {p b0 L most : Nat} {x : List Int} {nx : Value} {W W' : World} {row : Option Nat} (h : CompAt p b0 L most x nx W) (hg : W.grownBy W' row) (hr0 : ∀ k,row = some k -> p < k /\ k < b0) : CompAt p b0 L most x nx W':=by
 obtain ⟨t,Ar,cr,hk,ht,htp,hr,ha,hpb⟩:=h
 have hne : ∀ k,k <= p \/ b0 <= k -> some k ≠ row:=λ k hk e=>by have:=hr0 k e.symm; omega
 exact ⟨t,Ar,cr,a0O hk hg (hne p (by omega)),a0O ht hg (hne t (by omega)),htp,
  ⟨b2h hr.row (λ hn ad h0=>hg.block _ (a6d hr.row hn h0) (hne _ (.inr (ha hn ad h0)))),hr.cap,hr.nil,hr.by'⟩,ha,hpb⟩
theorem DoneAt.below {p n : Nat} {L k : Int} {W W' : World} (h : DoneAt p L n k W) (hb : Below W.heap.size W W') : DoneAt p L n k W':=by
 obtain ⟨b,c,tb,r,nx,hk,hn⟩:=h
 refine ⟨b,c,tb,r,nx,a0e hk hb,?_⟩
 rcases hn with ⟨h,_⟩ | ⟨h,_⟩ | ⟨_,q,hq,e,hc⟩
 · omega
 · omega
 · exact .inr (.inr ⟨rfl,q,hq,e,a0e hc hb⟩)
set_option maxRecDepth 100000 in
set_option maxHeartbeats 1000000 in
theorem b6u (p b0 L most : Nat) (A : Option Addr) (c : Nat) (b : List Int) (l : Bool) (nx : Value) (w : World) (h : CompAt p b0 L most [] nx w) (hb : BSl w A c b) (hap : Apart p A b) (hn : b.length <= most) (hm : most <= 1073741824) (hl : b.length <= 20000) (hL : 10 <= L /\ L <= 17) :
    Calls Tryz.prog 45 #[.pointer (some ⟨p,0,none⟩),.slice A b.length c,.bool l] w (CTakePost p L most [] b (tkV p) l (feedY L 0 [] b l) w):=by
 have hmf : ∀ (fn : Fn) (first cap : Array Value) (w : World),(Instr.makeFunc fn first cap).run Tryz.prog w = .ok (.func fn first cap) w:=λ _ _ _ _=>rfl
 obtain ⟨⟨c0,c2,c6⟩,f6,hp⟩:=h.cells
 obtain ⟨w1,hw1⟩ : ∃ w1,w1 = w.setCell ⟨p,6,none⟩ (tkV p):=⟨_,rfl⟩
 have h1 : CompAt p b0 L most [] (tkV p) w1:=by rw [hw1]; exact h.next _
 have ho1 : Only (λ k=>k = p) w w1:=by rw [hw1]; exact (Only.refl (λ k=>k = p) w).setCell (p:=⟨p,6,none⟩) rfl _
 have HT:=Lib.hid (b0l p b0 L most [] (tkV p) A c b l w1 h1 (hb.only ho1 hap) hap (by simpa using hn) hm (by simpa using hl) hL (λ x hx=>by cases hx))
 obtain ⟨y,hy⟩ : ∃ y,y = feedY L 1 [] b l:=⟨_,rfl⟩
 have HY : Hid (feedY L 0 [] b l = headL L ++ y):=Lib.hid (by rw [hy]; rfl)
 have HYl : Hid (y.length <= 100000000):=Lib.hid (by rw [hy]; exact a3Q (by simp; omega))
 rw [<- hy] at HT
 have HP:=Lib.hid (And.intro hp ho1)
 have HLL:=Lib.hid hL
 unfold tkV at hw1
 clear h h1 ho1 hb hap hy hn hm hl hp
 go_enter Tryz.func45,Tryz.ntmps45
 go_wp2_with fail
 rw [<- hw1]
 clear hw1 c0 c2 c6 f6
 refine HT.out.mono ?_
 rintro e w2 ⟨A2,c2,rfl,hr2,hc2,hd2,ho2⟩
 have hL2 : w2.cell? ⟨p,0,none⟩ = some (.int .i64 L):=by
  cases l with
  | false=>exact (hc2 rfl).cells.1.1
  | true=>
   obtain ⟨b',c',tb,r,nx',hk,hn⟩:=hd2 rfl
   exact (a0a hk 0).trans rfl
 have H2:=Lib.hid (And.intro hr2 (And.intro hc2 (And.intro hd2 ho2)))
 have HH:=Lib.hid (a5w L w2 HLL.out)
 clear hr2 hc2 hd2 ho2
 go_wp2_with fail
 refine HH.out.mono ?_
 rintro e w3 ⟨A3,c3,rfl,hr3,hb3⟩
 have HO3:=Lib.hid hr3
 have HC3:=Lib.hid (Kd.R_reads' (Kd.R_below H2.out.1 hb3)).2.2
 have HS3 : Hid (w2.heap.size <= w3.heap.size):=Lib.hid hb3.size
 have HB3:=Lib.hid hb3
 have HZ3 : Hid ((headL L).length + y.length <= 140737488355328):=Lib.hid (by rw [a2A]; have:=HYl.out; omega)
 clear hr3 hb3
 go_wp2_with (at_builtin; refine app8 rfl rfl rfl rfl HO3 HC3 HB3 HS3.out HZ3 ?_; intro A4 c4 w4 hr4 hb4 _; have HR4:=Lib.hid (And.intro hr4 hb4); clear hr4 hb4)
 go_ret2
 have ho4 : Only (λ k=>k = p) w w4:=(HP.out.2.trans H2.out.2.2.2).behind HR4.out.2 (Nat.le_trans HP.out.2.size H2.out.2.2.2.size)
 rw [HY.out]
 refine ⟨A4,c4,by rw [List.length_append]; rfl,?_,λ e=>((H2.out.2.1 e).below HR4.out.2).low HP.out.2.size HP.out.1,λ e=>(H2.out.2.2.1 e).below HR4.out.2,ho4⟩
 rw [List.length_append]
 exact Kd.R_lower HR4.out.1 (Nat.le_trans HP.out.2.size H2.out.2.2.2.size)
def PushSt (p b0 L most ph : Nat) (x : List Int) (W : World) : Prop:=(ph = 0 /\ x = [] /\ CompAt p b0 L most [] (bgV p) W) \/ (ph = 1 /\ CompAt p b0 L most x (tkV p) W)
def a4C (p L most : Nat) (x b : List Int) (l : Bool) (y : List Int) (w : World) (e : Ending) (w' : World) : Prop:=
 ∃ A c,e = .returned (.tuple #[.slice A y.length c,.int .i64 0]) /\ (Kd.int .u8).R 5 w' w.heap.size (λ _=>True) (.slice A y.length c) y /\ (l = false -> PushSt p w.heap.size L most 1 (x ++ b) w') /\ (l = true -> DoneAt p L (x ++ b).length 18 w') /\ Only (λ k=>k = p) w w'
theorem CTakePost.feed {p L most : Nat} {x b : List Int} {l : Bool} {y : List Int} {w w' : World} {e : Ending} (h : CTakePost p L most x b (tkV p) l y w e w') : a4C p L most x b l y w e w':=by
 obtain ⟨A,c,h1,h2,h3,h4,h5⟩:=h
 exact ⟨A,c,h1,h2,λ e=>.inr ⟨rfl,h3 e⟩,h4,h5⟩
set_option maxRecDepth 100000 in
theorem a3p (p b0 L most ph : Nat) (x : List Int) (A : Option Addr) (c : Nat) (b : List Int) (w : World) (h : PushSt p b0 L most ph x w) (hb : BSl w A c b) (hap : Apart p A b) (hn : x.length + b.length <= most) (hm : most <= 1073741824) (hl : x.length + b.length <= 20000) (hL : 10 <= L /\ L <= 17) (hxb : Bytes x) :
    Calls Tryz.prog 26 #[.pointer (some ⟨p,0,none⟩),.slice A b.length c] w (a4C p L most x b false (feedY L ph x b false) w):=by
 rcases h with ⟨rfl,rfl,h⟩ | ⟨rfl,h⟩
 · obtain ⟨⟨c0,c2,c6⟩,f6,hp⟩:=h.cells
   have HT:=Lib.hid (b6u p b0 L most A c b false (bgV p) w h hb hap (by simpa using hn) hm (by simpa using hl) hL)
   unfold bgV at c6
   clear h hb hap hn hm hl hp
   go_enter Tryz.func26,Tryz.ntmps26
   go_wp2_with fail
   refine HT.out.mono ?_
   intro e w2 h2
   obtain ⟨A2,c2,rfl,h3⟩:=h2.feed
   have H3:=Lib.hid h3
   clear h2 h3
   go_wp2_with fail
   go_ret2
   exact ⟨A2,c2,rfl,H3.out.1,λ _=>H3.out.2.1 (by first | rfl | trivial),(λ h=>by cases h),H3.out.2.2.2⟩
 · obtain ⟨⟨c0,c2,c6⟩,f6,hp⟩:=h.cells
   have HT:=Lib.hid (b0l p b0 L most x (tkV p) A c b false w h hb hap hn hm hl hL hxb)
   unfold tkV at c6
   clear h hb hap hn hm hl hp hxb
   go_enter Tryz.func26,Tryz.ntmps26
   go_wp2_with fail
   refine HT.out.mono ?_
   intro e w2 h2
   obtain ⟨A2,c2,rfl,h3⟩:=h2.feed
   have H3:=Lib.hid h3
   clear h2 h3
   go_wp2_with fail
   go_ret2
   exact ⟨A2,c2,rfl,H3.out.1,λ _=>H3.out.2.1 (by first | rfl | trivial),(λ h=>by cases h),H3.out.2.2.2⟩
theorem DoneAt.cells {p n : Nat} {L k : Int} {w : World} (h : DoneAt p L n k w) : ∃ q,w.cell? ⟨p,6,none⟩ = some (.func (.func 79) #[] #[.pointer (some ⟨q,0,none⟩)]) /\ w.heap[q]? = some (.cells #[.int .i64 k] 24 (0,0)) /\ w.cell? ⟨p,2,none⟩ = some (.int .i64 n):=by
 obtain ⟨b,c,tb,r,nx,hk,hn⟩:=h
 obtain ⟨⟨c0,c1,c2,c3,c4,c5,c6⟩,-⟩:=cell7 hk
 rcases hn with ⟨h,_⟩ | ⟨h,_⟩ | ⟨_,q,hq,e,hc⟩
 · omega
 · omega
 · exact ⟨q,by rw [c6,e],hc,c2⟩
theorem BSl.none_ (w : World) : BSl w none 0 []:=⟨(Kd.R_reads' (Kd.R_nil (Kd.int .u8) 5 w w.heap.size (λ _=>True))).2.2,Nat.le_refl _,λ _=>rfl,λ x hx=>by cases hx⟩
set_option maxRecDepth 100000 in
theorem a5A (p b0 L most ph : Nat) (x : List Int) (w : World) (h : PushSt p b0 L most ph x w) (hn : x.length <= most) (hm : most <= 1073741824) (hl : x.length <= 20000) (hL : 10 <= L /\ L <= 17) (hxb : Bytes x) :
    Calls Tryz.prog 30 #[.pointer (some ⟨p,0,none⟩)] w (a4C p L most x [] true (feedY L ph x [] true) w):=by
 rcases h with ⟨rfl,rfl,h⟩ | ⟨rfl,h⟩
 · obtain ⟨⟨c0,c2,c6⟩,f6,hp⟩:=h.cells
   have HT:=Lib.hid (b6u p b0 L most none 0 [] true (bgV p) w h (BSl.none_ w) (λ h=>absurd h (Nat.lt_irrefl 0)) (by simp) hm (by simp) hL)
   unfold bgV at c6
   clear h hn hm hl hp
   go_enter Tryz.func30,Tryz.ntmps30
   go_wp2_with fail
   refine HT.out.mono ?_
   intro e w2 h2
   obtain ⟨A2,c2,rfl,h3⟩:=h2.feed
   have H3:=Lib.hid h3
   clear h2 h3
   go_wp2_with fail
   go_ret2
   exact ⟨A2,c2,rfl,H3.out.1,(λ h=>by cases h),λ _=>H3.out.2.2.1 (by first | rfl | trivial),H3.out.2.2.2⟩
 · obtain ⟨⟨c0,c2,c6⟩,f6,hp⟩:=h.cells
   have HT:=Lib.hid (b0l p b0 L most x (tkV p) none 0 [] true w h (BSl.none_ w) (λ h=>absurd h (Nat.lt_irrefl 0)) (by simpa using hn) hm (by simpa using hl) hL hxb)
   unfold tkV at c6
   clear h hn hm hl hp hxb
   go_enter Tryz.func30,Tryz.ntmps30
   go_wp2_with fail
   refine HT.out.mono ?_
   intro e w2 h2
   obtain ⟨A2,c2,rfl,h3⟩:=h2.feed
   have H3:=Lib.hid h3
   clear h2 h3
   go_wp2_with fail
   go_ret2
   exact ⟨A2,c2,rfl,H3.out.1,(λ h=>by cases h),λ _=>H3.out.2.2.1 (by first | rfl | trivial),H3.out.2.2.2⟩
set_option maxRecDepth 100000 in
theorem a4D (p : Nat) (n : Int) (w : World) (h : w.cell? ⟨p,2,none⟩ = some (.int .i64 n)) :
    Calls Tryz.prog 22 #[.pointer (some ⟨p,0,none⟩)] w (λ e w'=>e = .returned (.int .i64 n) /\ w = w'):=by
 go_enter Tryz.func22,Tryz.ntmps22
 go_wp2_with fail
 go_ret
 exact ⟨rfl,rfl⟩
theorem PushSt.fed {p b0 L most ph : Nat} {x : List Int} {w : World} (h : PushSt p b0 L most ph x w) : w.cell? ⟨p,2,none⟩ = some (.int .i64 x.length):=by
 rcases h with ⟨rfl,rfl,h⟩ | ⟨rfl,h⟩
 · exact h.cells.1.2.1
 · exact h.cells.1.2.1
theorem PushSt.below {p b0 L most ph : Nat} {x : List Int} {w w' : World} (h : PushSt p b0 L most ph x w) (hb : Below w.heap.size w w') : PushSt p b0 L most ph x w':=by
 rcases h with ⟨e1,e2,h⟩ | ⟨e1,h⟩
 · exact .inl ⟨e1,e2,h.below hb⟩
 · exact .inr ⟨e1,h.below hb⟩
theorem PushSt.low {p b0 b1 L most ph : Nat} {x : List Int} {w : World} (h : PushSt p b0 L most ph x w) (hb : b1 <= b0) (hp : p < b1) : PushSt p b1 L most ph x w:=by
 rcases h with ⟨e1,e2,h⟩ | ⟨e1,h⟩
 · exact .inl ⟨e1,e2,h.low hb hp⟩
 · exact .inr ⟨e1,h.low hb hp⟩
theorem PushSt.grown {p b0 L most ph : Nat} {x : List Int} {w w' : World} {row : Option Nat} (h : PushSt p b0 L most ph x w) (hg : w.grownBy w' row) (hr : ∀ k,row = some k -> p < k /\ k < b0) : PushSt p b0 L most ph x w':=by
 rcases h with ⟨e1,e2,h⟩ | ⟨e1,h⟩
 · exact .inl ⟨e1,e2,h.grown hg hr⟩
 · exact .inr ⟨e1,h.grown hg hr⟩
theorem PushSt.lt {p b0 L most ph : Nat} {x : List Int} {w : World} (h : PushSt p b0 L most ph x w) : p < w.heap.size:=by
 rcases h with ⟨e1,e2,h⟩ | ⟨e1,h⟩
 · exact h.cells.2.2
 · exact h.cells.2.2
def c7b (L most : Nat) (w : World) (e : Ending) (w' : World) : Prop:=∃ p,e = .returned (.tuple #[.pointer (some ⟨p,0,none⟩),.int .i64 0]) /\ PushSt p (p + 1) L most 0 [] w' /\ w.heap.size <= p /\ Below w.heap.size w w'
set_option maxRecDepth 100000 in
set_option maxHeartbeats 1000000 in
theorem a4E (L most : Nat) (w : World) (hL : 10 <= L /\ L <= 17) (hm : most <= 1073741824) :
    Calls Tryz.prog 21 #[.int .i64 L,.int .i64 most] w (c7b L most w):=by
 have hmf : ∀ (fn : Fn) (first cap : Array Value) (w : World),(Instr.makeFunc fn first cap).run Tryz.prog w = .ok (.func fn first cap) w:=λ _ _ _ _=>rfl
 have d1 : decide ((most : Int) < 0) = false:=decide_eq_false (by omega)
 have d2 : decide ((1073741824 : Int) < (most : Int)) = false:=decide_eq_false (by omega)
 have HH:=Lib.hid (a5w L w hL)
 clear hL hm
 go_enter Tryz.func21,Tryz.ntmps21
 go_wp2_with fail
 refine HH.out.mono ?_
 rintro e w1 ⟨A1,c1,rfl,hr1,hb1⟩
 have HB1:=Lib.hid hb1
 clear hr1 hb1
 go_wp2_with fail
 refine (a3J w1).mono ?_
 rintro e w2 ⟨t,rfl,ht1,ht2,hb2⟩
 have H2:=Lib.hid (And.intro ht1 (And.intro ht2 hb2))
 clear ht1 ht2 hb2
 go_wp2_with fail
 go_ret2
 have hb3:=(Below.refl w2.heap.size w2).alloc (Nat.le_refl _) (.cells #[.int .i64 L,.int .i64 most,.int .i64 0,.int .u32 0,.pointer (some ⟨t,0,none⟩),.slice none 0 0,bgV w2.heap.size] 70)
 refine ⟨w2.heap.size,rfl,.inl ⟨rfl,rfl,t,none,0,?_,H2.out.2.1.later hb3,a0b H2.out.2.1,BSl.none_ _,λ h=>absurd h (Nat.lt_irrefl 0),Nat.lt_succ_self _⟩,Nat.le_trans HB1.out.size H2.out.2.2.size,a0d (a0d HB1.out H2.out.2.2) hb3⟩
 exact a0f w2 _
theorem b555 : Bytes [5,5,5]:=by intro x hx; simp at hx; omega
theorem b6z : bestP [5,5,5] = (1,[5]):=c6q b555 (by decide) (by decide)
theorem c7t : (putM [5,5,5] true).length = 12:=by rw [a0J,b6z]; rfl
theorem a7s {s n : Nat} {x : List Int} (h : x.length <= s) : fullL s n x = [] /\ endL s n x = x:=b6n (by omega) n
theorem b6A {L : Nat} {x : List Int} (h : x.length <= 2 ^ L) : leftL L x = x:=(a7s h).2
theorem c7u : feedY 10 0 [] [] false = [80,78,67,72,1,10,0,0]:=by
 unfold feedY
 rw [(a7s (by show 0 <= 2 ^ 10; exact Nat.zero_le _)).1]
 rfl
theorem c7v : feedY 10 1 [] [5,5,5] false = []:=by
 unfold feedY
 rw [(a7s (by show 3 <= 2 ^ 10; decide)).1]
 rfl
theorem c7w : (feedY 10 1 [5,5,5] [] true).length = 16:=by
 unfold feedY
 rw [b6A (by show 3 <= 2 ^ 10; decide),(a7s (by show 3 <= 2 ^ 10; decide)).1,List.append_nil,b6A (by show 3 <= 2 ^ 10; decide),if_pos rfl,if_neg (by decide),List.nil_append,List.nil_append,List.length_append,c7t,a1N]
theorem c7x (p : Nat) (A : Option Addr) : Apart p A []:=λ h=>absurd h (Nat.lt_irrefl 0)
theorem BSl.apart {w : World} {A : Option Addr} {c p : Nat} {x : List Int} (h : BSl w A c x) (hp : w.heap.size <= p) : Apart p A x:=λ hn ad ha=>by
 have:=a6d h.row hn ha; omega
set_option maxRecDepth 100000 in
set_option maxHeartbeats 2000000 in
theorem a2p (w : World) : Calls Tryz.prog 20 #[] w (Ret (.bool true) w):=by
 have HNew:=a4E 10 100 w (by decide) (by decide)
 rw [show ((10 : Nat) : Int) = 10 from rfl,show ((100 : Nat) : Int) = 100 from rfl] at HNew
 go_enter Tryz.func20,Tryz.ntmps20
 go_wp2_with fail
 refine HNew.mono ?_
 rintro e w1 ⟨p,rfl,hs1,hp1,hb1⟩
 have HF:=Lib.hid (a3p p (p + 1) 10 100 0 [] none 0 [] w1 hs1 (BSl.none_ w1) (c7x _ _) (by decide) (by decide) (by decide) (by decide) (λ x hx=>by cases hx))
 rw [c7u] at HF
 have H1:=Lib.hid (And.intro hp1 (And.intro hb1 hs1.lt))
 clear hs1 hp1 hb1 HNew
 go_wp2_with fail
 refine HF.out.mono ?_
 rintro e w2 ⟨A2,c2,rfl,hr2,hs2,-,ho2⟩
 obtain ⟨w3,hw3⟩ : ∃ w3,w3 = w2.alloc (.cells #[.int .u8 5,.int .u8 5,.int .u8 5] 5):=⟨_,rfl⟩
 have hb23 : Below w2.heap.size w2 w3:=by rw [hw3]; exact (Below.refl _ _).alloc (Nat.le_refl _) _
 have hS3 : BSl w3 (some ⟨w2.heap.size,0,none⟩) 3 [5,5,5]:=by rw [hw3]; exact c4o [5,5,5] b555 (by decide)
 have hs3:=(hs2 rfl).below hb23
 have HF2:=Lib.hid (a3p p w1.heap.size 10 100 1 ([] ++ []) (some ⟨w2.heap.size,0,none⟩) 3 [5,5,5] w3 hs3 hS3 (λ _ ad ha=>by injection ha with e; rw [<- e]; show w2.heap.size ≠ p; have:=(hs2 rfl).lt; omega) (by decide) (by decide) (by decide) (by decide) (λ x hx=>by cases hx))
 rw [show ([] ++ [] : List Int) = [] from rfl,c7v] at HF2
 have H3:=Lib.hid (And.intro (Kd.R_below hr2 hb23) (And.intro ho2 hb23))
 clear hr2 hs2 ho2 hb23 hS3 hs3
 go_wp2_with fail
 rw [<- hw3]
 clear hw3
 refine HF2.out.mono ?_
 rintro e w4 ⟨A4,c4,rfl,-,hs4,-,ho4⟩
 have HFi:=a5A p w3.heap.size 10 100 1 [5,5,5] w4 (hs4 rfl) (by decide) (by decide) (by decide) (by decide) b555
 have hyl:=c7w
 obtain ⟨y,hy⟩ : ∃ y,y = feedY 10 1 [5,5,5] [] true:=⟨_,rfl⟩
 rw [<- hy] at HFi hyl
 have HFi:=Lib.hid HFi
 have HY:=Lib.hid hyl
 have H4:=Lib.hid ho4
 clear hs4 ho4 hy hyl
 go_wp2_with fail
 refine HFi.out.mono ?_
 rintro e w5 ⟨A5,c5,rfl,hr5,-,hd5,ho5⟩
 have hp:=H1.out.2.2
 have hr25 : (Kd.int .u8).R 5 w5 w1.heap.size (λ _=>True) (.slice A2 8 c2) [80,78,67,72,1,10,0,0]:=a1i (a1i H3.out.1 H4.out (λ k hk h=>by omega)) ho5 (λ k hk h=>by omega)
 have v1 : (convert 29 9 (.slice A2 8 c2)).run Tryz.prog w5 = .ok (.string ⟨#[80,78,67,72,1,10,0,0]⟩) w5:=(BSl.of hr25 (by intro x hx; simp at hx; omega)).str
 obtain ⟨q,-,-,c2f⟩:=(hd5 rfl).cells
 have HFed:=Lib.hid (a4D p _ w5 c2f)
 have hBf : Below w.heap.size w w5:=by
  have hO : Only (λ k=>k = p) w1 w5:=(((H3.out.2.1.behind H3.out.2.2 H3.out.2.1.size).trans H4.out).trans ho5)
  exact H1.out.2.1.trans (hO.below H1.out.2.1.size (λ k hk=>by have:=H1.out.1; omega))
 have HBf:=Lib.hid hBf
 rw [HY.out]
 clear hr5 hd5 ho5 hr25 hBf c2f
 go_wp2_with fail
 refine HFed.out.mono ?_
 rintro e w6 ⟨rfl,rfl⟩
 go_wp2_with fail
 go_ret
 exact ⟨rfl,HBf.out⟩
def kb (w0 : World) : Kd (List Int) where
 sz:=1
 E:=[]
 K:=λ _ x cs=>∃ A c,cs = [.slice A x.length c] /\ BSl w0 A c x
 M:=λ _ _ _ x cs=>∃ A c,cs = [.slice A x.length c] /\ BSl w0 A c x
 K_len:=by rintro w x cs ⟨A,c,rfl,_⟩; rfl
 K_one:=by rintro w x cs ⟨A,c,rfl,_⟩ u hu; rw [List.mem_singleton.1 hu]; rfl
 K_below:=λ _ h=>h
 K_of_M:=λ h=>h
 M_mono:=λ _ h=>h
 M_bound:=λ h=>h
 M_move:=λ _ h=>h
 M_lower:=λ _ h=>h
def cutsL : List Int -> List Nat -> List (List Int)
 | b,[]=>[b]
 | b,n :: l=>b.take (n % (b.length + 1)) :: cutsL (b.drop (n % (b.length + 1))) l
theorem c7y (q : List Int) (m : Nat) (r : List Nat) : cutsL q (m :: r) = q.take (m % (q.length + 1)) :: cutsL (q.drop (m % (q.length + 1))) r:=rfl
theorem a7t : ∀ (l : List Nat) (b : List Int),(cutsL b l).flatten = b
 | [],b=>by simp [cutsL]
 | n :: l,b=>by
  unfold cutsL
  rw [List.flatten_cons,a7t l,List.take_append_drop]
theorem a5C : ∀ (l : List Nat) (b : List Int),(cutsL b l).length = l.length + 1
 | [],_=>rfl
 | n :: l,b=>by unfold cutsL; rw [List.length_cons,a5C l,List.length_cons]
def a0q (L : List (List Int)) (i : Nat) : List Int:=(L.take i).flatten
theorem b0m (L : List (List Int)) {i : Nat} (h : i < L.length) : a0q L (i + 1) = a0q L i ++ L.getD i []:=by
 unfold a0q
 rw [List.take_succ_eq_append_getElem h,List.flatten_append,List.getD_eq_getElem?_getD,List.getElem?_eq_getElem h]
 simp
theorem a7u (L : List (List Int)) (i : Nat) : (a0q L i).length <= L.flatten.length:=by
 unfold a0q
 conv=>rhs; rw [<- List.take_append_drop i L,List.flatten_append,List.length_append]
 omega
theorem a7v {L : List (List Int)} (h : Bytes L.flatten) (i : Nat) : Bytes (a0q L i):=λ x hx=>by
 refine h x ?_
 have e : L.flatten = (L.take i).flatten ++ (L.drop i).flatten:=by rw [<- List.flatten_append,List.take_append_drop]
 rw [e]
 exact List.mem_append_left _ hx
theorem b0n {w0 w : World} {B n c : Nat} {A : Option Addr} {L : List (List Int)} (h : (kb w0).R 29 w B (λ _=>True) (.slice A n c) L) {i : Nat} (hi : i < L.length) :
    ∃ ad Ai ci,A = some ad /\ w.cell? (ad.add i) = some (.slice Ai (L.getD i []).length ci) /\ BSl w0 Ai ci (L.getD i []):=by
 obtain ⟨hn,-,hr⟩:=Kd.R_reads' h
 obtain ⟨ad,cs,ha,-,⟨Ai,ci,rfl,hb⟩,hc⟩:=ReadsRow.get_ hr ([] : List Int) (i : Int) (by omega) (by omega)
 rw [Int.toNat_natCast] at hb hc
 refine ⟨ad,Ai,ci,ha,?_,hb⟩
 have:=hc 0 _ rfl
 rw [show i * (kb w0).sz + 0 = i by show i * 1 + 0 = i; omega] at this
 exact this
theorem b6B : (Tryz.prog.info? 29).map (λ i=>(i.zero,i.size,i.bytes)) = some (some (.slice none 0 0),1,24):=by kernel_rfl
def natL (l : List Int) : List Nat:=l.map Int.toNat
set_option maxRecDepth 100000 in
set_option maxHeartbeats 2000000 in
theorem b0o (A Al : Option Addr) (c cl : Nat) (b l : List Int) (w0 w : World) (hb : BSl w0 A c b) (hl : (Kd.int .u16).C w Al l.length l) (_ : l.length <= cl) (hll : l.length <= 8) (hlw : ∀ x ∈ l,0 <= x /\ x < 65536) (hbl : b.length <= 100000) :
    Calls Tryz.prog 25 #[.slice A b.length c,.slice Al l.length cl] w (λ e w'=>∃ A' c',e = .returned (.slice A' (l.length + 1) c') /\ (kb w0).R 29 w' w.heap.size (λ _=>True) (.slice A' (l.length + 1) c') (cutsL b (natL l)) /\ Below w.heap.size w w'):=by
 have HX:=Lib.hid (And.intro hb (And.intro hl (And.intro hlw hbl)))
 clear hb hl hlw
 go_enter Tryz.func25,Tryz.ntmps25
 go_wp2_with fail
 go_loopw [0,5,6,7] (λ bv ov kv _ wr=>∃ (i : Nat) (Ao Ab : Option Addr) (co cb : Nat) (q : List Int),i <= l.length /\ bv = .slice Ab q.length cb /\ ov = .slice Ao i co /\ kv = .int .i64 i /\ q.length <= 100000 /\ Hid (∃ Lo,(kb w0).R 29 wr w.heap.size (λ _=>True) (.slice Ao i co) Lo /\ Lo.length = i /\ Lo ++ cutsL q (natL (l.drop i)) = cutsL b (natL l) /\ BSl w0 Ab cb q /\ Below w.heap.size w wr)) (λ _ _ kv _ _=>l.length - (intOf kv).toNat)
 case atStart=>exact ⟨0,none,A,0,c,b,by omega,rfl,rfl,rfl,HX.out.2.2.2,Lib.hid ⟨[],Kd.R_nil _ _ _ _ _,rfl,by rw [List.drop_zero]; rfl,HX.out.1,Below.refl _ _⟩⟩
 case round=>
  obtain ⟨i,Ao,Ab,co,cb,q,hi,rfl,rfl,rfl,hql,H⟩:=hrel
  obtain ⟨Lo,hO,hLo,hLT,hQ,hB⟩:=H.out
  by_cases hlt : i < l.length
  · obtain ⟨ad,hA,hci⟩:=a0u HX.out.2.1 i hlt
    subst hA
    have hx:=HX.out.2.2.1 _ (a1p hlt)
    obtain ⟨m,hm⟩ : ∃ m : Nat,l.getD i 0 = (m : Int):=⟨(l.getD i 0).toNat,by omega⟩
    have hnat : natL (l.drop i) = m :: natL (l.drop (i + 1)):=by
     have e : l[i] = (m : Int):=by rw [<- hm,List.getD_eq_getElem?_getD,List.getElem?_eq_getElem hlt]; rfl
     rw [List.drop_eq_getElem_cons hlt,e]
     unfold natL
     rw [List.map_cons,Int.toNat_natCast]
    rw [hm] at hci hx
    obtain ⟨n,hn⟩ : ∃ n,n = m % (q.length + 1):=⟨_,rfl⟩
    have hnq : n <= q.length:=by have:=Nat.mod_lt m (by omega : 0 < q.length + 1); omega
    rw [hnat] at hLT
    rw [c7y,<- hn] at hLT
    have hI : (i : Int) < (l.length : Int):=by omega
    have hwr : IntKind.i64.wrap (m : Int) = (m : Int):=i64_in _ (by omega)
    have hq1 : IntKind.i64.wrap ((q.length : Int) + 1) = (q.length : Int) + 1:=i64_in _ (by omega)
    have hm1 : (m : Int).tmod ((q.length : Int) + 1) = (n : Int):=by rw [Int.tmod_eq_emod_of_nonneg (by omega),hn]; simp
    have hm2 : (m : Int) % ((q.length : Int) + 1) = (n : Int):=by rw [hn]; simp
    have hz : ((q.length : Int) + 1 == 0) = false:=by simp; omega
    have hz2 : ¬ (q.length : Int) + 1 = 0:=by omega
    have hci':=a0o hB hci
    have hsl:=a9y Ab q.length cb n hnq hQ.cap
    have hsf:=a4x Ab q.length cb n hnq
    have htl : (q.take n).length = n:=by rw [List.length_take]; omega
    have hdl : (q.drop n).length = q.length - n:=List.length_drop
    have HT:=Lib.hid (show (kb w0).M wr w.heap.size (λ _=>False) (q.take n) [.slice Ab n cb] from ⟨Ab,cb,by rw [htl],hQ.cut hnq⟩)
    have HD:=Lib.hid (hQ.from_ hnq)
    obtain ⟨Ad,hAd⟩ : ∃ Ad,Ad = (if cb = n then Ab else Ab.map (·.add (n * 1))):=⟨_,rfl⟩
    rw [<- hAd] at HD hsf
    obtain ⟨qd,hqd⟩ : ∃ qd,qd = q.drop n:=⟨_,rfl⟩
    obtain ⟨qt,hqt⟩ : ∃ qt,qt = q.take n:=⟨_,rfl⟩
    rw [<- hqd] at HD hdl hLT
    rw [<- hqt] at HT hLT
    rw [<- hdl] at hsf
    have HO:=Lib.hid hO
    have HB:=Lib.hid hB
    have HN:=Lib.hid (And.intro hLo hLT)
    have HZ : Hid ((Lo.length + 1) * 24 <= 140737488355328):=Lib.hid (by omega)
    have hqd2 : qd.length <= 100000:=by omega
    clear hO hB hLo hLT hQ hci hx hm hn hnq hnat hAd hqd hqt htl hdl hlt H
    go_wp2_with (at_builtin; refine a7O (kb w0) (w0:=w) (W:=wr) rfl _ _ 35 29 (.slice none 0 0) 24 rfl Tryz.underlying35 b6B rfl Nat.one_pos (by decide) (.slice Ao i co) Lo qt [.slice Ab n cb] rfl rfl HT.out HO.out HB.out HZ.out ?_; intro v1 w3 hr3 hb3 _ _; obtain ⟨A3,c3,rfl⟩:=Kd.R_slice hr3; have HR:=Lib.hid (And.intro hr3 hb3); clear hr3 hb3)
    go_roundw
    case rel=>exact ⟨i + 1,A3,Ad,c3,cb - n,qd,by omega,rfl,by rw [HN.out.1],by go_num,hqd2,Lib.hid ⟨Lo ++ [qt],by have:=HR.out.1; rw [List.length_append,HN.out.1] at this; exact this,by rw [List.length_append,HN.out.1]; rfl,by rw [List.append_assoc]; exact HN.out.2,HD.out,HR.out.2⟩⟩
    case measure=>simp [intOf]; omega
  · obtain rfl : i = l.length:=by omega
    rw [List.drop_length] at hLT
    have HT:=Lib.hid (show (kb w0).M wr w.heap.size (λ _=>False) q [.slice Ab q.length cb] from ⟨Ab,cb,rfl,hQ⟩)
    have HO:=Lib.hid hO
    have HB:=Lib.hid hB
    have HN:=Lib.hid (And.intro hLo (show Lo ++ [q] = cutsL b (natL l) from hLT))
    have HZ : Hid ((Lo.length + 1) * 24 <= 140737488355328):=Lib.hid (by omega)
    clear hO hB hLo hLT hQ hlt H
    go_wp2_with (at_builtin; refine a7O (kb w0) (w0:=w) (W:=wr) rfl _ _ 35 29 (.slice none 0 0) 24 rfl Tryz.underlying35 b6B rfl Nat.one_pos (by decide) (.slice Ao l.length co) Lo q [.slice Ab q.length cb] rfl rfl HT.out HO.out HB.out HZ.out ?_; intro v1 w3 hr3 hb3 _ _; obtain ⟨A3,c3,rfl⟩:=Kd.R_slice hr3; have HR:=Lib.hid (And.intro hr3 hb3); clear hr3 hb3)
    go_ret
    have e : (cutsL b (natL l)).length = l.length + 1:=by rw [a5C]; unfold natL; rw [List.length_map]
    refine ⟨A3,c3,?_,?_,HR.out.2⟩
    · rw [<- HN.out.1]; rfl
    · have h3:=HR.out.1
      rw [HN.out.2,e] at h3
      exact h3
theorem u8_in {n : Int} (h : (Lit.int .u8 n).wf = true) : 0 <= n /\ n < 256:=by
 have a : IntKind.u8.min = 0:=rfl
 have b : IntKind.u8.max = 255:=rfl
 simp only [Lit.wf,a,b,Bool.and_eq_true,decide_eq_true_eq] at h
 omega
theorem a4F {n : Int} (h : (Lit.int .u16 n).wf = true) : 0 <= n /\ n < 65536:=by
 have a : IntKind.u16.min = 0:=rfl
 have b : IntKind.u16.max = 65535:=rfl
 simp only [Lit.wf,a,b,Bool.and_eq_true,decide_eq_true_eq] at h
 omega
theorem b0p {a b m n : Nat} (h : ¬ (a <= m /\ b <= n)) : decide ((m : Int) < (a : Int)) = true \/ (decide ((m : Int) < (a : Int)) = false /\ decide ((n : Int) < (b : Int)) = true):=by
 by_cases h2 : a <= m
 · exact .inr ⟨decide_eq_false (by omega),decide_eq_true (by omega)⟩
 · exact .inl (decide_eq_true (by omega))
theorem Only.later {S : Nat -> Prop} {a b c : World} (h : Only S a b) (k : Below b.heap.size b c) : Only S a c:=h.trans (Only.of_below k)
theorem Only.own {w a b : World} {p : Nat} (h : Only (λ k=>k = p) a b) (hb : Below w.heap.size w a) (hp : w.heap.size <= p) : Below w.heap.size w b:=
 hb.trans (h.below hb.size (λ k hk=>by omega))
end Go.Proofs.YtamimiomglipmaaGreat
namespace Go.Proofs.YtamimiomglipmaaGreat
open Go.RowKit
def a1C (s : Nat) (x : List Int) (d : Nat) : List Int:=((List.range d).map (λ j=>putM ((x.drop (s * j)).take s) false)).flatten
theorem a7w (s : Nat) (x : List Int) (d : Nat) : a1C s x (d + 1) = a1C s x d ++ putM ((x.drop (s * d)).take s) false:=by
 unfold a1C
 rw [List.range_succ,List.map_append,List.flatten_append]; simp
theorem c7B (s : Nat) (x : List Int) (d : Nat) : a1C s x (d + 1) = putM (x.take s) false ++ a1C s (x.drop s) d:=by
 unfold a1C
 rw [List.range_succ_eq_map,List.map_cons,List.flatten_cons,List.map_map]
 congr 2
 refine List.map_congr_left (λ j _=>?_)
 show putM ((x.drop (s * (j + 1))).take s) false = _
 rw [List.drop_drop,Nat.mul_add,Nat.mul_one,Nat.add_comm]
theorem b6C {s : Nat} (hs : 0 < s) : ∀ (n : Nat) (z : List Int),z.length <= n -> fullL s n z = a1C s z ((z.length - 1) / s)
 | 0,z,h=>by rw [show z.length - 1 = 0 by omega,Nat.zero_div]; rfl
 | n + 1,z,h=>by
  unfold fullL
  by_cases h1 : s < z.length
  · rw [if_pos h1,b6C hs n (z.drop s) (by rw [List.length_drop]; omega),List.length_drop]
    have e : z.length - 1 = (z.length - s - 1) + s:=by omega
    rw [e,Nat.add_div_right _ hs,c7B]
  · rw [if_neg h1,Nat.div_eq_of_lt (by omega)]; rfl
theorem c7C {s m : Nat} (x : List Int) (d : Nat) (h : s * d + s <= m) : ((x.take m).drop (s * d)).take s = (x.drop (s * d)).take s:=by
 rw [List.drop_take,List.take_take,Nat.min_eq_left (by omega)]
theorem c7D {s : Nat} {x : List Int} {m : Nat} (d : Nat) : s * d <= m -> a1C s (x.take m) d = a1C s x d:=by
 induction d with
 | zero=>intro _; simp [a1C]
 | succ d ih=>
  intro h
  rw [Nat.mul_add,Nat.mul_one] at h
  rw [a7w,a7w,ih (by omega),c7C x d h]
theorem c7E (x : List Int) {m : Nat} (hm : m <= x.length) : goneL 10 (x.take m) = headL 10 ++ a1C 1024 x ((m - 1) / 1024):=by
 have hl : (x.take m).length = m:=by rw [List.length_take]; omega
 have h1:=b6C (s:=1024) (by decide) (x.take m).length (x.take m) (Nat.le_refl _)
 rw [hl] at h1
 have h2:=Nat.div_mul_le_self (m - 1) 1024
 have h3:=c7D (s:=1024) (x:=x) (m:=m) ((m - 1) / 1024) (by omega)
 unfold goneL
 rw [hl,show (2 : Nat) ^ 10 = 1024 from rfl,h1,h3]
open Go.IntWalk Go.Proofs.YtamimiomglipmaaGreatW.PrintWords
theorem PushSt.keep {p b0 L most ph : Nat} {x : List Int} {w w' : World} {S : Nat -> Prop} (h : PushSt p b0 L most ph x w) (ho : Only S w w') (hS : ∀ k,S k -> p < k /\ k < b0) : PushSt p b0 L most ph x w':=by
 have key : ∀ {nx : Value} {z : List Int},CompAt p b0 L most z nx w -> CompAt p b0 L most z nx w':=by
  intro nx z h
  obtain ⟨t,Ar,cr,hk,ht,htp,hr,ha,hpb⟩:=h
  have hne : ∀ k,k <= p \/ b0 <= k -> ¬ S k:=λ k hk h=>by have:=hS k h; omega
  exact ⟨t,Ar,cr,(ho.block p (a0b hk) (hne p (by omega))).trans hk,(ho.block t (a0b ht) (hne t (by omega))).trans ht,htp,hr.only ho (λ hn ad h0=>hne _ (.inr (ha hn ad h0))),ha,hpb⟩
 rcases h with ⟨e1,e2,h⟩ | ⟨e1,h⟩
 · exact .inl ⟨e1,e2,key h⟩
 · exact .inr ⟨e1,key h⟩
theorem R_form {W : World} {B n c : Nat} {A : Option Addr} {xs : List Int} (h : (Kd.int .u8).R 5 W B (λ _=>True) (.slice A n c) xs) (hn : 0 < n) : ∃ g,A = some ⟨g,0,none⟩:=by
 obtain ⟨_,inner,hown,_⟩:=h
 rcases hown.2 with ⟨e,_⟩ | ⟨g,cap,cur,e,_⟩
 · injection e with e1 e2 e3; omega
 · injection e with e1 e2 e3; exact ⟨g,e1⟩
section
variable {ops : Array Oper} {o : Oper} {rest : List Oper} {a : Act} {Q : Exit -> Act -> World -> Prop} {W : World} {s x : Operand} {v : Value} {xs : List Int} {B : Nat}
theorem app8h {ys : List Int} {A : Option Addr} {n c : Nat} (hgd : o.guard = none) (ho : o.op = .call { callee:=.builtin .append,args:=#[s,x],argTypes:=#[29,29] })
    (hs : a.eval s = v) (hx : a.eval x = .slice A n c) (HO : Hid ((Kd.int .u8).R 5 W B (λ _=>True) v xs)) (HC : Hid ((Kd.int .u8).C W A n ys)) (hB : B <= W.heap.size) (hl : Hid (xs.length + n <= 140737488355328))
    (h : ∀ A1 c1 w1,(Kd.int .u8).R 5 w1 B (λ _=>True) (.slice A1 (xs.length + n) c1) (xs ++ ys) -> Below B W w1 -> W.grownBy w1 v.ownBlock -> (∀ k,(Value.slice A1 (xs.length + n) c1).ownBlock = some k -> v.ownBlock = some k \/ W.heap.size <= k) -> wpList Tryz.prog ops Q rest (a.put o.dst (.slice A1 (xs.length + n) c1)) w1) :
    wpList Tryz.prog ops Q (o :: rest) a W:=by
 refine Kd.R_append_rows (Kd.int .u8) (Rr:=(Kd.int .u8).K W) (w0:=W) (W:=W) B hgd s x 29 5 (.int .u8 0) 1 ho Tryz.underlying29 a0y rfl (by decide) (by decide) v xs ys A n c (λ _=>True) (λ _=>False) hs hx HO.out HC.out (λ _ _ h=>h) (λ _ h=>h.elim) (λ _ _=>trivial) (Below.refl _ _) hB (by rw [Nat.mul_one]; exact hl.out) ?_
 intro v1 w1 hr hb hg hat
 obtain ⟨A1,c1,rfl⟩:=Kd.R_slice hr
 have hn : ys.length = n:=HC.out.1
 rw [List.length_append,hn] at hr hat ⊢
 refine h A1 c1 w1 hr hb hg (λ k hk=>?_)
 rcases hat with e | ⟨b,e,hb⟩
 · exact .inl (e ▸ hk)
 · rw [e] at hk; injection hk with hk; subst hk; exact .inr hb
end
set_option maxRecDepth 100000 in
theorem c7J (m : Nat) (w : World) (hm : m <= 100000) : Calls Tryz.prog 27 #[.int .i64 m,.int .i64 1024] w (λ e w'=>e = .returned (.int .i64 ((m - 1) / 1024 : Nat)) /\ w = w'):=by
 obtain ⟨N,hN⟩ : ∃ N,N = (m - 1) / 1024:=⟨_,rfl⟩
 rw [<- hN]
 have hN1:=Nat.div_mul_le_self (m - 1) 1024
 have hN2:=Nat.lt_div_mul_add (a:=m - 1) (b:=1024) (by decide)
 rw [<- hN] at hN1 hN2
 clear hN
 go_enter Tryz.func27,Tryz.ntmps27
 go_wp2_with fail
 go_loop [5] (λ nv=>∃ n : Nat,n <= N /\ nv = .int .i64 n) (λ nv=>N - (intOf nv).toNat)
 case atStart=>exact ⟨0,Nat.zero_le _,rfl⟩
 case round=>
  obtain ⟨n,hn,rfl⟩:=hrel
  have hw1 : IntKind.i64.wrap ((n : Int) + 1) = (n : Int) + 1:=i64_in _ (by omega)
  have hw2 : IntKind.i64.wrap (((n : Int) + 1) * 1024) = ((n : Int) + 1) * 1024:=i64_in _ (by omega)
  by_cases hlt : n < N
  · have hI : ((n : Int) + 1) * 1024 < (m : Int):=by omega
    go_wp2_with fail
    go_round
    case rel=>exact ⟨n + 1,by omega,by first | rfl | (simp; done) | go_num⟩
    case measure=>simp [intOf]; omega
  · have hI : ¬ ((n : Int) + 1) * 1024 < (m : Int):=by omega
    obtain rfl : n = N:=by omega
    go_wp2_with fail
    go_ret
    exact ⟨rfl,rfl⟩
theorem Only.cell {S : Nat -> Prop} {a b : World} (h : Only S a b) {q : Addr} {v : Value} (hc : a.cell? q = some v) (hs : ¬ S q.block) : b.cell? q = some v:=by
 have:=h.block q.block (World.block_lt_of_cell? a q hc) hs
 unfold World.cell? at hc ⊢
 rw [this]; exact hc
theorem c7K (L : List (List Int)) (i : Nat) : a0q L i = L.flatten.take (a0q L i).length:=by
 unfold a0q
 have e : L.flatten = (L.take i).flatten ++ (L.drop i).flatten:=by rw [<- List.flatten_append,List.take_append_drop]
 conv=>rhs; rw [e]
 rw [List.take_append_of_le_length (Nat.le_refl _),List.take_length]
theorem b6D {W W' : World} {B : Nat} {v : Value} {xs : List Int} {row : Option Nat} (h : (Kd.int .u8).R 5 W B (λ _=>True) v xs) (hg : W.grownBy W' row) (hne : ∀ k,v.ownBlock = some k -> row ≠ some k) : (Kd.int .u8).R 5 W' B (λ _=>True) v xs:=
 Kd.R_mono (Kd.R_grown (Kd.R_tight (d:=Kd.int .u8) rfl h) hg (λ k hk e=>hne k hk.symm e.symm)) (λ _ _=>trivial)
theorem c7L (A : Option Addr) (n c k m h : Nat) (hh : h = k + m) (hk : k + m <= n) (hn : n <= c) : ∀ W : World,(Instr.slice 29 (.slice A n c) (some (.int .i64 (k : Int))) (some (.int .i64 (h : Int))) none).run Tryz.prog W = .ok (.slice (if c = k then A else A.map (·.add (k * 1))) m (c - k)) W:=by
 intro W
 obtain ⟨i0,hi0,hz0,hz1,hz2⟩:=info_parts a0y
 have:=b0V (P:=Tryz.prog) 29 5 .i64 .i64 Tryz.underlying29 hi0 1 hz1 A n c (k : Int) (h : Int) (by omega) (by omega) (by omega) hn W
 rw [show (h : Int).toNat - (k : Int).toNat = m by omega,Int.toNat_natCast] at this
 exact this
structure PsRel (p : Nat) (x : List Int) (Ls : List (List Int)) (w3 w4 w5 : World) (i m d : Nat) (Lo : List Int) (Ao : Option Addr) (co : Nat) (Wa : List Int) (Aw : Option Addr) (cw : Nat) (W : World) : Prop where
 out : (Kd.int .u8).R 5 W w5.heap.size (λ _=>True) (.slice Ao Lo.length co) Lo
 wnt : (Kd.int .u8).R 5 W w3.heap.size (λ _=>True) (.slice Aw Wa.length cw) Wa
 wb : ∀ k,(Value.slice Aw Wa.length cw).ownBlock = some k -> k < w4.heap.size \/ w5.heap.size <= k
 ne : ∀ k,(Value.slice Ao Lo.length co).ownBlock = some k -> (Value.slice Aw Wa.length cw).ownBlock ≠ some k
 st : ∃ b0 ph,PushSt p b0 10 3000 ph (a0q Ls i) W /\ (ph = 0 -> a0q Ls i = []) /\ Lo = wentL 10 ph (a0q Ls i)
 m' : m = (a0q Ls i).length
 d' : d = (m - 1) / 1024
 w' : Wa = headL 10 ++ a1C 1024 x d
 on : Only (λ k=>k = p \/ (w3.heap.size <= k /\ k < w4.heap.size)) w5 W
structure PiRel (p : Nat) (x : List Int) (w3 w4 w5 w7 : World) (q : Nat) (Lo : List Int) (Ao : Option Addr) (co d : Nat) (Wa : List Int) (Aw : Option Addr) (cw : Nat) (W : World) : Prop where
 out : (Kd.int .u8).R 5 W w5.heap.size (λ _=>True) (.slice Ao Lo.length co) Lo
 wnt : (Kd.int .u8).R 5 W w3.heap.size (λ _=>True) (.slice Aw Wa.length cw) Wa
 wb : ∀ k,(Value.slice Aw Wa.length cw).ownBlock = some k -> (k < w4.heap.size \/ w5.heap.size <= k) /\ (k < q \/ w7.heap.size <= k)
 ne : ∀ k,(Value.slice Ao Lo.length co).ownBlock = some k -> (Value.slice Aw Wa.length cw).ownBlock ≠ some k
 w' : Wa = headL 10 ++ a1C 1024 x d
 on : Only (λ k=>(w3.heap.size <= k /\ (k < w4.heap.size \/ w5.heap.size <= k)) /\ k < q) w7 W
theorem b6E (x : List Int) : ∀ d,(a1C 1024 x d).length <= 1100 * d
 | 0=>Nat.le_refl _
 | d + 1=>by
  have h:=b6E x d
  have h1:=a0J ((x.drop (1024 * d)).take 1024) false
  have h2:=a1P ((x.drop (1024 * d)).take 1024)
  have h3 : ((x.drop (1024 * d)).take 1024).length <= 1024:=by rw [List.length_take]; omega
  rw [a7w,List.length_append]; omega
theorem PiRel.next {p : Nat} {x : List Int} {w3 w4 w5 w7 W W1 W2 : World} {q : Nat} {Lo : List Int} {Ao Aw A2 : Option Addr} {co cw c2 d : Nat} {Wa z : List Int} (h : PiRel p x w3 w4 w5 w7 q Lo Ao co d Wa Aw cw W) (hb : Below W.heap.size W W1) (hz : z = putM ((x.drop (1024 * d)).take 1024) false)
    (hw5 : w5.heap.size <= w7.heap.size) (hr : (Kd.int .u8).R 5 W2 w3.heap.size (λ _=>True) (.slice A2 (Wa ++ z).length c2) (Wa ++ z)) (hg : W1.grownBy W2 (Value.slice Aw Wa.length cw).ownBlock) (hat : ∀ k,(Value.slice A2 (Wa ++ z).length c2).ownBlock = some k -> (Value.slice Aw Wa.length cw).ownBlock = some k \/ W1.heap.size <= k) :
    PiRel p x w3 w4 w5 w7 q Lo Ao co (d + 1) (Wa ++ z) A2 c2 W2:=by
 have hs:=h.on.size
 have hs1:=hb.size
 refine ⟨b6D (Kd.R_below h.out hb) hg (λ k hk=>h.ne k hk),hr,λ k hk=>?_,λ k hk e=>?_,by rw [h.w',hz,a7w,List.append_assoc],?_⟩
 · rcases hat k hk with e | e
   · exact h.wb k e
   · exact ⟨.inr (by omega),.inr (by omega)⟩
 · rcases hat k e with e2 | e2
   · exact h.ne k hk e2
   · have:=((Kd.R_bound h.out).1 k hk).2.2.1
     omega
 · refine (h.on.later hb).trans2 (Only.of_grown hg (S:=λ k=>(Value.slice Aw Wa.length cw).ownBlock = some k) (λ k hk=>hk)) (λ k hk hS=>?_)
   have h1:=h.wb k hS
   have h2:=((Kd.R_bound h.wnt).1 k hS).2.1
   exact ⟨⟨h2,h1.1⟩,by omega⟩
set_option maxRecDepth 100000 in
set_option maxHeartbeats 4000000 in
theorem c7M (A B : Option Addr) (ca cb : Nat) (b cuts : List Int) (fill : Int) (more : Nat) (w : World) (hb : BSl w A ca b) (hc : (Kd.int .u16).C w B cuts.length cuts) (hcc : cuts.length <= cb) (hcw : ∀ x ∈ cuts,0 <= x /\ x < 65536) (hl : b.length <= 60) (hcl : cuts.length <= 8) (hf : 0 <= fill /\ fill < 256) (hm : more < 65536) :
    Calls Tryz.prog 4 #[.slice A b.length ca,.int .u8 fill,.int .u16 more,.slice B cuts.length cb] w (Ret (.bool true) w):=by
 have d1 : decide (60 < (b.length : Int)) = false:=decide_eq_false (by omega)
 have d2 : decide (8 < (cuts.length : Int)) = false:=decide_eq_false (by omega)
 have HX:=Lib.hid (And.intro hb (And.intro hc (And.intro hcw (And.intro hf (And.intro hm hcc)))))
 have hlen:=a5z b fill (more % 2600)
 have hNl : more % 2600 < 2600:=Nat.mod_lt _ (by decide)
 have HBy:=Lib.hid (b0k hb.by' hf (more % 2600))
 have hN:=λ W : World=>a4E 10 3000 W (by decide) (by decide)
 have hH:=λ W : World=>a5w 10 W (by decide)
 rw [show ((10 : Nat) : Int) = 10 from rfl,show ((3000 : Nat) : Int) = 3000 from rfl] at hN
 rw [show ((10 : Nat) : Int) = 10 from rfl] at hH
 have HN:=Lib.hid hN
 have HH:=Lib.hid hH
 clear hb hc hcw hf hm hcc hN hH
 go_enter Tryz.func4,Tryz.ntmps4
 go_wp2_with fail
 refine (a2p w).mono ?_
 rintro e w1 ⟨rfl,hb1⟩
 have HS:=Lib.hid (b6p A ca b fill more w1 (HX.out.1.below hb1) hl HX.out.2.2.2.1 HX.out.2.2.2.2.1)
 obtain ⟨x,hx⟩ : ∃ x,x = someL b fill (more % 2600):=⟨_,rfl⟩
 rw [<- hx] at HS HBy hlen
 rw [<- hlen] at HS
 have hxl : x.length <= 2660:=by omega
 have HB1:=Lib.hid hb1
 clear hb1 hx hlen hNl
 go_wp2_with fail
 refine HS.out.mono ?_
 rintro e w2 ⟨A2,c2,rfl,hx2,hb2⟩
 have HX2:=Lib.hid hx2
 have HB2:=Lib.hid (a0d HB1.out hb2)
 clear hx2 hb2
 go_wp2_with fail
 refine (HN.out w2).mono ?_
 rintro e w3 ⟨p,rfl,hs3,hp3,hb3⟩
 have H3:=Lib.hid (And.intro hs3 (And.intro hp3 (And.intro hb3 hs3.lt)))
 clear hs3 hp3 hb3
 go_wp2_with fail
 refine (HH.out w3).mono ?_
 rintro e w4 ⟨A4,c4,rfl,hf4,hb4⟩
 have H4:=Lib.hid (And.intro hf4 hb4)
 have HC:=Lib.hid (b0o A2 B c2 cb x cuts w2 w4 HX2.out (Kd.C_below (Kd.C_below (Kd.C_below HX.out.2.1 HB2.out) H3.out.2.2.1) hb4) HX.out.2.2.2.2.2 hcl HX.out.2.2.1 (by omega))
 rw [show (headL 10).length = 8 from rfl]
 clear hf4 hb4
 go_wp2_with fail
 refine HC.out.mono ?_
 rintro e w5 ⟨A5,c5,rfl,hl5,hb5⟩
 have hLl : (cutsL x (natL cuts)).length = cuts.length + 1:=by rw [a5C]; unfold natL; rw [List.length_map]
 have hjoin:=a7t (natL cuts) x
 obtain ⟨Ls,hLs⟩ : ∃ Ls,Ls = cutsL x (natL cuts):=⟨_,rfl⟩
 rw [<- hLs] at hl5 hLl hjoin
 rw [<- hLl] at hl5 ⊢
 have hb35:=a0d H4.out.2 hb5
 have hst5:=H3.out.1.below hb35
 have hw4 : (Kd.int .u8).R 5 w5 w3.heap.size (λ _=>True) (.slice A4 8 c4) (headL 10):=Kd.R_below H4.out.1 hb5
 have hwb : ∀ k,(Value.slice A4 8 c4).ownBlock = some k -> k < w4.heap.size:=λ k hk=>((Kd.R_bound H4.out.1).1 k hk).2.2.1
 have HI:=Lib.hid (And.intro hl5 (And.intro hb5 (And.intro hb35 (And.intro hst5 (And.intro hst5.lt (And.intro hjoin (And.intro hw4 hwb)))))))
 have HLl:=Lib.hid hLl
 have hLs9 : Ls.length <= 9:=by omega
 have HSz:=Lib.hid (show p < w3.heap.size /\ w3.heap.size <= w4.heap.size /\ w4.heap.size <= w5.heap.size /\ w2.heap.size <= p from ⟨H3.out.2.2.2,H4.out.2.size,hb5.size,H3.out.2.1⟩)
 clear hl5 hb5 hLl hjoin hLs hb35 hst5 hw4 hwb
 go_wp2_with fail
 go_loopw [13,15,17,18,19,20,21,22,23] (λ wv ov fv dv iv _ _ _ _ wr=>∃ (i m d : Nat) (Lo Wa : List Int) (Ao Aw : Option Addr) (co cw : Nat),i <= Ls.length /\ wv = .slice Aw Wa.length cw /\ ov = .slice Ao Lo.length co /\ fv = .int .i64 m /\ dv = .int .i64 d /\ iv = .int .i64 i /\ Hid (PsRel p x Ls w3 w4 w5 i m d Lo Ao co Wa Aw cw wr)) (λ _ _ _ _ iv _ _ _ _ _=>Ls.length - (intOf iv).toNat)
 case atStart=>exact ⟨0,0,0,[],headL 10,none,A4,0,c4,by omega,rfl,rfl,rfl,rfl,rfl,Lib.hid ⟨Kd.R_nil _ _ _ _ _,HI.out.2.2.2.2.2.2.1,λ k hk=>.inl (HI.out.2.2.2.2.2.2.2 k hk),(λ k hk=>by simp [Value.ownBlock] at hk),⟨p + 1,0,HI.out.2.2.2.1,λ _=>rfl,rfl⟩,rfl,rfl,(List.append_nil _).symm,Only.refl _ _⟩⟩
 case round=>
  obtain ⟨i,m,d,Lo,Wa,Ao,Aw,co,cw,hi,rfl,rfl,rfl,rfl,rfl,H⟩:=hrel
  obtain ⟨b0,ph,hst,hph,hLo⟩:=H.out.st
  by_cases hlt : i < Ls.length
  · have hlrow : (kb w2).R 29 wr w4.heap.size (λ _=>True) (.slice A5 Ls.length c5) Ls:=
      Kd.R_mono (Kd.R_step (Kd.R_bound HI.out.1) (λ k hk hlt=>H.out.on.block k hlt (by have h1:=hk.2.1; have:=HSz.out; omega))) (λ _ _=>trivial)
    obtain ⟨ad,Ai,ci,hA,hcell,hpart⟩:=b0n hlrow hlt
    subst hA
    have hsucc:=b0m Ls hlt
    have hle:=a7u Ls (i + 1)
    rw [HI.out.2.2.2.2.2.1] at hle
    have hon2 : Only (λ k=>k = p \/ (w3.heap.size <= k /\ k < w4.heap.size)) w2 wr:=(Only.of_below (H3.out.2.2.1.trans (HI.out.2.2.1.mono H3.out.2.2.1.size))).trans H.out.on
    obtain ⟨pt,hpt⟩ : ∃ pt,pt = Ls.getD i []:=⟨_,rfl⟩
    rw [<- hpt] at hsucc hcell hpart
    have hap:=hpart.apart H3.out.2.1
    have hpart2 : BSl wr Ai ci pt:=hpart.only hon2 (λ hn ad h0 h=>by have:=a6d hpart.row hn h0; have:=HSz.out; omega)
    have hpl : (a0q Ls i).length + pt.length <= x.length:=by rw [hsucc,List.length_append] at hle; exact hle
    have hhb : Bytes (a0q Ls i):=a7v (by rw [HI.out.2.2.2.2.2.1]; exact HBy.out) i
    have HF1:=a3p p b0 10 3000 ph (a0q Ls i) Ai ci pt wr hst hpart2 hap (by omega) (by omega) (by omega) (by decide) hhb
    unfold a4C at HF1
    rw [<- hsucc] at HF1
    have hyl:=a3Q (L:=10) (ph:=ph) (x:=a0q Ls i) (b:=pt) (last:=false) (by omega)
    have hmore:=a5y (L:=10) hph pt
    rw [<- hsucc,<- hLo] at hmore
    obtain ⟨y,hy⟩ : ∃ y,y = feedY 10 ph (a0q Ls i) pt false:=⟨_,rfl⟩
    rw [<- hy] at HF1 hyl hmore
    have HFd:=Lib.hid HF1
    have hlw:=b0i (L:=10) (ph:=ph) (x:=a0q Ls i) (by omega)
    rw [<- hLo] at hlw
    have hmm:=H.out.m'
    have hml : m + pt.length <= 2660:=by omega
    have hm1 : m + pt.length = (a0q Ls (i + 1)).length:=by rw [hsucc,List.length_append]; omega
    obtain ⟨M,hM⟩ : ∃ M,M = m + pt.length:=⟨_,rfl⟩
    rw [<- hM] at hm1 hml
    have hMm : m <= M:=by omega
    have HN2:=Lib.hid (And.intro hmore (And.intro hm1 hcell))
    have hI : (i : Int) < (Ls.length : Int):=by omega
    have HZ : Hid (Lo.length + y.length <= 140737488355328):=Lib.hid (by omega)
    have hwm : IntKind.i64.wrap ((m : Int) + (pt.length : Int)) = (M : Int):=by rw [i64_in _ (by omega)]; omega
    have hadb : w4.heap.size <= ad.block /\ ad.block < w5.heap.size:=by have:=((Kd.R_bound HI.out.1).1 ad.block rfl).2; exact ⟨this.1,this.2.1⟩
    clear hst hph hLo hpart hpart2 hsucc hle hon2 hap hpl hhb HF1 hyl hy hlw hpt hlrow hmore hmm hM hm1
    go_wp2_with fail
    refine HFd.out.mono ?_
    rintro e w6 ⟨A6,c6,rfl,hr6,hs6,-,ho6⟩
    have HO6:=Lib.hid (a1i H.out.out ho6 (λ k hk h=>by have:=HSz.out; omega))
    have HC6:=Lib.hid (Kd.R_reads' hr6).2.2
    have HS6 : Hid (w5.heap.size <= w6.heap.size):=Lib.hid (Nat.le_trans H.out.on.size ho6.size)
    have hw6 : (Kd.int .u8).R 5 w6 w3.heap.size (λ _=>True) (.slice Aw Wa.length cw) Wa:=a1i H.out.wnt ho6 (λ k hk h=>by have:=HSz.out; omega)
    have H6:=Lib.hid (And.intro (hs6 (by first | rfl | trivial)) (And.intro ho6 hw6))
    clear hr6 hs6 ho6 hw6
    go_wp2_with (at_builtin; refine app8h rfl rfl rfl rfl HO6 HC6 HS6.out HZ ?_; intro A7 c7 w7 hr7 hb7 hg7 hat7; have HR7:=Lib.hid (And.intro hr7 (And.intro hb7 (And.intro hg7 hat7))); have hc7:=(hb7.cell (p:=ad.add i) (by rw [a1w]; exact hadb.2)).trans (H6.out.2.1.cell HN2.out.2.2 (by rw [a1w]; have:=HSz.out; omega)); clear hr7 hb7 hg7 hat7)
    have hst7:=H6.out.1.grown HR7.out.2.2.1 (λ k hk=>by
     have h1:=((Kd.R_bound H.out.out).1 k hk).2
     have:=HSz.out
     exact ⟨by omega,h1.2.1⟩)
    have hlt6 : ∀ k,(Value.slice Aw Wa.length cw).ownBlock = some k -> k < wr.heap.size:=λ k hk=>((Kd.R_bound H.out.wnt).1 k hk).2.2.1
    have hs67 : w6.heap.size <= w7.heap.size:=HR7.out.2.1.size
    have hs6r : wr.heap.size <= w6.heap.size:=H6.out.2.1.size
    have hPi : PiRel p x w3 w4 w5 w7 wr.heap.size (Lo ++ y) A7 c7 d Wa Aw cw w7:=by
     refine ⟨by rw [List.length_append]; exact HR7.out.1,b6D H6.out.2.2 HR7.out.2.2.1 (λ k hk e=>H.out.ne k e hk),λ k hk=>⟨H.out.wb k hk,.inl (hlt6 k hk)⟩,λ k hk e=>?_,H.out.w',Only.refl _ _⟩
     rw [List.length_append] at hk
     rcases HR7.out.2.2.2 k hk with e2 | e2
     · exact H.out.ne k e2 e
     · have:=hlt6 k e; omega
    have hon7 : Only (λ k=>k = p \/ (w3.heap.size <= k /\ k < w4.heap.size)) w5 w7:=(H.out.on.trans (H6.out.2.1.mono (λ k _ h=>.inl h))).behind HR7.out.2.1 (Nat.le_refl _)
    obtain ⟨q0,hq0⟩ : ∃ q,q = wr.heap.size:=⟨_,rfl⟩
    rw [<- hq0] at hst7 hPi
    have H7:=Lib.hid (And.intro hst7 (And.intro hon7 (And.intro hs67 (show w5.heap.size <= q0 /\ q0 <= w6.heap.size by rw [hq0]; exact ⟨H.out.on.size,hs6r⟩))))
    have hm1:=HN2.out.2.1
    have HD:=Lib.hid (show d <= (M - 1) / 1024 by rw [H.out.d']; exact Nat.div_le_div_right (by omega))
    obtain ⟨N,hN⟩ : ∃ N,N = (M - 1) / 1024:=⟨_,rfl⟩
    rw [<- hN] at HD
    have HMN:=Lib.hid (And.intro hN (And.intro hm1 (show Lo ++ y = goneL 10 (a0q Ls (i + 1)) from HN2.out.1)))
    have hMx : M <= x.length:=by
     have:=a7u Ls (i + 1)
     rw [HI.out.2.2.2.2.2.1] at this; omega
    have HPi:=Lib.hid hPi
    have hlY : Lo.length + y.length = (Lo ++ y).length:=List.length_append.symm
    rw [hlY]
    obtain ⟨G,hG⟩ : ∃ G,G = Lo ++ y:=⟨_,rfl⟩
    rw [<- hG] at HPi HMN ⊢
    clear hst7 hlt6 hs67 hs6r hPi hon7 hm1 hN hlY hG hc7 hlt hq0
    have hNm : N * 1024 <= M - 1:=by rw [HMN.out.1]; exact Nat.div_mul_le_self _ _
    go_loopw [13,18,22,23] (λ wv dv _ _ wi=>∃ (j : Nat) (Wb : List Int) (Ab : Option Addr) (cb' : Nat),j <= N /\ wv = .slice Ab Wb.length cb' /\ dv = .int .i64 j /\ Hid (PiRel p x w3 w4 w5 w7 q0 G A7 c7 j Wb Ab cb' wi)) (λ _ dv _ _ _=>N - (intOf dv).toNat)
    case atStart=>exact ⟨d,Wa,Aw,cw,HD.out,rfl,rfl,HPi⟩
    case round=>
     obtain ⟨j,Wb,Ab,cb',hj,rfl,rfl,HJ⟩:=hrel
     have HEn:=Lib.hid (c7J M wr (by omega))
     rw [<- HMN.out.1] at HEn
     by_cases hjl : j < N
     · have hIj : (j : Int) < (N : Int):=by omega
       have hj1 : 1024 * j + 1024 <= x.length:=by omega
       obtain ⟨u,hu⟩ : ∃ u,u = 1024 * j:=⟨_,rfl⟩
       obtain ⟨v,hv⟩ : ∃ v,v = u + 1024:=⟨_,rfl⟩
       rw [<- hu] at hj1
       have hsl:=c7L A2 x.length c2 u 1024 v hv hj1 HX2.out.cap
       have hwj : IntKind.i64.wrap (1024 * (j : Int)) = (u : Int):=by rw [i64_in _ (by omega)]; omega
       have hwj2 : IntKind.i64.wrap ((u : Int) + 1024) = (v : Int):=by rw [i64_in _ (by omega)]; omega
       have hon2 : Below w2.heap.size w2 wr:=by
        have h1 : Only (λ k=>k = p \/ w3.heap.size <= k) w5 wr:=(H7.out.2.1.mono (λ k _ h=>by rcases h with h | h; (· exact .inl h); (· exact .inr h.1))).trans (HJ.out.on.mono (λ k _ h=>.inr h.1.1))
        exact (a0d H3.out.2.2.1 HI.out.2.2.1).trans (h1.below (by have:=HSz.out; have:=H3.out.2.2.1.size; omega) (λ k hk=>by have:=HSz.out; omega))
       have hS:=((HX2.out.below hon2).from_ (k:=u) (by omega)).cut (k:=1024) (by rw [List.length_drop]; omega)
       have htl : ((x.drop u).take 1024).length = 1024:=by rw [List.length_take,List.length_drop]; omega
       obtain ⟨Ax,hAx⟩ : ∃ Ax,Ax = (if c2 = u then A2 else A2.map (·.add (u * 1))):=⟨_,rfl⟩
       rw [<- hAx] at hsl hS
       have hPt:=a5u Ax (c2 - u) ((x.drop u).take 1024) false wr hS.row hS.by' (by omega) (.inr (by omega))
       rw [htl] at hPt
       have hzl:=a0J ((x.drop u).take 1024) false
       have hzl2:=a1P ((x.drop u).take 1024)
       obtain ⟨z,hz⟩ : ∃ z,z = putM ((x.drop u).take 1024) false:=⟨_,rfl⟩
       rw [<- hz] at hPt hzl
       have HPt:=Lib.hid hPt
       have hWl:=b6E x j
       have hWl2 : Wb.length = 8 + (a1C 1024 x j).length:=by rw [HJ.out.w',List.length_append]; rfl
       have HZ2 : Hid (Wb.length + z.length <= 140737488355328):=Lib.hid (by omega)
       have HZz:=Lib.hid (show z = putM ((x.drop (1024 * j)).take 1024) false by rw [<- hu]; exact hz)
       clear hon2 hS htl hAx hPt hzl hzl2 hz hWl hWl2 hjl hu hv
       go_wp2_with fail
       refine HEn.out.mono ?_
       rintro e w8 ⟨rfl,rfl⟩
       go_wp2_with fail
       refine HPt.out.mono ?_
       rintro e w8 ⟨A8,c8,rfl,hr8,hb8⟩
       have HO8:=Lib.hid (Kd.R_below HJ.out.wnt hb8)
       have HC8:=Lib.hid (Kd.R_reads' hr8).2.2
       have HS8 : Hid (w3.heap.size <= w8.heap.size):=Lib.hid (by have:=HJ.out.on.size; have:=hb8.size; have:=H7.out.2.2.1; have:=H7.out.2.2.2; have:=HSz.out; omega)
       have HB8:=Lib.hid hb8
       clear hr8 hb8
       go_wp2_with (at_builtin; refine app8h rfl rfl rfl rfl HO8 HC8 HS8.out HZ2 ?_; intro A9 c9 w9 hr9 hb9 hg9 hat9; have HR9:=Lib.hid (And.intro hr9 (And.intro hg9 hat9)); clear hr9 hb9 hg9 hat9)
       go_roundw
       case rel=>exact ⟨j + 1,Wb ++ z,A9,c9,by omega,by rw [List.length_append],by go_num,Lib.hid (HJ.out.next (w5:=w5) HB8.out HZz.out (by have:=H7.out.2.2.1; have:=H7.out.2.2.2; omega) (by rw [List.length_append]; exact HR9.out.1) HR9.out.2.1 (by rw [List.length_append]; exact HR9.out.2.2))⟩
       case measure=>simp [intOf]; omega
     · obtain rfl : j = N:=by omega
       have hIj : ¬ (j : Int) < (j : Int):=by omega
       have hst : PushSt p q0 10 3000 1 (a0q Ls (i + 1)) wr:=H7.out.1.keep HJ.out.on (λ k hk=>by have:=HSz.out; omega)
       have hhe : a0q Ls (i + 1) = x.take M:=by
        have:=c7K Ls (i + 1)
        rw [HI.out.2.2.2.2.2.1,<- HMN.out.2.1] at this; exact this
       have hgw : G = Wb:=by rw [HMN.out.2.2,hhe,c7E x hMx,<- HMN.out.1,HJ.out.w']
       have hgb : Bytes G:=by rw [HMN.out.2.2]; exact b6o (by decide) (a7v (by rw [HI.out.2.2.2.2.2.1]; exact HBy.out) _) (by rw [<- HMN.out.2.1]; omega)
       have HFed:=Lib.hid (a4D p _ wr hst.fed)
       rw [<- HMN.out.2.1] at HFed
       have hw':=HJ.out.wnt
       rw [<- hgw] at hw' ⊢
       have HSm:=Lib.hid (a7c A7 Ab c7 cb' G wr (Kd.R_reads' HJ.out.out).2.2 (Kd.R_reads' hw').2.2 hgb)
       have HGw:=Lib.hid hgw
       have hon7 : Only (λ k=>k = p \/ (w3.heap.size <= k /\ k < w4.heap.size)) w5 wr:=H7.out.2.1.trans2 HJ.out.on (λ k hk h=>by rcases h.1.2 with h2 | h2; (· exact .inr ⟨h.1.1,h2⟩); (· omega))
       have HFi:=Lib.hid (And.intro hst hon7)
       clear hst hhe hgw hgb hw' hon7 hjl
       go_wp2_with fail
       refine HEn.out.mono ?_
       rintro e w8 ⟨rfl,rfl⟩
       go_wp2_with fail
       refine HFed.out.mono ?_
       rintro e w8 ⟨rfl,rfl⟩
       go_wp2_with fail
       refine HSm.out.mono ?_
       rintro e w8 ⟨rfl,rfl⟩
       go_wp2_with fail
       go_roundw
       case rel=>
        refine ⟨i + 1,M,j,G,G,A7,Ab,c7,cb',by omega,rfl,rfl,rfl,rfl,by go_num,Lib.hid ⟨HJ.out.out,?_,?_,?_,⟨q0,1,HFi.out.1,(λ h=>by cases h),HMN.out.2.2⟩,HMN.out.2.1,HMN.out.1,?_,HFi.out.2⟩⟩
        · have:=HJ.out.wnt; rw [<- HGw.out] at this; exact this
        · intro k hk; rw [HGw.out] at hk; exact (HJ.out.wb k hk).1
        · intro k hk e; rw [HGw.out] at e; exact HJ.out.ne k hk e
        · have:=HJ.out.w'; rw [<- HGw.out] at this; exact this
       case measure=>simp [intOf]; omega
  · obtain rfl : i = Ls.length:=by omega
    have hI : ¬ (Ls.length : Int) < (Ls.length : Int):=by omega
    have HFin : Hid (Below w.heap.size w wr):=by
     have hb5 : Below w.heap.size w w5:=a0d (a0d HB2.out H3.out.2.2.1) HI.out.2.2.1
     exact Lib.hid (hb5.trans (H.out.on.below hb5.size (λ k hk=>by have:=HSz.out; have:=HB2.out.size; omega)))
    clear hst hph hLo hlt
    go_wp2_with fail
    go_ret
    exact ⟨rfl,HFin.out⟩
set_option maxRecDepth 100000 in
theorem c7N (A : Option Addr) (ca : Nat) (b : List Int) (fill more : Int) (B : Option Addr) (cb : Nat) (cuts : List Int) (w : World) (hr : (Kd.int .u8).C w A b.length b) (hc : b.length <= ca) (hby : Bytes b) (_ : b.length * 1 <= 140737488351232) (hnil : A = none -> ca = 0) (hf : (Lit.int .u8 fill).wf = true) (hm : (Lit.int .u16 more).wf = true) (hr4 : (Kd.int .u16).C w B cuts.length cuts) (hc4 : cuts.length <= cb) (hw4 : ∀ n ∈ cuts,(Lit.int .u16 n).wf = true) (_ : cuts.length * 2 <= 140737488351232) :
    Calls Tryz.prog 4 #[.slice A b.length ca,.int .u8 fill,.int .u16 more,.slice B cuts.length cb] w (Ret (.bool true) w):=by
 obtain ⟨k,rfl⟩ : ∃ k : Nat,more = k:=⟨more.toNat,by have:=a4F hm; omega⟩
 have hk:=a4F hm
 by_cases h1 : b.length <= 60 /\ cuts.length <= 8
 · exact c7M A B ca cb b cuts fill k w ⟨hr,hc,hnil,hby⟩ hr4 hc4 (λ x hx=>a4F (hw4 x hx)) h1.1 h1.2 (u8_in hf) (by omega)
 · have hd:=b0p h1
   rw [show ((60 : Nat) : Int) = 60 from rfl,show ((8 : Nat) : Int) = 8 from rfl] at hd
   clear h1 hr hc hby hnil hf hm hr4 hc4 hw4
   rcases hd with d1 | ⟨d1,d2⟩
   all_goals
    go_enter Tryz.func4,Tryz.ntmps4
    go_wp2_with fail
    refine (a2p w).mono ?_
    rintro e w1 ⟨rfl,hb1⟩
    have HB1:=Lib.hid hb1
    clear hb1
    go_wp2_with fail
    go_ret
    exact ⟨rfl,HB1.out⟩
end Go.Proofs.YtamimiomglipmaaGreat
