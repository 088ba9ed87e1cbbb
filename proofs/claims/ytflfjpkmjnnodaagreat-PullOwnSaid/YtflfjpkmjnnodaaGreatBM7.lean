/- The walks of pull.New, Finish, Told; Feed in the words of Prefix. -/
import Derived.Test.YtflfjpkmjnnodaaGreatBM2
import Derived.Test.YtflfjpkmjnnodaaGreatBM4
import Derived.Test.YtflfjpkmjnnodaaGreatBM1
import Derived.Test.YtflfjpkmjnnodaaGreatBM6
import Derived.Test.YtflfjpkmjnnodaaGreatBM5
import Derived.Test.YtflfjpkmjnnodaaGreatBS1
import Derived.Test.YtflfjpkmjnnodaaGreatBM0
import Derived.Lib.MinMax
namespace Go.Proofs.YtflfjpkmjnnodaaGreat
open Go.RowKit Go.IntWalk Go.Proofs.YtflfjpkmjnnodaaGreatW.PrintWords
theorem BSl.empty_ (w : World) : BSl w none 0 []:=⟨(Kd.R_reads' (Kd.R_nil (Kd.int .u8) 5 w w.heap.size (λ _=>True))).2.2,Nat.le_refl _,λ _=>rfl,λ x hx=>by cases hx⟩
theorem d1a : a0F 0 [] = 0:=by decide
theorem d1b {p b1 t : Nat} {lim : Int} {W : World} (hk : PullC p lim 0 true 0 0 3 (.pointer (some ⟨t,0,none⟩)) (.slice none 0 0) (pullV p 0) W) (ht : TabAt t 256 W) (htp : t < p) (hp : p < b1) : PullSt p b1 lim [] W:=by
 unfold PullSt
 rw [d0D]
 refine ⟨⟨_,_,_,_,_,_,hk⟩,λ _=>⟨t,none,0,?_,ht,htp,BSl.empty_ _,λ h=>absurd h (Nat.lt_irrefl 0),by show ¬ b1 <= p; omega⟩,hp⟩
 rw [show start0.x = [] from rfl,d1a]
 exact hk
def d1c (lim : Int) (w : World) (e : Ending) (w' : World) : Prop:=∃ p t,e = .returned (.tuple #[.pointer (some ⟨p,0,none⟩),.int .i64 0]) /\ PullC p lim 0 true 0 0 3 (.pointer (some ⟨t,0,none⟩)) (.slice none 0 0) (pullV p 0) w' /\ TabAt t 256 w' /\ w.heap.size <= t /\ t < p /\ Below w.heap.size w w'
set_option maxRecDepth 100000 in
set_option maxHeartbeats 1000000 in
theorem d1d (lim : Int) (w : World) (hL : 0 <= lim) :
    Calls Tryz.prog 57 #[.int .i64 lim] w (d1c lim w):=by
 have hmf : ∀ (fn : Fn) (first cap : Array Value) (w : World),(Instr.makeFunc fn first cap).run Tryz.prog w = .ok (.func fn first cap) w:=λ _ _ _ _=>rfl
 have d1 : ¬ lim < 0:=by omega
 clear hL
 go_enter Tryz.func57,Tryz.ntmps57
 go_wp2_with fail
 refine (a3O w).mono ?_
 rintro e w2 ⟨t,rfl,ht1,ht2,hb2⟩
 have H2:=Lib.hid (And.intro ht1 (And.intro ht2 hb2))
 clear ht1 ht2 hb2
 go_wp2_with fail
 go_ret2
 have hb3:=(Below.refl w2.heap.size w2).alloc (Nat.le_refl _) (.cells #[.int .i64 lim,.slice none 0 0,.int .i64 0,.bool true,.pointer (some ⟨t,0,none⟩),.int .u32 0,.int .i64 0,.int .i64 3,pullV w2.heap.size 0] 128)
 exact ⟨w2.heap.size,t,rfl,a0l w2 _,H2.out.2.1.later hb3,H2.out.1,a0f H2.out.2.1,a0k H2.out.2.2 hb3⟩
def d1e (lim : Int) (w : World) (e : Ending) (w' : World) : Prop:=∃ p,e = .returned (.tuple #[.pointer (some ⟨p,0,none⟩),.int .i64 0]) /\ PullSt p (p + 1) lim [] w' /\ w.heap.size <= p /\ Below w.heap.size w w'
theorem b1w (lim : Int) (w : World) (hL : 0 <= lim) :
    Calls Tryz.prog 57 #[.int .i64 lim] w (d1e lim w):=by
 refine (d1d lim w hL).mono ?_
 rintro e w' ⟨p,t,rfl,hk,ht,hwt,htp,hb⟩
 exact ⟨p,rfl,d1b hk ht htp (Nat.lt_succ_self _),by omega,hb⟩
theorem PullSt.cells {p b0 : Nat} {lim : Int} {f : List Int} {w : World} (h : PullSt p b0 lim f w) (hL : 0 <= lim) : w.cell? ⟨p,7,none⟩ = some (.int .i64 (a0u f lim).1) /\ w.cell? ⟨p,6,none⟩ = some (.int .i64 (a0u f lim).2.length):=by
 obtain ⟨⟨lg,fs,sm,tb,rest,nx,hk⟩,-,-⟩:=h
 obtain ⟨⟨c0,c1,c2,c3,c4,c5,c6,c7,c8⟩,-⟩:=cell9 hk
 rw [a3U hL f]
 exact ⟨c7,c6⟩
theorem a8j (p : Nat) (k : Int) (w : World) (h : w.cell? ⟨p,7,none⟩ = some (.int .i64 k)) :
    Calls Tryz.prog 61 #[.pointer (some ⟨p,0,none⟩)] w (λ e w'=>e = .returned (.int .i64 k) /\ w = w'):=by
 go_enter Tryz.func61,Tryz.ntmps61
 go_wp2_with fail
 go_ret
 exact ⟨rfl,rfl⟩
theorem b8G (p : Nat) (k : Int) (w : World) (h : w.cell? ⟨p,6,none⟩ = some (.int .i64 k)) :
    Calls Tryz.prog 60 #[.pointer (some ⟨p,0,none⟩)] w (λ e w'=>e = .returned (.int .i64 k) /\ w = w'):=by
 go_enter Tryz.func60,Tryz.ntmps60
 go_wp2_with fail
 go_ret
 exact ⟨rfl,rfl⟩
theorem PullSt.lt {p b0 : Nat} {lim : Int} {f : List Int} {w : World} (h : PullSt p b0 lim f w) : p < w.heap.size:=by
 obtain ⟨⟨lg,fs,sm,tb,rest,nx,hk⟩,-,-⟩:=h
 exact a0f hk
theorem PullSt.low {p b0 b1 : Nat} {lim : Int} {f : List Int} {w : World} (h : PullSt p b0 lim f w) (hb : b1 <= b0) (hp : p < b1) : PullSt p b1 lim f w:=
 ⟨h.1,λ hk=>(h.2.1 hk).mono (λ _ hj=>Nat.le_trans hb hj) (by omega),hp⟩
theorem PullSt.keep {p b0 : Nat} {lim : Int} {f : List Int} {w w' : World} {S : Nat -> Prop} (h : PullSt p b0 lim f w) (ho : Only S w w') (hS : ∀ k,S k -> p < k /\ k < b0) : PullSt p b0 lim f w':=by
 obtain ⟨⟨lg,fs,sm,tb,rest,nx,hk⟩,h2,h3⟩:=h
 exact ⟨⟨lg,fs,sm,tb,rest,nx,(ho.block p (a0f hk) (λ h=>by have:=(hS p h).1; omega)).trans hk⟩,λ hk=>(h2 hk).keep ho (λ k hk=>⟨(hS k hk).1,λ h=>by have:=(hS k hk).2; omega⟩),h3⟩
theorem PullSt.below {p b0 : Nat} {lim : Int} {f : List Int} {w w' : World} (h : PullSt p b0 lim f w) (hb : Below w.heap.size w w') : PullSt p b0 lim f w':=
 h.keep (Only.of_below (S:=λ _=>False) hb) (λ _ h=>h.elim)
theorem PullSt.grown {p b0 : Nat} {lim : Int} {f : List Int} {w w' : World} {row : Option Nat} (h : PullSt p b0 lim f w) (hg : w.grownBy w' row) (hr : ∀ k,row = some k -> p < k /\ k < b0) : PullSt p b0 lim f w':=by
 obtain ⟨⟨lg,fs,sm,tb,rest,nx,hk⟩,h2,h3⟩:=h
 have hne : ∀ k,k <= p \/ b0 <= k -> some k ≠ row:=λ k hk e=>by have:=hr k e.symm; omega
 refine ⟨⟨lg,fs,sm,tb,rest,nx,a0L hk hg (hne p (by omega))⟩,λ hz=>?_,h3⟩
 obtain ⟨t,Ar,cr,hk,ht,htp,hr,ha,hpb⟩:=h2 hz
 exact ⟨t,Ar,cr,a0L hk hg (hne p (by omega)),a0L ht hg (hne t (by omega)),htp,⟨a5l hr.row (λ hn ad h0=>hg.block _ (a5m hr.row hn h0) (hne _ (.inr (ha hn ad h0)))),hr.cap,hr.nil,hr.by'⟩,ha,hpb⟩
def PFed (p : Nat) (lim : Int) (g : List Int) (k : Int) (y : List Int) (w : World) (e : Ending) (w' : World) : Prop:=
 ∃ A c,e = .returned (.tuple #[.slice A y.length c,.int .i64 (errF k)]) /\ (Kd.int .u8).R 5 w' w.heap.size (λ _=>True) (.slice A y.length c) y /\ PullSt p w.heap.size lim g w' /\ Only (λ k=>k = p) w w'
theorem a5v (p b0 : Nat) (lim : Int) (f b g : List Int) {k : Int} {y X : List Int} (A : Option Addr) (c : Nat) (w : World) (h : PullSt p b0 lim f w) (hL : 0 <= lim) (hL2 : lim < 4611686018427387904) (hf : Bytes f) (hb : BSl w A c b) (hap : Apart p A b) (hl : f.length + b.length <= 1000000) (hg : f ++ b = g) (h0 : (a0u f lim).2 = X) (h1 : a0u g lim = (k,X ++ y)) :
    Calls Tryz.prog 58 #[.pointer (some ⟨p,0,none⟩),.slice A b.length c] w (PFed p lim g k y w):=by
 refine (d0Z p b0 lim f b A c w h hL hL2 hf hb hap hl).mono ?_
 rintro e w' ⟨A1,c1,z,rfl,hx,hr,hs,ho⟩
 rw [hg] at hx hs ⊢
 rw [a3U hL] at h0 h1
 have e1 : (pullR lim g).1 = k:=by injection h1
 have e2 : (pullR lim g).2.x = X ++ y:=by injection h1
 rw [show (pullR lim f).2.x = X from h0,e2] at hx
 have : y = z:=List.append_cancel_left hx
 subst this
 rw [e1]
 exact ⟨A1,c1,rfl,hr,hs,ho⟩
theorem d1f {lim : Int} (hL : 0 <= lim) {f : List Int} (hf : Bytes f) (b : List Int) (hb : Bytes b) : ∃ y,(a0u (f ++ b) lim).2 = (a0u f lim).2 ++ y:=by
 rw [a3U hL,a3U hL]
 dsimp only
 by_cases hs : (pullR lim f).1 ≠ 0 /\ (pullR lim f).1 ≠ 3
 · obtain ⟨-,e2⟩:=b8z (limit:=lim) (f:=f) b hs.2 hs.1
   exact ⟨[],by rw [e2,List.append_nil]⟩
 · rw [b1u lim f b (m:=leftP (addP (pullR lim f).2 b) + 1) (by omega)]
   obtain ⟨g1,g2,-⟩:=a8i lim hf
   obtain ⟨y,h1,-⟩:=b1v lim (leftP (addP (pullR lim f).2 b) + 1) (addP (pullR lim f).2 b) (λ z hz=>(List.mem_append.1 hz).elim (g2 z) (hb z)) (by omega)
   exact ⟨y,h1⟩
theorem OpenPost.out {r : Int × List Int × Nat × Bool} {w : World} {e : Ending} {w' : World} (h : OpenPost r w e w') (hy : Bytes r.2.1) : ∃ A c,e = .returned (.tuple #[.slice A r.2.1.length c,.int .i64 (r.2.2.1 : Nat),.bool r.2.2.2,.int .i64 r.1]) /\ BSl w' A c r.2.1 /\ Below w.heap.size w w':=by
 obtain ⟨A,c,he,hr,hb⟩:=h
 exact ⟨A,c,he,BSl.of hr hy,hb⟩
theorem b555 : Bytes [5,5,5]:=by intro x hx; simp at hx; omega
theorem b8H : bestP [5,5,5] = (1,[5]):=b7U b555 (by decide) (by decide)
theorem a8k : (putM [5,5,5] true).length = 12:=by rw [a0V,b8H]; rfl
theorem d1k (A : Option Addr) (n c k m h : Nat) (hh : h = k + m) (hk : k + m <= n) (hn : n <= c) : ∀ W : World,(Instr.slice 22 (.slice A n c) (some (.int .i64 (k : Int))) (some (.int .i64 (h : Int))) none).run Tryz.prog W = .ok (.slice (if c = k then A else A.map (·.add (k * 1))) m (c - k)) W:=by
 intro W
 obtain ⟨i0,hi0,hz0,hz1,hz2⟩:=info_parts a0E
 have:=b2g (P:=Tryz.prog) 22 5 .i64 .i64 Tryz.underlying22 hi0 1 hz1 A n c (k : Int) (h : Int) (by omega) (by omega) (by omega) hn W
 rw [show (h : Int).toNat - (k : Int).toNat = m by omega,Int.toNat_natCast] at this
 exact this
theorem BSl.off {w : World} {A : Option Addr} {c p : Nat} {x : List Int} (h : BSl w A c x) (hp : w.heap.size <= p) : Apart p A x:=λ hn ad ha=>by
 have:=a5m h.row hn ha
 omega
theorem R_off {W : World} {B n c p : Nat} {A : Option Addr} {xs : List Int} (h : (Kd.int .u8).R 5 W B (λ _=>True) (.slice A n c) xs) (hp : p < B) : Apart p A xs:=by
 intro _ ad ha
 subst ha
 have:=((Kd.R_bound h).1 ad.block rfl).2.1
 omega
theorem d1l : ∃ f,f = encM [5,5,5] 10 /\ f.length = 24 /\ Bytes f /\ a0u (f.take 19) 9 = (3,[]) /\ a0u (f.take 20) 9 = (3,[5,5,5]) /\ a0u f 9 = (0,[5,5,5]):=by
 have hb : blksM (2 ^ 10) ([5,5,5] : List Int).length [5,5,5] = putM [5,5,5] true:=by
  show blksM (2 ^ 10) 3 [5,5,5] = _
  unfold blksM
  rw [if_neg (by decide)]
 have hl : (encM [5,5,5] 10).length = 24:=by
  unfold encM
  rw [hb,List.length_append,List.length_append,a8k,a1C,a2M]
 have hc : ∀ j,j < (encM [5,5,5] 10).length -> a0u ((encM [5,5,5] 10).take j) 9 = (3,([5,5,5] : List Int).take (if j < 8 then 0 else cutN (2 ^ 10) 3 [5,5,5] (j - 8))):=λ j hj=>b0H (x:=[5,5,5]) b555 (by decide) (log:=10) (by decide) hj (by decide)
 have hN : ∀ j,cutN (2 ^ 10) 3 [5,5,5] j = if j < 12 then 0 else 3:=λ j=>by
  unfold cutN
  rw [if_neg (by decide),a8k]
  rfl
 refine ⟨_,rfl,hl,b1l (by decide) b555 (by decide),?_,?_,a6e (x:=[5,5,5]) b555 (by decide) (log:=10) (by decide) (by decide)⟩
 · rw [hc 19 (by rw [hl]; decide),if_neg (by decide),hN]; rfl
 · rw [hc 20 (by rw [hl]; decide),if_neg (by decide),hN]; rfl
set_option maxRecDepth 100000 in
set_option maxHeartbeats 2000000 in
theorem a8l (w : World) : Calls Tryz.prog 56 #[] w (Ret (.bool true) w):=by
 obtain ⟨f,hf,hfl,hfb,p19,p20,p24⟩:=d1l
 have htl : (f.take 19).length = 19:=by rw [List.length_take]; omega
 have hml : ((f.drop 19).take 1).length = 1:=by rw [List.length_take,List.length_drop]; omega
 have hdl : (f.drop 20).length = 4:=by rw [List.length_drop]; omega
 have hj1 : f.take 19 ++ (f.drop 19).take 1 = f.take 20:=(List.take_add (l:=f) (i:=19) (j:=1)).symm
 have hj2 : f.take 20 ++ f.drop 20 = f:=List.take_append_drop _ _
 have HF:=Lib.hid (And.intro hf (And.intro hfl (And.intro hfb (And.intro p19 (And.intro p20 (And.intro p24 (And.intro htl (And.intro hml (And.intro hdl (And.intro hj1 hj2))))))))))
 obtain ⟨w0,hw0⟩ : ∃ w0,w0 = w.alloc (.cells #[.int .u8 5,.int .u8 5,.int .u8 5] 5):=⟨_,rfl⟩
 have HB0 : Hid (Below w.heap.size w w0):=by show Below _ _ _; rw [hw0]; exact (Below.refl _ _).alloc (Nat.le_refl _) _
 have HS0 : Hid (BSl w0 (some ⟨w.heap.size,0,none⟩) 3 [5,5,5]):=by show BSl _ _ _ _; rw [hw0]; exact a4r [5,5,5] b555 (by decide)
 have HE:=a6l (some ⟨w.heap.size,0,none⟩) 3 [5,5,5] 10 w0 HS0.out (by decide) (by decide)
 rw [show ((10 : Nat) : Int) = 10 from rfl,show ([5,5,5] : List Int).length = 3 from rfl,<- hf] at HE
 have HE:=Lib.hid HE
 clear hf hfb p19 p20 p24 htl hml hdl hj1 hj2
 go_enter Tryz.func56,Tryz.ntmps56
 go_wp2_with fail
 rw [<- hw0]
 clear hw0
 refine HE.out.mono ?_
 rintro e w1 ⟨A1,c1,rfl,hr1,hb1⟩
 have hf1:=BSl.of hr1 HF.out.2.2.1
 rw [hfl]
 have HN:=Lib.hid (b1w 9 w1 (by decide))
 have hs1:=a3L A1 24 c1 19 (by decide) (by rw [<- hfl]; exact hf1.cap)
 have hs2:=d1k A1 24 c1 19 1 20 rfl (by decide) (by rw [<- hfl]; exact hf1.cap)
 have hs3:=a2f A1 24 c1 20 (by decide)
 obtain ⟨A2,hA2⟩ : ∃ A2,A2 = (if c1 = 19 then A1 else A1.map (·.add (19 * 1))):=⟨_,rfl⟩
 obtain ⟨A3,hA3⟩ : ∃ A3,A3 = (if c1 = 20 then A1 else A1.map (·.add (20 * 1))):=⟨_,rfl⟩
 have HX:=Lib.hid (And.intro (hf1.cut (k:=19) (by omega)) (And.intro ((hf1.from_ (k:=19) (by omega)).cut (k:=1) (by rw [List.length_drop]; omega)) (hf1.from_ (k:=20) (by omega))))
 rw [<- hA2] at hs2 HX
 rw [<- hA3] at hs3 HX
 have hs1 : ∀ W : World,(Instr.slice 22 (.slice A1 24 c1) none (some (.int .i64 19)) none).run Tryz.prog W = .ok (.slice A1 19 c1) W:=hs1
 have hs2 : ∀ W : World,(Instr.slice 22 (.slice A1 24 c1) (some (.int .i64 19)) (some (.int .i64 20)) none).run Tryz.prog W = .ok (.slice A2 1 (c1 - 19)) W:=hs2
 have hs3 : ∀ W : World,(Instr.slice 22 (.slice A1 24 c1) (some (.int .i64 20)) none none).run Tryz.prog W = .ok (.slice A3 4 (c1 - 20)) W:=hs3
 have hcap : (24 : Int) <= (c1 : Int):=by have:=hf1.cap; omega
 have HB1:=Lib.hid (a0k HB0.out hb1)
 clear hr1 hb1 hf1 hA2 hA3 hfl
 go_wp2_with fail
 refine HN.out.mono ?_
 rintro e w2 ⟨p,rfl,hst2,hp2,hb2⟩
 have a1:=HX.out.1.off hp2
 have a2:=HX.out.2.1.off hp2
 have a3:=HX.out.2.2.off hp2
 have F1:=a5v p (p + 1) 9 [] (f.take 19) (f.take 19) (k:=3) (y:=[]) (X:=[]) A1 c1 w2 hst2 (by decide) (by decide) (λ x h=>by cases h) (HX.out.1.below hb2) a1 (by rw [HF.out.2.2.2.2.2.2.1]; decide) rfl (by rw [a3U (by decide)]; rfl) HF.out.2.2.2.1
 rw [HF.out.2.2.2.2.2.2.1] at F1
 have F1:=Lib.hid F1
 have HA:=Lib.hid (And.intro a1 (And.intro a2 (And.intro a3 (And.intro hp2 hb2))))
 clear hst2 hp2 hb2 a1 a2 a3
 go_wp2_with fail
 refine F1.out.mono ?_
 rintro e w3 ⟨A4,c4,rfl,hr4,hst3,ho3⟩
 have F2:=a5v p w2.heap.size 9 (f.take 19) ((f.drop 19).take 1) (f.take 20) (k:=3) (y:=[5,5,5]) (X:=[]) A2 (c1 - 19) w3 hst3 (by decide) (by decide) (λ z hz=>HF.out.2.2.1 z (List.mem_of_mem_take hz)) ((HX.out.2.1.below HA.out.2.2.2.2).below' ho3 HA.out.2.1) HA.out.2.1 (by rw [HF.out.2.2.2.2.2.2.1,HF.out.2.2.2.2.2.2.2.1]; decide) HF.out.2.2.2.2.2.2.2.2.2.1 (by rw [HF.out.2.2.2.1]) HF.out.2.2.2.2.1
 rw [HF.out.2.2.2.2.2.2.2.1] at F2
 have F2:=Lib.hid F2
 have HO3:=Lib.hid ho3
 have hp3:=hst3.lt
 have l4 : (([] : List Int).length : Int) = 0:=rfl
 clear hr4 hst3 ho3
 unfold errF
 go_wp2_with fail
 refine F2.out.mono ?_
 rintro e w4 ⟨A5,c5,rfl,hr5,hst4,ho4⟩
 have F3:=a5v p w3.heap.size 9 (f.take 20) (f.drop 20) f (k:=0) (y:=[]) (X:=[5,5,5]) A3 (c1 - 20) w4 hst4 (by decide) (by decide) (λ z hz=>HF.out.2.2.1 z (List.mem_of_mem_take hz)) (((HX.out.2.2.below HA.out.2.2.2.2).below' HO3.out HA.out.2.2.1).below' ho4 HA.out.2.2.1) HA.out.2.2.1 (by rw [HF.out.2.2.2.2.2.2.2.2.1,List.length_take]; omega) HF.out.2.2.2.2.2.2.2.2.2.2 (by rw [HF.out.2.2.2.2.1]) (by rw [HF.out.2.2.2.2.2.1]; rfl)
 rw [HF.out.2.2.2.2.2.2.2.2.1] at F3
 have F3:=Lib.hid F3
 have HV:=Lib.hid (BSl.of hr5 b555)
 have HO4:=Lib.hid ho4
 have hpw : Hid (w.heap.size <= p):=Lib.hid (Nat.le_trans HB1.out.size HA.out.2.2.2.1)
 have hw5a:=Lib.hid (And.intro hr5 hst4)
 clear hr5 hst4 ho4
 unfold errF
 go_wp2_with fail
 refine F3.out.mono ?_
 rintro e w5 ⟨A6,c6,rfl,hr6,hst5,ho5⟩
 obtain ⟨q7,q6⟩:=hst5.cells (by decide)
 rw [HF.out.2.2.2.2.2.1] at q7 q6
 have HFi:=Lib.hid (a8j p 0 w5 q7)
 have HTo:=Lib.hid (b8G p 3 w5 q6)
 have hap5 : Apart p A5 [5,5,5]:=R_off hw5a.out.1 hp3
 have v5 : (convert 22 9 (.slice A5 3 c5)).run Tryz.prog w5 = .ok (.string ⟨#[5,5,5]⟩) w5:=(HV.out.below' ho5 hap5).str
 have HBe : Hid (Below w.heap.size w w5):=Lib.hid (HB1.out.trans ((HA.out.2.2.2.2.mono HB1.out.size).trans ((((HO3.out.trans HO4.out).trans ho5)).below (Nat.le_trans HB1.out.size HA.out.2.2.2.2.size) (λ k hk=>by have:=hpw.out; omega))))
 clear hr6 hst5 ho5 q7 q6 hap5 hp3
 unfold errF
 go_wp2_with fail
 refine HFi.out.mono ?_
 rintro e w6 ⟨rfl,rfl⟩
 go_wp2_with fail
 refine HTo.out.mono ?_
 rintro e w6 ⟨rfl,rfl⟩
 go_wp2_with fail
 go_ret
 exact ⟨rfl,HBe.out⟩
def kb (w0 : World) : Kd (List Int) where
 sz:=1
 E:=[]
 K:=λ _ x cs=>∃ A c,cs = [.slice A x.length c] /\ BSl w0 A c x
 M:=λ _ _ _ x cs=>∃ A c,cs = [.slice A x.length c] /\ BSl w0 A c x
 K_len:=by rintro w x cs ⟨A,c,rfl,_⟩; rfl
 K_one:=by rintro w x cs ⟨A,c,rfl,_⟩ u hu; rw [List.mem_singleton.1 hu]; rfl
 K_below:=λ _ h=>h
 K_of_M:=λ h=>h
 M_mono:=λ _ h=>h
 M_bound:=λ h=>h
 M_move:=λ _ h=>h
 M_lower:=λ _ h=>h
def cutsL : List Int -> List Nat -> List (List Int)
 | b,[]=>[b]
 | b,n :: l=>b.take (n % (b.length + 1)) :: cutsL (b.drop (n % (b.length + 1))) l
theorem d1m (q : List Int) (m : Nat) (r : List Nat) : cutsL q (m :: r) = q.take (m % (q.length + 1)) :: cutsL (q.drop (m % (q.length + 1))) r:=rfl
theorem b8I : ∀ (l : List Nat) (b : List Int),(cutsL b l).flatten = b
 | [],b=>by simp [cutsL]
 | n :: l,b=>by
  unfold cutsL
  rw [List.flatten_cons,b8I l,List.take_append_drop]
theorem b1y : ∀ (l : List Nat) (b : List Int),(cutsL b l).length = l.length + 1
 | [],_=>rfl
 | n :: l,b=>by unfold cutsL; rw [List.length_cons,b1y l,List.length_cons]
def a0y (L : List (List Int)) (i : Nat) : List Int:=(L.take i).flatten
theorem b8J (L : List (List Int)) {i : Nat} (h : i < L.length) : a0y L (i + 1) = a0y L i ++ L.getD i []:=by
 unfold a0y
 rw [List.take_succ_eq_append_getElem h,List.flatten_append,List.getD_eq_getElem?_getD,List.getElem?_eq_getElem h]
 simp
theorem b1z (L : List (List Int)) (i : Nat) : (a0y L i).length <= L.flatten.length:=by
 unfold a0y
 conv=>rhs; rw [<- List.take_append_drop i L,List.flatten_append,List.length_append]
 omega
theorem b8K {L : List (List Int)} (h : Bytes L.flatten) (i : Nat) : Bytes (a0y L i):=λ x hx=>by
 refine h x ?_
 have e : L.flatten = (L.take i).flatten ++ (L.drop i).flatten:=by rw [<- List.flatten_append,List.take_append_drop]
 rw [e]
 exact List.mem_append_left _ hx
theorem b8L {w0 w : World} {B n c : Nat} {A : Option Addr} {L : List (List Int)} (h : (kb w0).R 22 w B (λ _=>True) (.slice A n c) L) {i : Nat} (hi : i < L.length) :
    ∃ ad Ai ci,A = some ad /\ w.cell? (ad.add i) = some (.slice Ai (L.getD i []).length ci) /\ BSl w0 Ai ci (L.getD i []):=by
 obtain ⟨hn,-,hr⟩:=Kd.R_reads' h
 obtain ⟨ad,cs,ha,-,⟨Ai,ci,rfl,hb⟩,hc⟩:=ReadsRow.get_ hr ([] : List Int) (i : Int) (by omega) (by omega)
 rw [Int.toNat_natCast] at hb hc
 refine ⟨ad,Ai,ci,ha,?_,hb⟩
 have:=hc 0 _ rfl
 rw [show i * (kb w0).sz + 0 = i by show i * 1 + 0 = i; omega] at this
 exact this
theorem b8M : (Tryz.prog.info? 22).map (λ i=>(i.zero,i.size,i.bytes)) = some (some (.slice none 0 0),1,24):=by kernel_rfl
def natL (l : List Int) : List Nat:=l.map Int.toNat
set_option maxRecDepth 100000 in
set_option maxHeartbeats 2000000 in
theorem d1n (A Al : Option Addr) (c cl : Nat) (b l : List Int) (w0 w : World) (hb : BSl w0 A c b) (hl : (Kd.int .u16).C w Al l.length l) (_ : l.length <= cl) (hll : l.length <= 8) (hlw : ∀ x ∈ l,0 <= x /\ x < 65536) (hbl : b.length <= 100000) :
    Calls Tryz.prog 52 #[.slice A b.length c,.slice Al l.length cl] w (λ e w'=>∃ A' c',e = .returned (.slice A' (l.length + 1) c') /\ (kb w0).R 22 w' w.heap.size (λ _=>True) (.slice A' (l.length + 1) c') (cutsL b (natL l)) /\ Below w.heap.size w w'):=by
 have HX:=Lib.hid (And.intro hb (And.intro hl (And.intro hlw hbl)))
 clear hb hl hlw
 go_enter Tryz.func52,Tryz.ntmps52
 go_wp2_with fail
 go_loopw [0,5,6,7] (λ bv ov kv _ wr=>∃ (i : Nat) (Ao Ab : Option Addr) (co cb : Nat) (q : List Int),i <= l.length /\ bv = .slice Ab q.length cb /\ ov = .slice Ao i co /\ kv = .int .i64 i /\ q.length <= 100000 /\ Hid (∃ Lo,(kb w0).R 22 wr w.heap.size (λ _=>True) (.slice Ao i co) Lo /\ Lo.length = i /\ Lo ++ cutsL q (natL (l.drop i)) = cutsL b (natL l) /\ BSl w0 Ab cb q /\ Below w.heap.size w wr)) (λ _ _ kv _ _=>l.length - (intOf kv).toNat)
 case atStart=>exact ⟨0,none,A,0,c,b,by omega,rfl,rfl,rfl,HX.out.2.2.2,Lib.hid ⟨[],Kd.R_nil _ _ _ _ _,rfl,by rw [List.drop_zero]; rfl,HX.out.1,Below.refl _ _⟩⟩
 case round=>
  obtain ⟨i,Ao,Ab,co,cb,q,hi,rfl,rfl,rfl,hql,H⟩:=hrel
  obtain ⟨Lo,hO,hLo,hLT,hQ,hB⟩:=H.out
  by_cases hlt : i < l.length
  · obtain ⟨ad,hA,hci⟩:=a0x HX.out.2.1 i hlt
    subst hA
    have hx:=HX.out.2.2.1 _ (a1z hlt)
    obtain ⟨m,hm⟩ : ∃ m : Nat,l.getD i 0 = (m : Int):=⟨(l.getD i 0).toNat,by omega⟩
    have hnat : natL (l.drop i) = m :: natL (l.drop (i + 1)):=by
     have e : l[i] = (m : Int):=by rw [<- hm,List.getD_eq_getElem?_getD,List.getElem?_eq_getElem hlt]; rfl
     rw [List.drop_eq_getElem_cons hlt,e]
     unfold natL
     rw [List.map_cons,Int.toNat_natCast]
    rw [hm] at hci hx
    obtain ⟨n,hn⟩ : ∃ n,n = m % (q.length + 1):=⟨_,rfl⟩
    have hnq : n <= q.length:=by have:=Nat.mod_lt m (by omega : 0 < q.length + 1); omega
    rw [hnat] at hLT
    rw [d1m,<- hn] at hLT
    have hI : (i : Int) < (l.length : Int):=by omega
    have hwr : IntKind.i64.wrap (m : Int) = (m : Int):=i64_in _ (by omega)
    have hq1 : IntKind.i64.wrap ((q.length : Int) + 1) = (q.length : Int) + 1:=i64_in _ (by omega)
    have hm1 : (m : Int).tmod ((q.length : Int) + 1) = (n : Int):=by rw [Int.tmod_eq_emod_of_nonneg (by omega),hn]; simp
    have hm2 : (m : Int) % ((q.length : Int) + 1) = (n : Int):=by rw [hn]; simp
    have hz : ((q.length : Int) + 1 == 0) = false:=by simp; omega
    have hz2 : ¬ (q.length : Int) + 1 = 0:=by omega
    have hci':=a0q hB hci
    have hsl:=a3L Ab q.length cb n hnq hQ.cap
    have hsf:=a2f Ab q.length cb n hnq
    have htl : (q.take n).length = n:=by rw [List.length_take]; omega
    have hdl : (q.drop n).length = q.length - n:=List.length_drop
    have HT:=Lib.hid (show (kb w0).M wr w.heap.size (λ _=>False) (q.take n) [.slice Ab n cb] from ⟨Ab,cb,by rw [htl],hQ.cut hnq⟩)
    have HD:=Lib.hid (hQ.from_ hnq)
    obtain ⟨Ad,hAd⟩ : ∃ Ad,Ad = (if cb = n then Ab else Ab.map (·.add (n * 1))):=⟨_,rfl⟩
    rw [<- hAd] at HD hsf
    obtain ⟨qd,hqd⟩ : ∃ qd,qd = q.drop n:=⟨_,rfl⟩
    obtain ⟨qt,hqt⟩ : ∃ qt,qt = q.take n:=⟨_,rfl⟩
    rw [<- hqd] at HD hdl hLT
    rw [<- hqt] at HT hLT
    rw [<- hdl] at hsf
    have HO:=Lib.hid hO
    have HB:=Lib.hid hB
    have HN:=Lib.hid (And.intro hLo hLT)
    have HZ : Hid ((Lo.length + 1) * 24 <= 140737488355328):=Lib.hid (by omega)
    have hqd2 : qd.length <= 100000:=by omega
    clear hO hB hLo hLT hQ hci hx hm hn hnq hnat hAd hqd hqt htl hdl hlt H
    go_wp2_with (at_builtin; refine a8G (kb w0) (w0:=w) (W:=wr) rfl _ _ 66 22 (.slice none 0 0) 24 rfl Tryz.underlying66 b8M rfl Nat.one_pos (by decide) (.slice Ao i co) Lo qt [.slice Ab n cb] rfl rfl HT.out HO.out HB.out HZ.out ?_; intro v1 w3 hr3 hb3 _ _; obtain ⟨A3,c3,rfl⟩:=Kd.R_slice hr3; have HR:=Lib.hid (And.intro hr3 hb3); clear hr3 hb3)
    go_roundw
    case rel=>exact ⟨i + 1,A3,Ad,c3,cb - n,qd,by omega,rfl,by rw [HN.out.1],by go_num,hqd2,Lib.hid ⟨Lo ++ [qt],by have:=HR.out.1; rw [List.length_append,HN.out.1] at this; exact this,by rw [List.length_append,HN.out.1]; rfl,by rw [List.append_assoc]; exact HN.out.2,HD.out,HR.out.2⟩⟩
    case measure=>simp [intOf]; omega
  · obtain rfl : i = l.length:=by omega
    rw [List.drop_length] at hLT
    have HT:=Lib.hid (show (kb w0).M wr w.heap.size (λ _=>False) q [.slice Ab q.length cb] from ⟨Ab,cb,rfl,hQ⟩)
    have HO:=Lib.hid hO
    have HB:=Lib.hid hB
    have HN:=Lib.hid (And.intro hLo (show Lo ++ [q] = cutsL b (natL l) from hLT))
    have HZ : Hid ((Lo.length + 1) * 24 <= 140737488355328):=Lib.hid (by omega)
    clear hO hB hLo hLT hQ hlt H
    go_wp2_with (at_builtin; refine a8G (kb w0) (w0:=w) (W:=wr) rfl _ _ 66 22 (.slice none 0 0) 24 rfl Tryz.underlying66 b8M rfl Nat.one_pos (by decide) (.slice Ao l.length co) Lo q [.slice Ab q.length cb] rfl rfl HT.out HO.out HB.out HZ.out ?_; intro v1 w3 hr3 hb3 _ _; obtain ⟨A3,c3,rfl⟩:=Kd.R_slice hr3; have HR:=Lib.hid (And.intro hr3 hb3); clear hr3 hb3)
    go_ret
    have e : (cutsL b (natL l)).length = l.length + 1:=by rw [b1y]; unfold natL; rw [List.length_map]
    refine ⟨A3,c3,?_,?_,HR.out.2⟩
    · rw [<- HN.out.1]; rfl
    · have h3:=HR.out.1
      rw [HN.out.2,e] at h3
      exact h3
theorem BSl.none_ (w : World) : BSl w none 0 []:=⟨(Kd.R_reads' (Kd.R_nil (Kd.int .u8) 5 w w.heap.size (λ _=>True))).2.2,Nat.le_refl _,λ _=>rfl,λ x hx=>by cases hx⟩
theorem BSl.apart {w : World} {A : Option Addr} {c p : Nat} {x : List Int} (h : BSl w A c x) (hp : w.heap.size <= p) : Apart p A x:=λ hn ad ha=>by
 have:=a5m h.row hn ha; omega
theorem u8_in {n : Int} (h : (Lit.int .u8 n).wf = true) : 0 <= n /\ n < 256:=by
 have a : IntKind.u8.min = 0:=rfl
 have b : IntKind.u8.max = 255:=rfl
 simp only [Lit.wf,a,b,Bool.and_eq_true,decide_eq_true_eq] at h
 omega
theorem a4A {n : Int} (h : (Lit.int .u16 n).wf = true) : 0 <= n /\ n < 65536:=by
 have a : IntKind.u16.min = 0:=rfl
 have b : IntKind.u16.max = 65535:=rfl
 simp only [Lit.wf,a,b,Bool.and_eq_true,decide_eq_true_eq] at h
 omega
end Go.Proofs.YtflfjpkmjnnodaaGreat
namespace Go.Proofs.YtflfjpkmjnnodaaGreat
open Go.RowKit Go.IntWalk Go.Proofs.YtflfjpkmjnnodaaGreatW.PrintWords Go.Proofs.YtflfjpkmjnnodaaGreatW.PrintMore
attribute [local go_sem] a1Z
set_option maxRecDepth 100000 in
theorem b8U {n : Nat} (h : ¬ n <= 60) : decide (60 < (n : Int)) = true:=decide_eq_true (by omega)
end Go.Proofs.YtflfjpkmjnnodaaGreat
namespace Go.Proofs.YtflfjpkmjnnodaaGreat
open Go.RowKit Go.IntWalk Go.Proofs.YtflfjpkmjnnodaaGreatW.PrintWords Go.Proofs.YtflfjpkmjnnodaaGreatW.PrintMore
structure PbRel (p : Nat) (lim : Int) (Ls : List (List Int)) (W0 : World) (i : Nat) (Lo : List Int) (Ao : Option Addr) (co : Nat) (W : World) : Prop where
 out : (Kd.int .u8).R 5 W W0.heap.size (λ _=>True) (.slice Ao Lo.length co) Lo
 st : ∃ b0,PullSt p b0 lim (a0y Ls i) W
 lo : Lo = (a0u (a0y Ls i) lim).2
 on : Only (λ k=>k = p) W0 W
theorem PbRel.next {p : Nat} {lim : Int} {Ls : List (List Int)} {W0 W W1 W2 : World} {i : Nat} {Lo y : List Int} {Ao A2 : Option Addr} {co c2 : Nat}
    (hst : PullSt p W.heap.size lim (a0y Ls (i + 1)) W1) (hp : p < W0.heap.size) (h : PbRel p lim Ls W0 i Lo Ao co W) (hon : Only (λ k=>k = p) W W1) (hb : Below W0.heap.size W1 W2) (hg : W1.grownBy W2 (Value.slice Ao Lo.length co).ownBlock)
    (hr : (Kd.int .u8).R 5 W2 W0.heap.size (λ _=>True) (.slice A2 (Lo ++ y).length c2) (Lo ++ y)) (hlo : Lo ++ y = (a0u (a0y Ls (i + 1)) lim).2) : PbRel p lim Ls W0 (i + 1) (Lo ++ y) A2 c2 W2:=
 ⟨hr,⟨W.heap.size,hst.grown hg (λ k hk=>by have:=((Kd.R_bound h.out).1 k hk).2; omega)⟩,hlo,(h.on.trans hon).behind hb (Nat.le_refl _)⟩
theorem d1F (L : List (List Int)) (j : Nat) : L.flatten.take (a0y L j).length = a0y L j:=by
 have e : L.flatten = a0y L j ++ (L.drop j).flatten:=by unfold a0y; rw [<- List.flatten_append,List.take_append_drop]
 conv=>lhs; rw [e]
 rw [List.take_append_of_le_length (Nat.le_refl _),List.take_length]
theorem d1G (L : List (List Int)) {i j : Nat} (h : i <= j) : (a0y L i).length <= (a0y L j).length:=by
 have:=b1z (L.take j) i
 unfold a0y at this ⊢
 rw [List.take_take,Nat.min_eq_left h] at this
 exact this
theorem d1H (L : List (List Int)) {i m : Nat} (hm : m + 1 = L.length) (hi : i < m) (h0 : 0 < (L.getD m []).length) : (a0y L (i + 1)).length < L.flatten.length:=by
 have h1:=d1G L (show i + 1 <= m by omega)
 have h2:=b8J L (i:=m) (by omega)
 have h3 : a0y L (m + 1) = L.flatten:=by unfold a0y; rw [hm,List.take_length]
 rw [h3] at h2
 rw [h2,List.length_append]
 omega
theorem d1I {x : List Int} (hb : Bytes x) (hl : x.length <= 40000) {L : List (List Int)} (hL : L.flatten = encM x 10) (j : Nat) : ((a0u (a0y L j) x.length).1 = 0 \/ (a0u (a0y L j) x.length).1 = 3) /\ ((a0y L j).length < (encM x 10).length -> (a0u (a0y L j) x.length).1 = 3):=by
 have ht:=d1F L j
 rw [hL] at ht
 have hle:=b1z L j
 rw [hL] at hle
 by_cases h : (a0y L j).length < (encM x 10).length
 · have hc:=b0H hb hl (log:=10) (by decide) h (Int.le_refl (x.length : Int))
   rw [ht] at hc
   rw [hc]
   exact ⟨.inr rfl,λ _=>rfl⟩
 · rw [List.take_of_length_le (by omega)] at ht
   rw [<- ht,a6e hb hl (log:=10) (by decide) (Int.le_refl (x.length : Int))]
   exact ⟨.inl rfl,λ h=>absurd h (Nat.lt_irrefl _)⟩
theorem d1J {k : Int} (h : k = 0 \/ k = 3) : errF k = 0:=by rcases h with rfl | rfl <;> rfl
set_option maxRecDepth 100000 in
set_option maxHeartbeats 4000000 in
theorem d1K (A B : Option Addr) (ca cb : Nat) (b cuts : List Int) (fill : Int) (more : Nat) (w : World) (hb : BSl w A ca b) (hc : (Kd.int .u16).C w B cuts.length cuts) (hcc : cuts.length <= cb) (hcw : ∀ x ∈ cuts,0 <= x /\ x < 65536) (hl : b.length <= 60) (hcl : cuts.length <= 8) (hf : 0 <= fill /\ fill < 256) (hm : more < 65536) :
    Calls Tryz.prog 16 #[.slice A b.length ca,.int .u8 fill,.int .u16 more,.slice B cuts.length cb] w (Ret (.bool true) w):=by
 have d1 : decide (60 < (b.length : Int)) = false:=decide_eq_false (by omega)
 have d2 : decide (8 < (cuts.length : Int)) = false:=decide_eq_false (by omega)
 have HX:=Lib.hid (And.intro hb (And.intro hc (And.intro hcw (And.intro hf (And.intro hm hcc)))))
 have hlen:=a6m b fill (more % 2600)
 have hNl : more % 2600 < 2600:=Nat.mod_lt _ (by decide)
 have HBy:=Lib.hid (b1m hb.by' hf (more % 2600))
 clear hb hc hcw hf hm hcc
 go_enter Tryz.func16,Tryz.ntmps16
 go_wp2_with fail
 refine (a8l w).mono ?_
 rintro e w1 ⟨rfl,hb1⟩
 have HS:=Lib.hid (b8a A ca b fill more w1 (HX.out.1.below hb1) hl HX.out.2.2.2.1 HX.out.2.2.2.2.1)
 obtain ⟨x,hx⟩ : ∃ x,x = someL b fill (more % 2600):=⟨_,rfl⟩
 rw [<- hx] at HS HBy hlen
 rw [<- hlen] at HS
 have hxl : x.length <= 2660:=by omega
 have HB1:=Lib.hid hb1
 clear hb1 hx hlen hNl
 go_wp2_with fail
 refine HS.out.mono ?_
 rintro e w2 ⟨A2,c2,rfl,hx2,hb2⟩
 have HX2:=Lib.hid hx2
 have HB2:=Lib.hid (a0k HB1.out hb2)
 have HE:=a6l A2 c2 x 10 w2 hx2 (by omega) (by decide)
 have hen:=a6f x 10
 have HEl:=Lib.hid (show (encM x 10).length <= 40000 by have:=a4y (2 ^ 10) x.length x.length; omega)
 have HEb:=Lib.hid (b1l (L:=10) (by omega) HBy.out (by omega))
 obtain ⟨f,hf⟩ : ∃ f,f = encM x 10:=⟨_,rfl⟩
 rw [<- hf] at HE HEl HEb
 rw [show ((10 : Nat) : Int) = 10 from rfl] at HE
 have HE:=Lib.hid HE
 have HF:=Lib.hid hf
 clear hx2 hb2 hf hen
 go_wp2_with fail
 refine HE.out.mono ?_
 rintro e w3 ⟨A3,c3,rfl,hf3,hb3⟩
 have H3:=Lib.hid (And.intro (BSl.of hf3 HEb.out) hb3)
 have HN:=Lib.hid (b1w x.length w3 (by omega))
 clear hf3 hb3
 go_wp2_with fail
 refine HN.out.mono ?_
 rintro e w4 ⟨p,rfl,hs4,hp4,hb4⟩
 have H4:=Lib.hid (And.intro hs4 (And.intro hp4 hb4))
 have HC:=Lib.hid (d1n A3 B c3 cb f cuts w3 w4 H3.out.1 (Kd.C_below (Kd.C_below (Kd.C_below HX.out.2.1 HB2.out) H3.out.2) hb4) HX.out.2.2.2.2.2 hcl HX.out.2.2.1 (by have:=HEl.out; omega))
 clear hs4 hp4 hb4
 go_wp2_with fail
 refine HC.out.mono ?_
 rintro e w5 ⟨A5,c5,rfl,hl5,hb5⟩
 have hLl : (cutsL f (natL cuts)).length = cuts.length + 1:=by rw [b1y]; unfold natL; rw [List.length_map]
 have hjoin:=b8I (natL cuts) f
 obtain ⟨Ls,hLs⟩ : ∃ Ls,Ls = cutsL f (natL cuts):=⟨_,rfl⟩
 rw [<- hLs] at hl5 hLl hjoin
 rw [<- hLl] at hl5 ⊢
 have hst5:=H4.out.1.below hb5
 have HI:=Lib.hid (And.intro hl5 (And.intro hb5 hst5.lt))
 have HJ:=Lib.hid hjoin
 have HSt:=Lib.hid hst5
 have HLl:=Lib.hid hLl
 obtain ⟨m,hm⟩ : ∃ m,m + 1 = Ls.length:=⟨cuts.length,hLl.symm⟩
 have hLs9 : Ls.length <= 9:=by omega
 have hwm : IntKind.i64.wrap ((Ls.length : Int) - 1) = (m : Int):=by rw [i64_in _ (by omega)]; omega
 have hmI : (m : Int) < (Ls.length : Int):=by omega
 have HM:=Lib.hid hm
 clear hl5 hb5 hLl hjoin hLs hst5 hm
 go_wp2_with fail
 go_loopw [15,17,18,19] (λ ov iv _ _ wr=>∃ (i : Nat) (Lo : List Int) (Ao : Option Addr) (co : Nat),i <= Ls.length /\ ov = .slice Ao Lo.length co /\ iv = .int .i64 i /\ Hid (PbRel p x.length Ls w5 i Lo Ao co wr)) (λ _ iv _ _ _=>Ls.length - (intOf iv).toNat)
 case atStart=>exact ⟨0,[],none,0,by omega,rfl,rfl,Lib.hid ⟨Kd.R_nil _ _ _ _ _,⟨p + 1,HSt.out⟩,by show [] = (a0u [] _).2; rw [a3U (by omega)]; rfl,Only.refl _ _⟩⟩
 case round=>
  obtain ⟨i,Lo,Ao,co,hi,rfl,rfl,H⟩:=hrel
  obtain ⟨b0,hst⟩:=H.out.st
  by_cases hlt : i < Ls.length
  · have hrow:=a1B HI.out.1 H.out.on (λ k hk h=>by have:=H4.out.1.lt; omega)
    obtain ⟨ad,Ai,ci,hA,hcell,hpart⟩:=b8L hrow hlt
    subst hA
    have hsucc:=b8J Ls hlt
    obtain ⟨pt,hpt⟩ : ∃ pt,pt = Ls.getD i []:=⟨_,rfl⟩
    rw [<- hpt] at hsucc hcell hpart
    have hap:=hpart.off H4.out.2.1
    have hon3 : Only (λ k=>k = p) w3 wr:=(Only.of_below (H4.out.2.2.trans (HI.out.2.1.mono H4.out.2.2.size))).trans H.out.on
    have hhb : Bytes (a0y Ls i):=b8K (by rw [HJ.out]; exact HEb.out) i
    have hpre:=d1I HBy.out (by omega) (L:=Ls) (by rw [HJ.out,HF.out]) (i + 1)
    have hle:=b1z Ls (i + 1)
    rw [HJ.out] at hle
    obtain ⟨y,hy⟩:=d1f (lim:=x.length) (by omega) hhb pt hpart.by'
    rw [<- hsucc] at hy
    obtain ⟨k,hk⟩ : ∃ k,k = (a0u (a0y Ls (i + 1)) x.length).1:=⟨_,rfl⟩
    have hpk : a0u (a0y Ls (i + 1)) x.length = (k,Lo ++ y):=by rw [H.out.lo,<- hy,hk]
    have HFd:=a5v p b0 x.length (a0y Ls i) pt (a0y Ls (i + 1)) (k:=k) (y:=y) (X:=Lo) Ai ci wr hst (by omega) (by omega) hhb (hpart.below' hon3 hap) hap (by rw [hsucc,List.length_append] at hle; have:=HEl.out; omega) hsucc.symm H.out.lo.symm hpk
    unfold PFed at HFd
    rw [d1J (by rw [hk]; exact hpre.1)] at HFd
    have HFd:=Lib.hid HFd
    have hyl : Lo.length + y.length <= 40000000000:=by
     have h1:=(a8i (x.length : Int) (f:=a0y Ls (i + 1)) (b8K (by rw [HJ.out]; exact HEb.out) _)).2.2.1
     have h2 : (pullR (x.length : Int) (a0y Ls (i + 1))).2.x = Lo ++ y:=by rw [a3U (by omega)] at hpk; injection hpk
     rw [h2,List.length_append] at h1
     have:=HEl.out; omega
    have HZ : Hid (Lo.length + y.length <= 140737488355328):=Lib.hid (by omega)
    have HN2:=Lib.hid (And.intro hpk (show Lo ++ y = (a0u (a0y Ls (i + 1)) x.length).2 by rw [hpk]))
    have hk3 : i < m -> 0 < (Ls.getD m []).length -> k = 3:=λ h1 h2=>by rw [hk]; exact hpre.2 (by rw [<- HF.out,<- HJ.out]; exact d1H Ls HM.out h1 h2)
    have HK3:=Lib.hid hk3
    have HRow:=Lib.hid hrow
    have hI : (i : Int) < (Ls.length : Int):=by omega
    clear hst hpart hsucc hap hon3 hhb hpre hle hy hk hpk hyl hk3 hrow hpt
    go_wp2_with fail
    refine HFd.out.mono ?_
    rintro e w6 ⟨A6,c6,rfl,hr6,hs6,ho6⟩
    have hpl:=HI.out.2.2
    have HO6:=Lib.hid (a1B H.out.out ho6 (λ k hk h=>by omega))
    have HC6:=Lib.hid (Kd.R_reads' hr6).2.2
    have HB6 : Hid (Below w5.heap.size w6 w6):=Lib.hid (Below.refl _ _)
    have HS6 : Hid (w5.heap.size <= w6.heap.size):=Lib.hid (Nat.le_trans H.out.on.size ho6.size)
    have H6:=Lib.hid (And.intro hs6 ho6)
    obtain ⟨q7,-⟩:=hs6.cells (by omega)
    rw [HN2.out.1] at q7
    have HFi:=Lib.hid (a8j p k w6 q7)
    obtain ⟨ad2,Am,cm,hA2,hcm,-⟩:=b8L (a1B HRow.out ho6 (λ k hk h=>by have:=H4.out.1.lt; omega)) (i:=m) (by have:=HM.out; omega)
    injection hA2 with hA2
    subst hA2
    obtain ⟨lst,hlst⟩ : ∃ l,l = Ls.getD m []:=⟨_,rfl⟩
    rw [<- hlst] at hcm HK3
    clear hr6 hs6 ho6 q7 hlst hpl hcell
    by_cases him : i < m
    · have himI : (i : Int) < (m : Int):=by omega
      by_cases h0 : 0 < lst.length
      · have h0I : (0 : Int) < (lst.length : Int):=by omega
        have hk3:=HK3.out him h0
        rw [hk3] at HFi
        clear him h0 hk3
        go_wp2_with fail
        refine HFi.out.mono ?_
        rintro e w7 ⟨rfl,rfl⟩
        go_wp2_with (at_builtin; refine app8 rfl rfl rfl rfl HO6 HC6 HB6 HS6.out HZ ?_; intro A7 c7 w7 hr7 hb7 hg7; have HR7:=Lib.hid (And.intro hr7 (And.intro hb7 hg7)); clear hr7 hb7 hg7)
        go_roundw
        case rel=>exact ⟨i + 1,Lo ++ y,A7,c7,by omega,by rw [List.length_append],by go_num,Lib.hid (PbRel.next H6.out.1 HI.out.2.2 H.out H6.out.2 HR7.out.2.1 HR7.out.2.2 (by rw [List.length_append]; exact HR7.out.1) HN2.out.2)⟩
        case measure=>simp [intOf]; omega
      · have h0I : ¬ (0 : Int) < (lst.length : Int):=by omega
        clear him h0
        go_wp2_with (at_builtin; refine app8 rfl rfl rfl rfl HO6 HC6 HB6 HS6.out HZ ?_; intro A7 c7 w7 hr7 hb7 hg7; have HR7:=Lib.hid (And.intro hr7 (And.intro hb7 hg7)); clear hr7 hb7 hg7)
        go_roundw
        case rel=>exact ⟨i + 1,Lo ++ y,A7,c7,by omega,by rw [List.length_append],by go_num,Lib.hid (PbRel.next H6.out.1 HI.out.2.2 H.out H6.out.2 HR7.out.2.1 HR7.out.2.2 (by rw [List.length_append]; exact HR7.out.1) HN2.out.2)⟩
        case measure=>simp [intOf]; omega
    · have himI : ¬ (i : Int) < (m : Int):=by omega
      clear him
      go_wp2_with (at_builtin; refine app8 rfl rfl rfl rfl HO6 HC6 HB6 HS6.out HZ ?_; intro A7 c7 w7 hr7 hb7 hg7; have HR7:=Lib.hid (And.intro hr7 (And.intro hb7 hg7)); clear hr7 hb7 hg7)
      go_roundw
      case rel=>exact ⟨i + 1,Lo ++ y,A7,c7,by omega,by rw [List.length_append],by go_num,Lib.hid (PbRel.next H6.out.1 HI.out.2.2 H.out H6.out.2 HR7.out.2.1 HR7.out.2.2 (by rw [List.length_append]; exact HR7.out.1) HN2.out.2)⟩
      case measure=>simp [intOf]; omega
  · obtain rfl : i = Ls.length:=by omega
    have hI : ¬ (Ls.length : Int) < (Ls.length : Int):=by omega
    have hall : a0y Ls Ls.length = f:=by unfold a0y; rw [List.take_length]; exact HJ.out
    have hlo:=H.out.lo
    have hpf : a0u f x.length = (0,x):=by rw [HF.out]; exact a6e HBy.out (by omega) (log:=10) (by decide) (Int.le_refl _)
    rw [hall] at hst hlo
    rw [hpf] at hlo
    dsimp only at hlo
    subst hlo
    obtain ⟨q7,q6⟩:=hst.cells (by omega)
    rw [hpf] at q7 q6
    have HFi:=Lib.hid (a8j p 0 wr q7)
    have HTo:=Lib.hid (b8G p Lo.length wr q6)
    have hb24 : Below w2.heap.size w2 w4:=a0k H3.out.2 H4.out.2.2
    have hx5 : (Kd.int .u8).C wr A2 Lo.length Lo:=((HX2.out.below (a0k hb24 HI.out.2.1)).below' H.out.on (HX2.out.off (Nat.le_trans H3.out.2.size H4.out.2.1))).row
    have HSm:=Lib.hid (b0r Ao A2 co c2 Lo wr (Kd.R_reads' H.out.out).2.2 hx5 HBy.out)
    have HFin : Hid (Below w.heap.size w wr):=by
     have hb5 : Below w.heap.size w w5:=a0k (a0k HB2.out hb24) HI.out.2.1
     exact Lib.hid (hb5.trans (H.out.on.below hb5.size (λ k hk=>by have:=H4.out.2.1; have:=HB2.out.size; have:=H3.out.2.size; omega)))
    clear hst hall hpf q7 q6 hb24 hx5 hlt
    go_wp2_with fail
    refine HSm.out.mono ?_
    rintro e w8 ⟨rfl,rfl⟩
    go_wp2_with fail
    refine HFi.out.mono ?_
    rintro e w8 ⟨rfl,rfl⟩
    go_wp2_with fail
    refine HTo.out.mono ?_
    rintro e w8 ⟨rfl,rfl⟩
    go_wp2_with fail
    go_ret
    exact ⟨rfl,HFin.out⟩
theorem d1L {a b m n : Nat} (h : ¬ (a <= m /\ b <= n)) : decide ((m : Int) < (a : Int)) = true \/ (decide ((m : Int) < (a : Int)) = false /\ decide ((n : Int) < (b : Int)) = true):=by
 by_cases h1 : a <= m
 · exact .inr ⟨decide_eq_false (by omega),decide_eq_true (by omega)⟩
 · exact .inl (decide_eq_true (by omega))
set_option maxRecDepth 100000 in
theorem d1M (A : Option Addr) (ca : Nat) (b : List Int) (fill more : Int) (B : Option Addr) (cb : Nat) (cuts : List Int) (w : World) (hr : (Kd.int .u8).C w A b.length b) (hc : b.length <= ca) (hby : Bytes b) (_ : b.length * 1 <= 140737488351232) (hnil : A = none -> ca = 0) (hf : (Lit.int .u8 fill).wf = true) (hm : (Lit.int .u16 more).wf = true) (hr4 : (Kd.int .u16).C w B cuts.length cuts) (hc4 : cuts.length <= cb) (hw4 : ∀ n ∈ cuts,(Lit.int .u16 n).wf = true) (_ : cuts.length * 2 <= 140737488351232) :
    Calls Tryz.prog 16 #[.slice A b.length ca,.int .u8 fill,.int .u16 more,.slice B cuts.length cb] w (Ret (.bool true) w):=by
 obtain ⟨k,rfl⟩ : ∃ k : Nat,more = k:=⟨more.toNat,by have:=a4A hm; omega⟩
 have hk:=a4A hm
 by_cases h1 : b.length <= 60 /\ cuts.length <= 8
 · exact d1K A B ca cb b cuts fill k w ⟨hr,hc,hnil,hby⟩ hr4 hc4 (λ x hx=>a4A (hw4 x hx)) h1.1 h1.2 (u8_in hf) (by omega)
 · have hd:=d1L h1
   rw [show ((60 : Nat) : Int) = 60 from rfl,show ((8 : Nat) : Int) = 8 from rfl] at hd
   clear h1 hr hc hby hnil hf hm hr4 hc4 hw4
   rcases hd with d1 | ⟨d1,d2⟩
   all_goals
    go_enter Tryz.func16,Tryz.ntmps16
    go_wp2_with fail
    refine (a8l w).mono ?_
    rintro e w1 ⟨rfl,hb1⟩
    have HB1:=Lib.hid hb1
    clear hb1
    go_wp2_with fail
    go_ret
    exact ⟨rfl,HB1.out⟩
theorem d1N {W : World} {B n c : Nat} {A : Option Addr} {xs : List Int} (h : (Kd.int .u8).R 5 W B (λ _=>True) (.slice A n c) xs) (hn : 0 < n) : ∃ g,A = some ⟨g,0,none⟩:=by
 obtain ⟨_,inner,hown,_⟩:=h
 rcases hown.2 with ⟨e,_⟩ | ⟨g,cap,cur,e,_⟩
 · injection e with e1 e2 e3; omega
 · injection e with e1 e2 e3; exact ⟨g,e1⟩
theorem d1O {W : World} {B n c g : Nat} {xs : List Int} (h : (Kd.int .u8).R 5 W B (λ _=>True) (.slice (some ⟨g,0,none⟩) n c) xs) {i : Nat} (hi : i < n) : W.cell? ⟨g,i,none⟩ = some (.int .u8 (xs.getD i 0)) /\ W.frozen? ⟨g,i,none⟩ = false:=by
 obtain ⟨hn,-,hc⟩:=Kd.R_reads' h
 obtain ⟨ad,ha,hcell⟩:=a0x hc i (by omega)
 injection ha with ha
 subst ha
 have e1 : ((⟨g,0,none⟩ : Addr).add i) = ⟨g,i,none⟩:=by
  unfold Addr.add
  split
  · rename_i h0; rw [h0]
  · simp
 rw [e1] at hcell
 obtain ⟨_,_,_,q,_,cells,hb⟩:=(Kd.R_bound h).1 g rfl
 exact ⟨hcell,a0e hb i⟩
theorem d1P {xs : List Int} (h : Bytes xs) (i : Nat) {z : Int} (hz : 0 <= z /\ z < 256) : Bytes (xs.set i z):=λ y hy=>by
 rcases List.mem_or_eq_of_mem_set hy with h1 | h1
 · exact h y h1
 · rw [h1]; exact hz
set_option maxRecDepth 100000 in
set_option maxHeartbeats 4000000 in
theorem d1Q (A : Option Addr) (ca : Nat) (b : List Int) (at' v : Nat) (w : World) (hb : BSl w A ca b) (hbl : b.length <= 60) (hat : at' < 65536) (hv : v < 256) :
    Calls Tryz.prog 17 #[.slice A b.length ca,.int .u16 at',.int .u8 v] w (Ret (.bool true) w):=by
 have d1 : decide (60 < (b.length : Int)) = false:=decide_eq_false (by omega)
 have HX:=Lib.hid hb
 have hen:=a6f b 10
 have HEl:=Lib.hid (show (encM b 10).length <= 40000 by have:=a4y (2 ^ 10) b.length b.length; omega)
 have HEb:=Lib.hid (b1l (L:=10) (by decide) hb.by' (by omega))
 have HPf:=Lib.hid (a6e hb.by' (by omega) (log:=10) (by decide) (limit:=60) (by omega))
 have HPc:=Lib.hid (λ j (hj : j < (encM b 10).length)=>b0H hb.by' (by omega) (log:=10) (by decide) hj (limit:=60) (by omega))
 have HEE:=Lib.hid (λ (W : World) (h : Below w.heap.size w W)=>a6l A ca b 10 W (hb.below h) (by omega) (by decide))
 obtain ⟨f,hf⟩ : ∃ f,f = encM b 10:=⟨_,rfl⟩
 rw [<- hf] at hen HEl HEb HPf HPc HEE
 rw [show ((10 : Nat) : Int) = 10 from rfl] at HEE
 have hf0 : ((f.length : Int) == 0) = false:=by simp; intro e; rw [e] at hen; simp at hen
 have hf00 : (f.length : Int) ≠ 0:=by omega
 have HFl:=HEl.out
 obtain ⟨k,hk⟩ : ∃ k,k = at' % f.length:=⟨_,rfl⟩
 have hkl : k < f.length:=by rw [hk]; exact Nat.mod_lt _ (by omega)
 have q1 : (at' : Int).tmod (f.length : Int) = (k : Int):=by rw [Int.tmod_eq_emod_of_nonneg (by omega),hk]; simp
 have q2 : (at' : Int) % (f.length : Int) = (k : Int):=by rw [hk]; simp
 have q3 : IntKind.i64.wrap (at' : Int) = (at' : Int):=i64_in _ (by omega)
 have q4 : IntKind.i64.wrap (k : Int) = (k : Int):=i64_in _ (by omega)
 have htl : (f.take k).length = k:=by rw [List.length_take]; omega
 have hdl : (f.drop k).length = f.length - k:=List.length_drop
 have hp1:=HPc.out k hkl
 obtain ⟨u,hu⟩ : ∃ u,u = (if k < 8 then 0 else cutN (2 ^ 10) b.length b (k - 8)):=⟨_,rfl⟩
 rw [<- hu] at hp1
 obtain ⟨y1,hy1⟩ : ∃ y,y = b.take u:=⟨_,rfl⟩
 obtain ⟨y2,hy2⟩ : ∃ y,y = b.drop u:=⟨_,rfl⟩
 have hyy : y1 ++ y2 = b:=by rw [hy1,hy2]; exact List.take_append_drop _ _
 rw [<- hy1] at hp1
 obtain ⟨x0,hx0⟩ : ∃ x,x = f.take k:=⟨_,rfl⟩
 obtain ⟨r0,hr0⟩ : ∃ x,x = f.drop k:=⟨_,rfl⟩
 have hxr : x0 ++ r0 = f:=by rw [hx0,hr0]; exact List.take_append_drop _ _
 rw [<- hx0] at htl hp1
 rw [<- hr0] at hdl
 have HP:=Lib.hid (And.intro hp1 (And.intro hyy (And.intro hxr (And.intro htl (And.intro hdl (And.intro hkl (And.intro hx0 hr0)))))))
 have HYl : Hid (y1.length + y2.length = b.length):=Lib.hid (by rw [<- hyy,List.length_append])
 have hyl : y1.length <= 60 /\ y2.length <= 60:=by have:=HYl.out; omega
 have hN:=λ W : World=>b1w 60 W (by decide)
 have HN:=Lib.hid hN
 have hkI : (k : Int) <= (f.length : Int):=by omega
 clear hb hf hen hk hkl htl hdl hp1 hu hy1 hy2 hyy hx0 hr0 hxr HPc hN
 go_enter Tryz.func17,Tryz.ntmps17
 go_wp2_with fail
 refine (a8l w).mono ?_
 rintro e w1 ⟨rfl,hb1⟩
 have HB1:=Lib.hid hb1
 have HE1:=Lib.hid (HEE.out w1 hb1)
 clear hb1
 go_wp2_with fail
 refine HE1.out.mono ?_
 rintro e w2 ⟨A2,c2,rfl,hr2,hb2⟩
 have hf2:=BSl.of hr2 HEb.out
 have HB2:=Lib.hid (a0k HB1.out hb2)
 have hsl:=a3L A2 f.length c2 k (by have:=HP.out.2.2.2.2.2.1; omega) hf2.cap
 have hsf:=a2f A2 f.length c2 k (by have:=HP.out.2.2.2.2.2.1; omega)
 obtain ⟨Ad,hAd⟩ : ∃ Ad,Ad = (if c2 = k then A2 else A2.map (·.add (k * 1))):=⟨_,rfl⟩
 have hdr:=hf2.from_ (k:=k) (by have:=HP.out.2.2.2.2.2.1; omega)
 have hcu:=hf2.cut (k:=k) (by have:=HP.out.2.2.2.2.2.1; omega)
 rw [<- hAd] at hsf hdr
 rw [<- HP.out.2.2.2.2.2.2.2] at hdr
 rw [<- HP.out.2.2.2.2.2.2.1] at hcu
 have hrl : f.length - k = r0.length:=HP.out.2.2.2.2.1.symm
 rw [hrl] at hsf
 have hkc : (k : Int) <= (c2 : Int):=by have:=hf2.cap; omega
 have HF2:=Lib.hid (And.intro hdr hcu)
 clear hr2 hb2 hf2 hAd hdr hcu hrl
 go_wp2_with fail
 refine (HN.out w2).mono ?_
 rintro e w3 ⟨p,rfl,hs3,hp3,hb3⟩
 have H3:=Lib.hid (And.intro hs3 (And.intro hp3 (And.intro hs3.lt hb3)))
 have HE0 : Hid ((Kd.int .u8).R 5 (w3.alloc (.cells #[] 5)) w3.heap.size (λ _=>True) (.slice (some ⟨w3.heap.size,0,none⟩) 0 0) []):=a2j .u8 5 w3 w3.heap.size (λ _=>True) trivial (Nat.le_refl _) [] (by decide)
 have HB0 : Hid (Below w3.heap.size w3 (w3.alloc (.cells #[] 5))):=(Below.refl _ _).alloc (Nat.le_refl _) _
 have hx0r:=(HF2.out.2.below hb3).row
 rw [HP.out.2.2.2.1] at hx0r
 have HRow0 : Hid ((Kd.int .u8).C (w3.alloc (.cells #[] 5)) A2 k x0):=Kd.C_alloc hx0r _
 have HL1 : Hid (([] : List Int).length + k <= 140737488355328):=Lib.hid (by have:=HP.out.2.2.2.2.2.1; simp; omega)
 clear hs3 hp3 hb3 hx0r
 go_wp2_with (at_builtin; first
  | (refine app8 rfl rfl rfl rfl HE0 HRow0 HB0 HB0.out.size HL1 ?_
     intro A4 c4 w4 hr4 hb4 _
     rw [List.nil_append] at hr4
     have e4 : ([] : List Int).length + k = k:=by simp
     rw [e4] at hr4 ⊢
     have H4:=Lib.hid (And.intro hr4 hb4)
     clear hr4 hb4 e4))
 have hst4:=H3.out.1.below H4.out.2
 have hx4 : BSl w4 A4 c4 x0:=by
  have h:=H4.out.1
  rw [<- HP.out.2.2.2.1] at h
  exact BSl.of h (by rw [HP.out.2.2.2.2.2.2.1]; exact λ z hz=>HEb.out z (List.mem_of_mem_take hz))
 have hF1:=a5v p (p + 1) 60 [] x0 x0 (k:=3) (y:=y1) (X:=[]) A4 c4 w4 hst4 (by decide) (by decide) (λ x hx=>by cases hx) hx4 (R_off H4.out.1 H3.out.2.2.1) (by rw [HP.out.2.2.2.1]; have:=HP.out.2.2.2.2.2.1; simp; omega) rfl (by rw [a3U (by decide)]; rfl) HP.out.1
 rw [HP.out.2.2.2.1] at hF1
 have HF1:=Lib.hid hF1
 clear hst4 hx4 hF1
 refine HF1.out.mono ?_
 rintro e w5 ⟨A5,c5,rfl,hr5,hs5,ho5⟩
 have H5:=Lib.hid (And.intro hr5 (And.intro hs5 ho5))
 clear hr5 hs5 ho5
 unfold errF
 go_wp2_with fail
 have hk4 : k <= 40000:=by have:=HP.out.2.2.2.2.2.1; omega
 go_loopw [16] (λ iv wr=>∃ i : Nat,i <= k /\ iv = .int .i64 i /\ Hid (∃ xs,(Kd.int .u8).R 5 wr w3.heap.size (λ _=>True) (.slice A4 k c4) xs /\ xs.length = k /\ Bytes xs /\ Only (λ j=>(Value.slice A4 k c4).ownBlock = some j) w5 wr)) (λ iv _=>k - (intOf iv).toNat)
 case atStart=>exact ⟨0,by omega,rfl,Lib.hid ⟨x0,a1B H4.out.1 H5.out.2.2 (λ j hj h=>by have:=H3.out.2.2.1; omega),HP.out.2.2.2.1,by rw [HP.out.2.2.2.2.2.2.1]; exact λ z hz=>HEb.out z (List.mem_of_mem_take hz),Only.refl _ _⟩⟩
 case round=>
  obtain ⟨i,hi,rfl,H⟩:=hrel
  obtain ⟨xs,hx1,hx2,hx3,hx4⟩:=H.out
  by_cases hlt : i < k
  · obtain ⟨g,rfl⟩:=d1N hx1 (by omega)
    obtain ⟨hc,hfz⟩:=d1O hx1 hlt
    have hby:=hx3 _ (a1z (by omega : i < xs.length))
    obtain ⟨y,hy⟩ : ∃ y : Nat,xs.getD i 0 = y:=⟨(xs.getD i 0).toNat,by omega⟩
    rw [hy] at hc hby
    have hxo:=u8_xor_nat y v (by omega) hv
    have hz8 : y ^^^ v < 256:=Nat.xor_lt_two_pow (n:=8) (by omega) hv
    obtain ⟨z,hz⟩ : ∃ z,z = y ^^^ v:=⟨_,rfl⟩
    rw [<- hz] at hxo hz8
    have hI : (i : Int) < (k : Int):=by omega
    have HN2:=Lib.hid (And.intro hx1 (And.intro hx2 (And.intro hx3 hx4)))
    clear hx1 hx2 hx3 hx4 H hy hby hz hlt
    go_wp2_with fail
    go_roundw
    case rel=>
     refine ⟨i + 1,by omega,by go_num,Lib.hid ⟨xs.set i z,?_,by rw [List.length_set]; exact HN2.out.2.1,d1P HN2.out.2.2.1 i (by omega),HN2.out.2.2.2.setCell (p:=⟨g,i,none⟩) rfl _⟩⟩
     have:=Kd.R_putn HN2.out.1 (i : Int) (z : Int)
     rw [Int.toNat_natCast] at this
     exact this
    case measure=>simp [intOf]; omega
  · obtain rfl : i = k:=by omega
    have hI : ¬ (i : Int) < (i : Int):=by omega
    have hgp : ∀ j,(Value.slice A4 i c4).ownBlock = some j -> w3.heap.size <= j /\ j < w4.heap.size:=λ j hj=>by
     have:=((Kd.R_bound H4.out.1).1 j hj).2; exact ⟨this.1,this.2.1⟩
    have hst7:=H5.out.2.1.keep hx4 (λ j hj=>by have:=hgp j hj; have:=H3.out.2.2.1; omega)
    have ho37 : Only (λ j=>j = p \/ w3.heap.size <= j) w3 wr:=((Only.of_below (S:=λ j=>j = p \/ w3.heap.size <= j) H4.out.2).trans (H5.out.2.2.mono (λ j _ h=>.inl h))).trans (hx4.mono (λ j _ h=>.inr (hgp j h).1))
    have hb23 : Below w2.heap.size w2 wr:=H3.out.2.2.2.trans (ho37.below H3.out.2.2.2.size (λ j hj=>by have:=H3.out.2.1; have:=H3.out.2.2.2.size; omega))
    have hy5 : (Kd.int .u8).R 5 wr w4.heap.size (λ _=>True) (.slice A5 y1.length c5) y1:=a1B H5.out.1 hx4 (λ j hj h=>by have:=hgp j h; omega)
    have HE0 : Hid ((Kd.int .u8).R 5 (wr.alloc (.cells #[] 5)) wr.heap.size (λ _=>True) (.slice (some ⟨wr.heap.size,0,none⟩) 0 0) []):=a2j .u8 5 wr wr.heap.size (λ _=>True) trivial (Nat.le_refl _) [] (by decide)
    have HB0 : Hid (Below wr.heap.size wr (wr.alloc (.cells #[] 5))):=(Below.refl _ _).alloc (Nat.le_refl _) _
    have HRow0 : Hid ((Kd.int .u8).C (wr.alloc (.cells #[] 5)) A5 y1.length y1):=Kd.C_alloc (Kd.R_reads' hy5).2.2 _
    have HL1 : Hid (([] : List Int).length + y1.length <= 140737488355328):=Lib.hid (by simp; omega)
    have HW:=Lib.hid (And.intro hst7 (And.intro hb23 (show w4.heap.size <= wr.heap.size from Nat.le_trans H5.out.2.2.size hx4.size)))
    clear hx1 hx2 hx3 hx4 H hgp hst7 ho37 hb23 hy5 hlt
    go_wp2_with (at_builtin; first
     | (refine app8 rfl rfl rfl rfl HE0 HRow0 HB0 HB0.out.size HL1 ?_
        intro A6 c6 w6 hr6 hb6 _
        rw [List.nil_append] at hr6
        have e6 : ([] : List Int).length + y1.length = y1.length:=by simp
        rw [e6] at hr6 ⊢
        have H6:=Lib.hid (And.intro hr6 hb6)
        clear hr6 hb6 e6))
    have hb26:=a0k HW.out.2.1 H6.out.2
    have hF2:=a5v p w4.heap.size 60 x0 r0 f (k:=0) (y:=y2) (X:=y1) Ad (c2 - i) w6 (HW.out.1.below H6.out.2) (by decide) (by decide) (by rw [HP.out.2.2.2.2.2.2.1]; exact λ z hz=>HEb.out z (List.mem_of_mem_take hz)) (HF2.out.1.below hb26) (HF2.out.1.off H3.out.2.1) (by have h:=congrArg List.length HP.out.2.2.1; rw [List.length_append] at h; omega) HP.out.2.2.1 (by rw [HP.out.1]) (by rw [HP.out.2.1]; exact HPf.out)
    have HF2':=Lib.hid hF2
    clear hF2 hb26
    refine HF2'.out.mono ?_
    rintro e w7 ⟨A7,c7,rfl,hr7,hs7,ho7⟩
    obtain ⟨q7,-⟩:=hs7.cells (by decide)
    rw [HPf.out] at q7
    have hplr : p < wr.heap.size:=by have:=H3.out.2.2.1; have:=H4.out.2.size; have:=HW.out.2.2; omega
    have HO7:=Lib.hid (a1B H6.out.1 ho7 (λ j hj h=>by omega))
    have HC7:=Lib.hid (Kd.R_reads' hr7).2.2
    have HB7 : Hid (Below wr.heap.size w7 w7):=Lib.hid (Below.refl _ _)
    have HS7 : Hid (wr.heap.size <= w7.heap.size):=Lib.hid (Nat.le_trans H6.out.2.size ho7.size)
    have HZ : Hid (y1.length + y2.length <= 140737488355328):=Lib.hid (by omega)
    have H7:=Lib.hid (And.intro q7 (And.intro ho7 hplr))
    clear hr7 hs7 ho7 q7 hplr
    unfold errF
    go_wp2_with (at_builtin; first
     | (refine app8g rfl rfl rfl rfl HO7 HC7 HB7 HS7.out HZ ?_
        intro A8 c8 w8 hr8 hb8 _
        have H8:=Lib.hid (And.intro hr8 hb8)
        clear hr8 hb8))
    have h8:=H8.out.1
    rw [HYl.out,HP.out.2.1] at h8
    rw [HYl.out]
    have hfin : Below w.heap.size w w8:=by
     have hb6 : Below w.heap.size w w6:=a0k HB2.out (a0k HW.out.2.1 H6.out.2)
     have hb7 : Below w.heap.size w w7:=hb6.trans (H7.out.2.1.below hb6.size (λ j hj=>by have:=H3.out.2.1; have:=HB2.out.size; omega))
     exact hb7.trans (H8.out.2.mono (Nat.le_trans HB2.out.size HW.out.2.1.size))
    have HFin:=Lib.hid hfin
    have HSm:=Lib.hid (b0r A8 A c8 ca b w8 (Kd.R_reads' h8).2.2 (HX.out.below hfin).row HX.out.by')
    have HFi:=Lib.hid (a8j p 0 w8 ((H8.out.2.cell (p:=⟨p,7,none⟩) H7.out.2.2).trans H7.out.1))
    clear h8 hfin
    go_wp2_with fail
    refine HSm.out.mono ?_
    rintro e w9 ⟨rfl,rfl⟩
    go_wp2_with fail
    refine HFi.out.mono ?_
    rintro e w9 ⟨rfl,rfl⟩
    go_wp2_with fail
    go_ret
    exact ⟨rfl,HFin.out⟩
set_option maxRecDepth 100000 in
theorem d1R (A : Option Addr) (ca : Nat) (b : List Int) (at' v : Int) (w : World) (hr : (Kd.int .u8).C w A b.length b) (hc : b.length <= ca) (hby : Bytes b) (_ : b.length * 1 <= 140737488351232) (hnil : A = none -> ca = 0) (ha : (Lit.int .u16 at').wf = true) (hv : (Lit.int .u8 v).wf = true) :
    Calls Tryz.prog 17 #[.slice A b.length ca,.int .u16 at',.int .u8 v] w (Ret (.bool true) w):=by
 obtain ⟨k,rfl⟩ : ∃ k : Nat,at' = k:=⟨at'.toNat,by have:=a4A ha; omega⟩
 obtain ⟨g,rfl⟩ : ∃ k : Nat,v = k:=⟨v.toNat,by have:=u8_in hv; omega⟩
 have hk:=a4A ha
 have hg:=u8_in hv
 by_cases h1 : b.length <= 60
 · exact d1Q A ca b k g w ⟨hr,hc,hnil,hby⟩ h1 (by omega) (by omega)
 · have d1:=b8U h1
   clear h1 hr hc hby hnil ha hv hk hg
   go_enter Tryz.func17,Tryz.ntmps17
   go_wp2_with fail
   refine (a8l w).mono ?_
   rintro e w1 ⟨rfl,hb1⟩
   have HB1:=Lib.hid hb1
   clear hb1
   go_wp2_with fail
   go_ret
   exact ⟨rfl,HB1.out⟩
end Go.Proofs.YtflfjpkmjnnodaaGreat
