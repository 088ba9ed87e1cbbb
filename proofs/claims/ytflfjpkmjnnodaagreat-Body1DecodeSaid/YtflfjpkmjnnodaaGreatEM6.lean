/- The walks of the references Split, Decode (20). -/
import Derived.RegionTactic
import Derived.ChangeAlike
import Derived.BigRegion
import Derived.Test.YtflfjpkmjnnodaaGreatER1
import Derived.Test.YtflfjpkmjnnodaaGreatEM4
import Derived.Test.YtflfjpkmjnnodaaGreatEM2
import Derived.Test.YtflfjpkmjnnodaaGreatEM1
import Derived.Test.YtflfjpkmjnnodaaGreatEM5
import Derived.Test.YtflfjpkmjnnodaaGreatES1
import Derived.Test.YtflfjpkmjnnodaaGreatEM0
namespace Go.Proofs.YtflfjpkmjnnodaaGreat
open Go.RowKit Go.IntWalk Go.Proofs.YtflfjpkmjnnodaaGreatW.PrintWords Go.Proofs.YtflfjpkmjnnodaaGreat.PRef
structure R20Rel (w : World) (base p mb g v : Nat) (ps : List Int) (Al : Option Addr) (l : List Int) (T : Int × List (List Int) × Nat) (i : Nat) (qs : List (List Int)) (at_ : Nat) (W : World) : Prop where
 rd : R3P W base p ps at_
 km : W.heap[mb]? = some (.cells #[.int .i64 v,.bool false,.slice (some ⟨g,0,none⟩) 256 256] 26 (0,0))
 kz : W.heap[w.heap.size]? = some (.cells #[.int .i64 0,.bool false,.slice none 0 0] 26 (0,0))
 row : kq.R 84 W w.heap.size (λ k=>k ≠ p /\ k ≠ mb /\ k ≠ w.heap.size) (.slice (some ⟨g,0,none⟩) 256 256) qs
 lst : (Kd.int .i64).C W Al l.length l
 lb : 0 < l.length -> ∀ ad,Al = some ad -> ad.block ≠ p /\ ad.block ≠ g
 eq : hdrsT ps v (l.drop i) qs at_ = T
 at_le : at_ <= 8 * ps.length
 on : Below w.heap.size w W
 ne : w.heap.size < mb /\ mb ≠ g /\ w.heap.size < g /\ g < p /\ mb < p /\ p < W.heap.size
theorem b0X {w : World} {A : Option Addr} {l : List Int} (h : (Kd.int .i64).C w A l.length l) (hn : 0 < l.length) {ad : Addr} (ha : A = some ad) : ad.block < w.heap.size:=by
 obtain ⟨ad2,h2,hc⟩:=a0y h 0 hn
 rw [ha] at h2; injection h2 with h2; subst h2
 unfold World.cell? at hc
 rw [a1M] at hc
 cases hb : w.heap[ad.block]? with
 | none=>rw [hb] at hc; cases hc
 | some o=>exact (Array.getElem?_eq_some_iff.1 hb).1
theorem b7L {w w' : World} {A : Option Addr} {l : List Int} (h : (Kd.int .i64).C w A l.length l) (hb : 0 < l.length -> ∀ ad,A = some ad -> w'.heap[ad.block]? = w.heap[ad.block]?) : (Kd.int .i64).C w' A l.length l:=by
 refine ⟨h.1,h.2.1,λ hn=>?_⟩
 obtain ⟨ad,ha,hc⟩:=h.2.2 hn
 refine ⟨ad,ha,λ i x hi=>?_⟩
 obtain ⟨c,h1,h2,h3⟩:=hc i x hi
 refine ⟨c,h1,h2,λ j v hj=>?_⟩
 have h4:=h3 j v hj
 unfold World.cell? at h4 ⊢
 rw [a1M] at h4 ⊢
 rw [hb hn ad ha]; exact h4
theorem R3At.keep {w w' : World} {base p : Nat} {xs : List Bool} {at_ : Nat} {S : Nat -> Prop} (h : R3At w base p xs at_) (ho : Only S w w') (hp : ¬ S p) (hb : ∀ k,base <= k -> ¬ S k) : R3At w' base p xs at_:=by
 obtain ⟨A,c,h1,h2⟩:=h.ex
 exact ⟨A,c,(ho.block p (a0f h1) hp).trans h1,Kd.R_mono (Kd.R_step (Kd.R_bound h2) (λ k hk hlt=>ho.block k hlt (hb k hk.2.1))) (λ k hk=>hk.1)⟩
theorem R20Rel.later {w : World} {base p mb g v : Nat} {ps : List Int} {Al : Option Addr} {l : List Int} {T : Int × List (List Int) × Nat} {i : Nat} {qs : List (List Int)} {at_ : Nat} {W W' : World} (h : R20Rel w base p mb g v ps Al l T i qs at_ W) (hb : Below W.heap.size W W') : R20Rel w base p mb g v ps Al l T i qs at_ W':=
 ⟨h.rd.below hb,a0h h.km hb,a0h h.kz hb,Kd.R_below h.row hb,Kd.C_below h.lst hb,h.lb,h.eq,h.at_le,a0g h.on hb,by have:=h.ne; have:=hb.size; omega⟩
theorem R20Rel.put {w : World} {base p mb g v : Nat} {ps : List Int} {Al : Option Addr} {l : List Int} {T : Int × List (List Int) × Nat} {i cx : Nat} {qs : List (List Int)} {at_ at2 : Nat} {W W1 : World} {A7 : Option Addr} {c7 : Nat} {q : List Int} (h : R20Rel w base p mb g v ps Al l T i qs at_ W) (ho : Only (λ k=>k = p) W W1) (hrd : R3P W1 base p ps at2) (hq : (Kd.int .i64).R 3 W1 W.heap.size (λ _=>True) (.slice A7 256 c7) q) (hbs : g < base) (hcx : cx < 256) (hat : at2 <= 8 * ps.length) (heq : hdrsT ps v (l.drop (i + 1)) (qs.set cx q) at2 = T) :
    R20Rel w base p mb g v ps Al l T (i + 1) (qs.set cx q) at2 (W1.setCell ⟨g,cx,none⟩ (.slice A7 256 c7)):=by
 obtain ⟨n1,n2,n3,n4,n5,n6⟩:=h.ne
 have hO : Only (λ k=>k = g) W1 (W1.setCell ⟨g,cx,none⟩ (.slice A7 256 c7)):=(Only.refl (λ k=>k = g) W1).setCell (p:=⟨g,cx,none⟩) rfl _
 have km1 : W1.heap[mb]? = _:=(ho.block mb (a0f h.km) (by omega)).trans h.km
 have kz1 : W1.heap[w.heap.size]? = _:=(ho.block _ (a0f h.kz) (by omega)).trans h.kz
 have row1 : kq.R 84 W1 w.heap.size (λ k=>(k ≠ p /\ k ≠ mb /\ k ≠ w.heap.size) /\ k < W.heap.size) (.slice (some ⟨g,0,none⟩) 256 256) qs:=Kd.R_mono (Kd.R_step (Kd.R_bound h.row) (λ k hk hlt=>ho.block k hlt (by have:=hk.1; exact this.1))) (λ k hk=>⟨hk.1,hk.2.2.1⟩)
 have hg : g < W.heap.size:=by omega
 have hs:=ho.size
 refine ⟨R3At.keep hrd hO (by omega) (λ k hk h2=>by omega),a1r km1 (p:=⟨g,cx,none⟩) n2 _,a1r kz1 (p:=⟨g,cx,none⟩) (by show w.heap.size ≠ g; omega) _,?_,?_,h.lb,heq,hat,(h.on.trans (ho.below h.on.size (λ k hk=>by omega))).setCell (by show w.heap.size <= g; omega) _,by simp; omega⟩
 · have hq2 : (Kd.int .i64).R 3 W1 w.heap.size (λ k=>W.heap.size <= k) (.slice A7 256 c7) q:=Kd.R_lower (Kd.R_mono (Kd.R_bound hq) (λ k hk=>hk.2.1)) h.on.size
   exact a9D (okp:=λ k=>W.heap.size <= k) (Kd.R_mono row1 (λ k hk=>hk.1)) cx hcx hq2 (λ k hk=>⟨⟨by omega,by have:=a0f h.km; omega,by omega⟩,by omega⟩)
 · have h1 : (Kd.int .i64).C W1 Al l.length l:=b7L h.lst (λ hn ad ha=>ho.block _ (b0X h.lst hn ha) (h.lb hn ad ha).1)
   exact b7L h1 (λ hn ad ha=>hO.block _ (b0X h1 hn ha) (h.lb hn ad ha).2)
theorem c9M (ps : List Int) (r : Nat) (qs : List (List Int)) (at_ : Nat) : hdrsT ps r [] qs at_ = (0,qs,at_):=rfl
set_option maxRecDepth 100000 in
set_option maxHeartbeats 4000000 in
theorem b7M (A : Option Addr) (c : Nat) (ps : List Int) (w : World) (hr : (Kd.int .u8).C w A ps.length ps) (hps : Bytes ps) (hl : ps.length <= 100000) (hc : ps.length <= c) :
    Calls Tryz.prog 22 #[.slice A ps.length c] w (a3M ps w):=by
 obtain ⟨W,hW⟩ : ∃ W,W = w.alloc (.cells #[.int .i64 0,.bool false,.slice none 0 0] 26):=⟨_,rfl⟩
 have hb1 : Below w.heap.size w W:=by rw [hW]; exact (Below.refl _ _).alloc (Nat.le_refl _) _
 have hk1 : W.heap[w.heap.size]? = some (.cells #[.int .i64 0,.bool false,.slice none 0 0] 26 (0,0)):=by rw [hW]; exact a0i _ _
 have HB1:=Lib.hid hb1
 have HK1:=Lib.hid hk1
 have HR:=Lib.hid (And.intro (Kd.C_below hr hb1) (And.intro hps (And.intro hl hc)))
 by_cases h0 : ps.length = 0
 · have HE:=Lib.hid (show a0w ps = (3,0,[],[]) from by unfold a0w; rw [if_pos h0])
   obtain ⟨⟨ca,cb,cc⟩,fa,fb,fc⟩:=cell3 hk1
   have hz : ((ps.length : Int) == 0) = true:=by rw [h0]; rfl
   rw [h0]
   clear hr hps hl hc hk1 hz h0
   go_enter Tryz.func22,Tryz.ntmps22
   go_wp2_with fail
   rw [<- hW]
   clear hW
   refine bodyPost_ret (a1u (fn:=Tryz.f22) (p:=2) (u:=3) (v:=4) (ty:=26) rfl _ _ _ _ rfl (a1f HK1.out)) rfl ?_
   exact a2T HE.out (by decide) HB1.out
 · have hz : ((ps.length : Int) == 0) = false:=by simp; intro e; subst e; simp at h0
   obtain ⟨ad,hA,hx⟩:=a0y HR.out.1 0 (by omega)
   subst hA
   have hb0:=hps.get 0
   obtain ⟨v,hv⟩ : ∃ v : Nat,ps.getD 0 0 = v:=⟨(ps.getD 0 0).toNat,by omega⟩
   rw [hv] at hx hb0
   have hvN : v = (ps.getD 0 0).toNat:=by rw [hv]; rfl
   have e0 : ad.add 0 = ad:=by simp [Addr.add]
   have hx0 : W.cell? ad = some (.int .u8 v):=by rw [e0] at hx; exact hx
   have hxw:=hx0
   rw [hW] at hxw
   have hl0 : (0 : Int) < (ps.length : Int):=by omega
   have hvw : IntKind.i64.wrap (v : Int) = (v : Int):=i64_in _ (by omega)
   by_cases hlog : 5 <= v /\ v <= 9
   · have d1 : decide ((v : Int) < 5) = false:=decide_eq_false (by omega)
     have d2 : decide ((9 : Int) < (v : Int)) = false:=decide_eq_false (by omega)
     have hsl0:=a5W (some ad) ps.length c 1 (by omega)
     obtain ⟨A1,hA1⟩ : ∃ A1,A1 = (if c = 1 then some ad else (some ad).map (·.add (1 * 1))):=⟨_,rfl⟩
     rw [<- hA1] at hsl0
     have hsl : ∀ W : World,(Instr.slice 22 (.slice (some ad) ps.length c) (some (.int .i64 1)) none none).run Tryz.prog W = .ok (.slice A1 (ps.length - 1) (c - 1)) W:=hsl0
     have hC1 : (Kd.int .u8).C W A1 (ps.drop 1).length (ps.drop 1):=by
      have:=Kd.C_drop (c:=c) (m:=1) HR.out.1 (by omega) hc
      rw [hA1]; exact this
     have hl1 : (ps.drop 1).length = ps.length - 1:=List.length_drop
     have hDT:=c9r A1 (c - 1) (ps.drop 1) W hC1 (λ x hx=>hps x (List.mem_of_mem_drop hx)) (by omega)
     rw [hl1] at hDT
     unfold a2r at hDT
     obtain ⟨dt,hdt⟩ : ∃ dt,dt = dirT (ps.drop 1):=⟨_,rfl⟩
     rw [<- hdt] at hDT
     have HDT:=Lib.hid hDT
     have HV:=Lib.hid (And.intro hvN (And.intro hlog (And.intro hdt h0)))
     clear hr hps hl hc hb1 hk1 h0 hv hvN e0 hx hlog hA1 hC1 hl1 hDT hdt hx0 hsl0 hb0
     go_enter Tryz.func22,Tryz.ntmps22
     go_wp2_with fail
     rw [<- hW]
     clear hW hxw
     refine HDT.out.mono ?_
     rintro e w1 ⟨vl,rfl,hvl,hb⟩
     have hk2:=a0h HK1.out hb
     have HB2:=Lib.hid (a0g HB1.out hb)
     have HK2:=Lib.hid hk2
     obtain ⟨⟨ca,cb,cc⟩,fa,fb,fc⟩:=cell3 hk2
     by_cases hz : dt.1 = 0
     · have hlst : dt.2.length <= 256 /\ (∀ x ∈ dt.2,0 <= x /\ x < 256) /\ 33 <= ps.length:=by
         have e:=HV.out.2.2.1
         unfold dirT at e
         split at e
         · rw [e] at hz; cases hz
         · split at e
           · rw [e] at hz; cases hz
           · rename_i h32 _
             rw [List.length_drop] at h32
             rw [e]
             refine ⟨a7G _ 256,λ x hx=>?_,by omega⟩
             obtain ⟨c,rfl,h1,_⟩:=a7H hx
             omega
       obtain ⟨Al,cl,rfl⟩:=Kd.R_slice hvl
       have HL:=Lib.hid (And.intro hvl (And.intro hlst hb))
       have hmk : ∀ w : World,(Instr.makeSlice 24 (.int .i64 256) (.int .i64 256)).run Tryz.prog w = .ok (.slice (some ⟨w.heap.size,0,none⟩) 256 256) (w.alloc (.cells (madeCells #[.slice none 0 0] 256) 84)):=λ w=>a9B 256 (by omega) w
       have h33:=hlst.2.2
       have hsl3':=a5W (some ad) ps.length c 33 h33
       obtain ⟨A3,hA3⟩ : ∃ A3,A3 = (if c = 33 then some ad else (some ad).map (·.add (33 * 1))):=⟨_,rfl⟩
       rw [<- hA3] at hsl3'
       have hsl3 : ∀ W : World,(Instr.slice 22 (.slice (some ad) ps.length c) (some (.int .i64 33)) none none).run Tryz.prog W = .ok (.slice A3 (ps.length - 33) (c - 33)) W:=hsl3'
       obtain ⟨ps3,hps3⟩ : ∃ ps3,ps3 = ps.drop 33:=⟨_,rfl⟩
       have hl3 : ps3.length = ps.length - 33:=by rw [hps3]; exact List.length_drop
       have hb3 : Bytes ps3:=by rw [hps3]; exact λ x hx=>HR.out.2.1 x (List.mem_of_mem_drop hx)
       have hC3 : (Kd.int .u8).C W A3 ps3.length ps3:=by
        have:=Kd.C_drop (c:=c) (m:=33) HR.out.1 h33 HR.out.2.2.2
        rw [hA3,hps3]; exact this
       have h33I : (33 : Int) <= (ps.length : Int):=by omega
       have h33c : (33 : Int) <= (c : Int):=by have:=HR.out.2.2.2; omega
       obtain ⟨w2,hw2⟩ : ∃ w2,w2 = (w1.alloc (.cells (madeCells #[.slice none 0 0] 256) 84)).alloc (.cells #[.int .i64 v,.bool false,.slice (some ⟨w1.heap.size,0,none⟩) 256 256] 26):=⟨_,rfl⟩
       obtain ⟨mb,hmb⟩ : ∃ mb,mb = w1.heap.size + 1:=⟨_,rfl⟩
       obtain ⟨g,hg⟩ : ∃ g,g = w1.heap.size:=⟨_,rfl⟩
       have hb12 : Below w1.heap.size w1 w2:=by rw [hw2]; exact ((Below.refl w1.heap.size w1).alloc (Nat.le_refl _) _).alloc (by simp) _
       have hws:=a0f HK2.out
       have hkm2 : w2.heap[mb]? = some (.cells #[.int .i64 v,.bool false,.slice (some ⟨g,0,none⟩) 256 256] 26 (0,0)):=by rw [hw2,hmb,hg]; exact a2i _ _ _
       have hrow2 : kq.R 84 w2 w1.heap.size (λ k=>k ≠ mb) (.slice (some ⟨g,0,none⟩) 256 256) (List.replicate 256 []):=by
        rw [hw2,hg]
        exact Kd.R_alloc (a5G w1 mb w1.heap.size (by omega) (Nat.le_refl _)) _
       have hsz2 : w2.heap.size = mb + 1:=by rw [hw2,hmb]; simp
       have hNw:=b7x A3 (c - 33) ps3 w2 (Kd.C_below hC3 (a0g HL.out.2.2 hb12)) (by have:=HR.out.2.2.2; omega) hb3 (by have:=HR.out.2.2.1; omega)
       rw [hl3] at hNw
       have HNw:=Lib.hid hNw
       have HM:=Lib.hid (And.intro hb12 (And.intro hkm2 (And.intro hrow2 (And.intro hsz2 (And.intro hg (And.intro hmb hws))))))
       have HP3:=Lib.hid (And.intro hps3 (And.intro hl3 (And.intro hb3 hC3)))
       clear hvl hlst hb hk2 hsl3' hA3 hps3 hl3 hb3 hC3 hb12 hkm2 hrow2 hsz2 hws hNw h33
       rw [hz]
       go_wp2_with fail
       rw [<- hw2,<- hmb]
       clear hw2 hmb hg
       refine HNw.out.mono ?_
       rintro e w3 ⟨p,rfl,hp,hrd,hb23⟩
       have hT0 : ∃ T,T = hdrsT ps3 v dt.2 (List.replicate 256 []) 0:=⟨_,rfl⟩
       obtain ⟨T,hT⟩:=hT0
       have HSM:=Lib.hid (show a0w ps = if T.1 ≠ 0 then (T.1,0,[],[]) else if T.2.2 % 8 ≠ 0 /\ (ps3.getD (T.2.2 / 8) 0).toNat / 2 ^ (T.2.2 % 8) ≠ 0 then (4,0,[],[]) else (0,v,T.2.1,ps3.drop ((T.2.2 + 7) / 8)) from by
        have hlg:=HV.out.2.1
        unfold a0w
        rw [if_neg HV.out.2.2.2,<- HV.out.1,if_neg (by omega),<- HV.out.2.2.1,if_neg (λ h=>h hz),<- HP3.out.1]
        have e : a2j = List.replicate 256 []:=rfl
        rw [e,<- hT])
       skip
       obtain ⟨_,_,hpb,_⟩:=hrd.ex
       have hpl:=a0f hpb
       have hgx:=HM.out
       have hst : R20Rel w w2.heap.size p mb g v ps3 Al dt.2 T 0 (List.replicate 256 []) 0 w3:=by
        obtain ⟨b12,km2,row2,sz2,hg,hmb,hws⟩:=hgx
        have hb13 : Below w1.heap.size w1 w3:=a0g b12 hb23
        refine ⟨(by unfold R3P; rw [HP3.out.2.1]; exact hrd),a0h km2 hb23,a0h HK2.out hb13,?_,Kd.C_below (Kd.R_reads' HL.out.1).2.2 hb13,λ hn ad ha=>?_,by rw [List.drop_zero]; exact hT.symm,Nat.zero_le _,a0g HB2.out hb13,by omega⟩
        · exact Kd.R_lower (Kd.R_below (Kd.R_mono (Kd.R_bound row2) (λ k hk=>⟨by have:=hk.2.2.1; omega,hk.1,by have:=hk.2.1; omega⟩)) hb23) (by omega)
        · have:=((Kd.R_bound HL.out.1).1 ad.block (by rw [ha]; rfl)).2.2.1
          omega
       have HSt:=Lib.hid hst
       have hgb : g < w2.heap.size:=by have:=HM.out; omega
       have HGB:=Lib.hid hgb
       clear hrd hb23 hT hpb hpl hgx hst hp hgb ca cb cc fa fb fc
       go_wp2_with fail
       go_loopw [10,11,12] (λ iv _ _ wr=>∃ i : Nat,i <= dt.2.length /\ iv = .int .i64 i /\ Hid (∃ qs at_,R20Rel w w2.heap.size p mb g v ps3 Al dt.2 T i qs at_ wr)) (λ iv _ _ _=>dt.2.length - (intOf iv).toNat)
       case atStart=>exact ⟨0,by omega,rfl,Lib.hid ⟨_,_,HSt.out⟩⟩
       case round=>
        obtain ⟨i,hi,rfl,HH⟩:=hrel
        obtain ⟨qs,at_,hR⟩:=HH.out
        have HRl:=Lib.hid hR
        have hlg:=HV.out.2.1
        have hpsl : ps3.length <= 100000:=by have:=HP3.out.2.1; have:=HR.out.2.2.1; omega
        by_cases hlt : i < dt.2.length
        · obtain ⟨adl,hAl,hcl⟩:=a0y hR.lst i hlt
          subst hAl
          have hcm:=HL.out.2.1.2.1 _ (a1F hlt)
          obtain ⟨cx,hcx⟩ : ∃ cx : Nat,dt.2.getD i 0 = cx:=⟨(dt.2.getD i 0).toNat,by omega⟩
          have heq:=b6R ps3 v dt.2 hlt qs at_
          rw [hR.eq,hcx,Int.toNat_natCast] at heq
          rw [hcx] at hcl hcm
          have hTk:=b7E w2.heap.size p ps3 at_ v wr hR.rd (by omega) hR.at_le (by omega) (by omega) hR.ne.2.2.2.2.2
          have hHe : (hdrT ps3 (8 * ps3.length) 257 zeros256 0 (2 ^ v) false at_).1 = 0 -> (hdrT ps3 (8 * ps3.length) 257 zeros256 0 (2 ^ v) false at_).2.2 <= 8 * ps3.length:=λ h=>a4T _ _ _ _ _ _ hR.at_le h
          obtain ⟨H,hH⟩ : ∃ H,H = hdrT ps3 (8 * ps3.length) 257 zeros256 0 (2 ^ v) false at_:=⟨_,rfl⟩
          rw [<- hH] at hTk heq hHe
          have HTk:=Lib.hid hTk
          have HEq:=Lib.hid (And.intro heq hHe)
          have hI : (i : Int) < (dt.2.length : Int):=by omega
          have hd256:=HL.out.2.1.1
          have hc256 : (cx : Int) < 256:=hcm.2
          clear hR hcx heq hTk hHe hH
          go_wp2_with fail
          refine HTk.out.mono ?_
          rintro e w4 ⟨t1,t2,t3⟩
          by_cases hz4 : H.1 = 0
          · obtain ⟨A7,c7,rfl,hq,hql,hrd4⟩:=t1 hz4
            have hput:=HRl.out.put (cx:=cx) t3 hrd4 hq HGB.out (by omega) (HEq.out.2 hz4) (by have h:=HEq.out.1; rw [if_neg (λ h=>h hz4)] at h; exact h.symm)
            have HPut:=Lib.hid hput
            have row4 : kq.R 84 w4 w.heap.size (λ k=>k ≠ p) (.slice (some ⟨g,0,none⟩) 256 256) qs:=Kd.R_mono (Kd.R_step (Kd.R_bound HRl.out.row) (λ k hk hlt=>t3.block k hlt hk.1.1)) (λ k hk=>hk.1.1)
            obtain ⟨⟨u,hu⟩,hfu⟩:=a9F row4 cx (by omega)
            have km4 : w4.heap[mb]? = _:=(t3.block mb (a0f HRl.out.km) (by have:=HRl.out.ne; omega)).trans HRl.out.km
            obtain ⟨⟨d0,d1,d2⟩,-⟩:=cell3 km4
            have hcl4 : w4.cell? (adl.add i) = some (.int .i64 cx):=by
             have hbl:=b0X HRl.out.lst (by omega) rfl
             have hne:=(HRl.out.lb (by omega) adl rfl).1
             unfold World.cell? at hcl ⊢
             rw [a1M] at hcl ⊢
             rw [t3.block adl.block hbl hne]; exact hcl
            clear t1 t2 t3 hq hql hrd4 hput row4 km4 hcl
            go_wp2_with fail
            go_region
            all_goals
             go_wp2_with fail
             go_roundw
             case rel=>exact ⟨i + 1,by omega,by go_num,Lib.hid ⟨_,_,HPut.out.later (by first | exact Below.refl _ _ | exact (Below.refl _ _).drew | exact (Below.refl _ _).drew.drew)⟩⟩
             case measure=>simp [intOf]; omega
          · have he:=t2 hz4
            subst he
            have HE : Hid (a0w ps = (H.1,0,[],[])):=Lib.hid (by
             have h1:=HEq.out.1
             rw [if_pos hz4] at h1
             have h2:=HSM.out
             rw [h1] at h2
             rw [h2,if_pos hz4])
            have hk4 : w4.heap[w.heap.size]? = _:=(t3.block _ (a0f HRl.out.kz) (by have:=HRl.out.ne; omega)).trans HRl.out.kz
            have HK4:=Lib.hid hk4
            have HB4 : Hid (Below w.heap.size w w4):=Lib.hid (HRl.out.on.trans (t3.below HRl.out.on.size (λ k hk=>by have:=HRl.out.ne; omega)))
            obtain ⟨⟨ca,cb,cc⟩,fa,fb,fc⟩:=cell3 hk4
            have hzn : (H.1 != 0) = true:=by simpa using hz4
            clear t1 t2 t3 hk4
            go_wp2_with fail
            refine bodyPost_ret (a1u (fn:=Tryz.f22) (p:=2) (u:=3) (v:=4) (ty:=26) rfl _ _ _ _ rfl (a1f (a1t HK4.out _ _ _))) rfl ?_
            exact a2T HE.out hz4 (((HB4.out.setCell (Nat.le_refl _) _).setCell (Nat.le_refl _) _).setCell (Nat.le_refl _) _)
        · obtain rfl : i = dt.2.length:=by omega
          have hI : ¬ (dt.2.length : Int) < (dt.2.length : Int):=by omega
          have hTT : T = (0,qs,at_):=by
           have h:=hR.eq
           rw [List.drop_of_length_le (Nat.le_refl _),c9M] at h
           exact h.symm
          have hPd:=b7A w2.heap.size p _ at_ ps3.length wr hR.rd (a1z _ _) (by rw [a1z]; omega) (by rw [a1z]; exact hR.at_le)
          have HPd:=Lib.hid hPd
          have HPI:=Lib.hid (b7z ps3 HP3.out.2.2.1 hR.at_le)
          have HTT:=Lib.hid (show a0w ps = if at_ % 8 ≠ 0 /\ (ps3.getD (at_ / 8) 0).toNat / 2 ^ (at_ % 8) ≠ 0 then (4,0,[],[]) else (0,v,qs,ps3.drop ((at_ + 7) / 8)) by
           have h:=HSM.out
           rw [hTT] at h
           rw [h,if_neg (λ h=>h rfl)])
          clear hR hPd hTT hlt
          go_wp2_with fail
          refine HPd.out.mono ?_
          rintro e w4 ⟨p1,p2,p3⟩
          have hk5 : w4.heap[w.heap.size]? = _:=(p3.block _ (a0f HRl.out.kz) (by have:=HRl.out.ne; omega)).trans HRl.out.kz
          have km5 : w4.heap[mb]? = _:=(p3.block _ (a0f HRl.out.km) (by have:=HRl.out.ne; omega)).trans HRl.out.km
          have HK5:=Lib.hid hk5
          have HB5 : Hid (Below w.heap.size w w4):=Lib.hid (HRl.out.on.trans (p3.below HRl.out.on.size (λ k hk=>by have:=HRl.out.ne; omega)))
          by_cases hpd : PadP (a0I ps3 (8 * ps3.length)) at_
          · obtain ⟨rfl,hrd⟩:=p1 hpd
            have HE : Hid (a0w ps = (0,v,qs,ps3.drop ((at_ + 7) / 8))):=Lib.hid (by
             have h:=HPI.out.1 hpd
             unfold padOk at h
             rw [HTT.out,if_neg (of_decide_eq_true h)])
            obtain ⟨m,hm⟩ : ∃ m,m = (at_ + 7) / 8:=⟨_,rfl⟩
            have hmx : m <= ps3.length:=by have:=HRl.out.at_le; omega
            rw [<- hm] at hrd HE
            obtain ⟨Ar,cr,hpb,-⟩:=hrd.ex
            have hcp : w4.cell? ⟨p,0,none⟩ = some (.slice Ar (a0I ps3 (8 * ps3.length)).length cr):=(a0a hpb 0).trans rfl
            obtain ⟨⟨ca,cb,cc⟩,fa,fb,fc⟩:=cell3 hk5
            obtain ⟨⟨b0,b1,b2⟩,-⟩:=cell3 km5
            have HRs : Hid (∀ W' : World,Below w4.heap.size w4 W' -> Calls Tryz.prog 75 #[.pointer (some ⟨p,0,none⟩)] W' (MadeU (ps3.drop m) W')):=Lib.hid λ W' hW'=>by
             have h:=b7B w2.heap.size p _ m ps3.length W' (hrd.below hW') (a1z _ _) (by rw [a1z]; omega) hmx
             rw [b7v ps3 hmx,b7u (ps3.drop m) (λ z hz=>HP3.out.2.2.1 z (List.mem_of_mem_drop hz))] at h
             exact h
            have row5 : kq.R 84 w4 w.heap.size (λ k=>k ≠ w.heap.size) (.slice (some ⟨g,0,none⟩) 256 256) qs:=Kd.R_mono (Kd.R_step (Kd.R_bound HRl.out.row) (λ k hk hlt=>p3.block k hlt hk.1.1)) (λ k hk=>hk.1.2.2)
            have HRow:=Lib.hid row5
            have s0 : SR w4 mb p w.heap.size (.int .i64 v) (.bool false) (.slice (some ⟨g,0,none⟩) 256 256) (.slice Ar (a0I ps3 (8 * ps3.length)).length cr) w4:=⟨Below.refl _ _,b0,b1,b2,hcp,ca,cb,cc,fa,fb,fc⟩
            clear p1 p2 p3 hk5 km5 hpd hrd hm hmx hpb hcp row5
            go_wp2_with fail
            go_region_law (go_simp; go_at_call 75; refine (HRs.out _ (by first | exact And.left ‹SR _ _ _ _ _ _ _ _ _› | exact (SR.drew ‹SR _ _ _ _ _ _ _ _ _›).1)).mono ?_; rintro e w6 ⟨vp,rfl,hvp,hb⟩; have s1:=(by first | exact SR.keep ‹_› hb | exact SR.keep (SR.drew ‹_›) hb : SR w4 mb p w.heap.size (.int .i64 v) (.bool false) (.slice (some ⟨g,0,none⟩) 256 256) (.slice Ar (a0I ps3 (8 * ps3.length)).length cr) w6); obtain ⟨g0,g1,g2,g3,g4,g5,g6,g7,g8,g9,g10⟩:=id s1)
            all_goals
             have HV6:=Lib.hid (And.intro hvp s1)
             clear hvp hb
             go_wp2_with fail
             refine bodyPost_ret (a1u (fn:=Tryz.f22) (p:=2) (u:=3) (v:=4) (ty:=26) rfl _ _ _ _ rfl (a1f (a1t (a0h HK5.out HV6.out.2.1) _ _ _))) rfl ?_
             have hlt5 : w.heap.size < w4.heap.size:=a0f HK5.out
             have hB6 : Below w.heap.size w w6:=a0g HB5.out HV6.out.2.1
             refine ⟨(λ _=>?_),(λ h=>by rw [HE.out] at h; exact absurd rfl h),((hB6.setCell (Nat.le_refl _) _).setCell (Nat.le_refl _) _).setCell (Nat.le_refl _) _⟩
             rw [HE.out]
             refine ⟨_,_,rfl,?_,?_⟩
             · have h5 : kq.R 84 w6 w.heap.size (λ k=>k ≠ w.heap.size) (.slice (some ⟨g,0,none⟩) 256 256) qs:=Kd.R_below HRow.out HV6.out.2.1
               exact Kd.R_mono (a2c h5 _ _ _) (λ _ _=>trivial)
             · have h4 : (Kd.int .u8).R 5 w6 w.heap.size (λ k=>k ≠ w.heap.size) vp (ps3.drop m):=Kd.R_mono (Kd.R_lower (Kd.R_bound HV6.out.1) (Nat.le_of_lt hlt5)) (λ k hk=>Nat.ne_of_gt (Nat.lt_of_lt_of_le hlt5 hk.2.1))
               exact Kd.R_mono (a2c h4 _ _ _) (λ _ _=>trivial)
          · obtain rfl:=p2 hpd
            have HE : Hid (a0w ps = (4,0,[],[])):=Lib.hid (by
             have h : padOk ps3 at_ = false:=by
              cases hx : padOk ps3 at_ with
              | true=>exact absurd (HPI.out.2 hx) hpd
              | false=>rfl
             unfold padOk at h
             rw [HTT.out,if_pos (Classical.not_not.1 (of_decide_eq_false h))])
            obtain ⟨⟨ca,cb,cc⟩,fa,fb,fc⟩:=cell3 hk5
            clear p1 p2 p3 hk5 km5 hpd
            go_wp2_with fail
            refine bodyPost_ret (a1u (fn:=Tryz.f22) (p:=2) (u:=3) (v:=4) (ty:=26) rfl _ _ _ _ rfl (a1f (a1t HK5.out _ _ _))) rfl ?_
            exact a2T HE.out (by decide) (((HB5.out.setCell (Nat.le_refl _) _).setCell (Nat.le_refl _) _).setCell (Nat.le_refl _) _)
     · have HE:=Lib.hid (show a0w ps = (dt.1,0,[],[]) from by
         have hlg:=HV.out.2.1
         unfold a0w
         rw [if_neg HV.out.2.2.2,<- HV.out.1,if_neg (by omega),<- HV.out.2.2.1,if_pos hz])
       have hz2 : (dt.1 != 0) = true:=by simpa using hz
       obtain ⟨Al,cl,rfl⟩:=Kd.R_slice hvl
       clear hvl hb hk2
       go_wp2_with fail
       refine bodyPost_ret (a1u (fn:=Tryz.f22) (p:=2) (u:=3) (v:=4) (ty:=26) rfl _ _ _ _ rfl (a1f (a1t HK2.out _ _ _))) rfl ?_
       exact a2T HE.out hz (((HB2.out.setCell (Nat.le_refl _) _).setCell (Nat.le_refl _) _).setCell (Nat.le_refl _) _)
   · have HE:=Lib.hid (show a0w ps = (13,0,[],[]) from by unfold a0w; rw [if_neg h0,<- hvN,if_pos (by omega)])
     obtain ⟨⟨ca,cb,cc⟩,fa,fb,fc⟩:=cell3 hk1
     have hd : (decide ((v : Int) < 5) = true) \/ (decide ((v : Int) < 5) = false /\ decide ((9 : Int) < (v : Int)) = true):=by
      by_cases h5 : v < 5
      · exact .inl (decide_eq_true (by omega))
      · exact .inr ⟨decide_eq_false (by omega),decide_eq_true (by omega)⟩
     clear hx0 hr hps hl hc hk1 h0 hx e0 hv hvN hb0 hb1 hlog
     rcases hd with hd | ⟨hd,hd2⟩
     all_goals
      go_enter Tryz.func22,Tryz.ntmps22
      go_wp2_with fail
      rw [<- hW]
      clear hW
      refine bodyPost_ret (a1u (fn:=Tryz.f22) (p:=2) (u:=3) (v:=4) (ty:=26) rfl _ _ _ _ rfl (a1f HK1.out)) rfl ?_
      exact a2T HE.out (by decide) HB1.out
theorem b7N (A : Option Addr) (c : Nat) (ps : List Int) {r : Nat} {qs : List (List Int)} {p : List Int} (w : World) (hr : (Kd.int .u8).C w A ps.length ps) (hps : Bytes ps) (hl : ps.length <= 100000) (hc : ps.length <= c) (h : a0w ps = (0,r,qs,p)) :
    Calls Tryz.prog 22 #[.slice A ps.length c] w (b0Q r qs p w):=by
 refine (b7M A c ps w hr hps hl hc).mono ?_
 intro e w' hp
 unfold a3M at hp
 rw [h] at hp
 obtain ⟨vm,vp,rfl,hm,hv⟩:=hp.1 rfl
 obtain ⟨Am,cm,rfl⟩:=Kd.R_slice hm
 obtain ⟨Ap,cp,rfl⟩:=Kd.R_slice hv
 exact ⟨Am,cm,Ap,cp,rfl,hm,hv,hp.2.2⟩
theorem b7O (A : Option Addr) (c : Nat) (ps : List Int) {k : Int} (w : World) (hr : (Kd.int .u8).C w A ps.length ps) (hps : Bytes ps) (hl : ps.length <= 100000) (hc : ps.length <= c) (h : (a0w ps).1 = k) (hk : k ≠ 0) :
    Calls Tryz.prog 22 #[.slice A ps.length c] w (λ e w'=>e = .returned (.tuple #[.agg #[.int .i64 0,.bool false,.slice none 0 0],.slice none 0 0,.int .i64 k]) /\ Below w.heap.size w w'):=by
 refine (b7M A c ps w hr hps hl hc).mono ?_
 intro e w' hp
 unfold a3M at hp
 rw [h] at hp
 exact ⟨hp.2.1 hk,hp.2.2⟩
set_option maxRecDepth 100000 in
set_option maxHeartbeats 1000000 in
theorem c9N (A : Option Addr) (c : Nat) (ps : List Int) (n : Int) (w : World) (hr : (Kd.int .u8).C w A ps.length ps) (hps : Bytes ps) (hl : ps.length <= 100000) (hc : ps.length <= c) (hn : n <= 100000 \/ 131072 < n) :
    Calls Tryz.prog 24 #[.slice A ps.length c,.int .i64 n] w (ReadPost (dec1M ps n) w):=by
 obtain ⟨k,r,q,p,hS⟩ : ∃ k r q p,a0w ps = (k,r,q,p):=⟨_,_,_,_,rfl⟩
 have hpb:=a5P hps
 have hpl:=(a5Q ps).1
 have hql:=(a5Q ps).2
 rw [hS] at hpb hpl hql
 by_cases hk : k = 0
 · subst hk
   have HD : Hid (dec1M ps n = decM (r : Nat) false q p n):=by show _ = _; unfold dec1M; rw [hS,if_neg (λ h=>h rfl)]
   have HS:=Lib.hid (b7N A c ps w hr hps hl hc hS)
   have HP:=Lib.hid (And.intro hpb (And.intro (Nat.le_trans hpl hl) (show q.length <= 256 from hql)))
   rw [HD.out]
   clear hr hps hl hc hS hpb hpl hql
   go_enter Tryz.func24,Tryz.ntmps24
   go_wp2_with fail
   refine HS.out.mono ?_
   rintro e w1 ⟨Am,cm,Ap,cp,rfl,hm,hv,hb1⟩
   obtain ⟨w2,hw2⟩ : ∃ w2,w2 = w1.alloc (.cells #[.int .i64 r,.bool false,.slice Am q.length cm] 26):=⟨_,rfl⟩
   have hb2 : Below w1.heap.size w1 w2:=by rw [hw2]; exact (Below.refl _ _).alloc (Nat.le_refl _) _
   have HB2:=Lib.hid (hb1.trans (hb2.mono hb1.size))
   have HM:=Lib.hid (And.intro (Kd.C_below (Kd.R_reads' hm).2.2 hb2) (Kd.R_reads' hm).2.1)
   have HV:=Lib.hid (And.intro (Kd.C_below (Kd.R_reads' hv).2.2 hb2) (Kd.R_reads' hv).2.1)
   clear hm hv hb1 hb2
   go_wp2_with fail
   rw [<- hw2]
   clear hw2
   refine (b7H r false Am cm q Ap cp p n w2 HM.out.1 HM.out.2 (by have:=HP.out.2.2; omega) HV.out.1 HV.out.2 HP.out.1 HP.out.2.1 hn).mono ?_
   rintro e w3 ⟨⟨v,rfl,hv⟩,hb3⟩
   have H3:=Lib.hid (And.intro hv hb3)
   clear hv hb3
   go_wp2_with fail
   go_ret2
   exact ⟨⟨v,rfl,Kd.R_lower H3.out.1 HB2.out.size⟩,HB2.out.trans (H3.out.2.mono HB2.out.size)⟩
 · have HD : Hid (dec1M ps n = (k,[])):=by show _ = _; unfold dec1M; rw [hS,if_pos hk]
   have HS:=Lib.hid (b7O A c ps w hr hps hl hc (by rw [hS]) hk)
   have hkb : (k == 0) = false:=beq_eq_false_iff_ne.2 hk
   have hkn : (k != 0) = true:=by simp [hk]
   rw [HD.out]
   clear hr hps hl hc hS hpb hpl hql
   go_enter Tryz.func24,Tryz.ntmps24
   go_wp2_with fail
   refine HS.out.mono ?_
   rintro e w1 ⟨rfl,hb1⟩
   have HB1:=Lib.hid hb1
   clear hb1
   go_wp2_with fail
   go_ret2
   exact ⟨⟨_,rfl,Kd.R_nil _ _ _ _ _⟩,HB1.out.alloc HB1.out.size _⟩
end Go.Proofs.YtflfjpkmjnnodaaGreat
namespace Go.Proofs.YtflfjpkmjnnodaaGreat
open Go.RowKit
def aw1X : List Int:=[5,1] ++ List.replicate 31 0 ++ [192,3,2,0,4]
set_option maxRecDepth 100000 in
theorem b0Y : a1w [7] = aw1X:=by decide +kernel
theorem c9O : dec1M aw1X 1 = (0,[7]):=by
 rw [<- b0Y]
 exact b6m (b:=[7]) (by intro x hx; simp at hx; omega) (by decide) (by decide)
open Go.IntWalk Go.Proofs.YtflfjpkmjnnodaaGreatW.PrintWords
theorem b7one : Bytes [7]:=by intro x hx; simp at hx; omega
theorem baw1X : Bytes aw1X:=by rw [<- b0Y]; exact b6n _
set_option maxRecDepth 100000 in
set_option maxHeartbeats 2000000 in
theorem b7P (w : World) : Calls Tryz.prog 20 #[] w (Ret (.bool true) w):=by
 obtain ⟨w1,hw1⟩ : ∃ w1,w1 = w.alloc (.cells #[.int .u8 7] 5):=⟨_,rfl⟩
 have HB1 : Hid (Below w.heap.size w w1):=by show Below _ _ _; rw [hw1]; exact (Below.refl _ _).alloc (Nat.le_refl _) _
 have HS1 : Hid (BSl w1 (some ⟨w.heap.size,0,none⟩) 1 [7]):=by show BSl _ _ _ _; rw [hw1]; exact a7P [7] b7one (by decide)
 go_enter Tryz.func20,Tryz.ntmps20
 go_wp2_with fail
 rw [<- hw1]
 clear hw1
 have h2:=b6z (some ⟨w.heap.size,0,none⟩) 1 [7] w1 HS1.out.row b7one (by decide) (by decide)
 rw [b0Y] at h2
 refine h2.mono ?_
 clear h2
 intro e w2 h2
 obtain ⟨A2,c2,rfl,hs2,hb2⟩:=h2.out baw1X
 obtain ⟨X,hX⟩ : ∃ X,X = aw1X:=⟨_,rfl⟩
 have HXl : Hid (X.length = 38):=by show _ = _; rw [hX]; rfl
 have HDc : Hid (dec1M X 1 = (0,[7])):=by show _ = _; rw [hX]; exact c9O
 have HXX:=Lib.hid hX
 rw [<- hX] at hs2 ⊢
 have HB2:=Lib.hid (a0g HB1.out hb2)
 have HS2:=Lib.hid hs2
 clear h2 hs2 hb2 hX
 go_wp2_with fail
 have h3:=b0R A2 c2 X 1 w2 HS2.out.row HS2.out.by' (by have:=HXl.out; omega) HS2.out.cap
 rw [HDc.out] at h3
 refine h3.mono ?_
 intro e w3 h3
 obtain ⟨A3,c3,rfl,hs3,hb3⟩:=h3.told.out b7one
 have HB3:=Lib.hid (a0g HB2.out hb3)
 have HS3:=Lib.hid hs3
 have HS23:=Lib.hid (HS2.out.below hb3)
 clear h3 hs3 hb3
 have hb34 : Below w3.heap.size w3 (w3.alloc (.cells #[.int .u8 5,.int .u8 1] 5)):=(Below.refl _ _).alloc (Nat.le_refl _) _
 have HO4 : Hid ((Kd.int .u8).R 5 (w3.alloc (.cells #[.int .u8 5,.int .u8 1] 5)) w3.heap.size (λ _=>True) (.slice (some ⟨w3.heap.size,0,none⟩) 2 2) [5,1]):=Lib.hid (a3n .u8 5 w3 w3.heap.size (λ _=>True) trivial (Nat.le_refl _) [5,1] (by simp))
 have HB34:=Lib.hid hb34
 have HS34:=Lib.hid hb34.size
 clear hb34
 have HZ : Hid ((([5,1] : List Int) ++ List.replicate (31 : Int).toNat (0 : Int)).length = 33):=Lib.hid rfl
 have HX38 : Hid ((([5,1] : List Int) ++ List.replicate (31 : Int).toNat (0 : Int)) ++ [192,3,2,0,4] = X):=Lib.hid (by rw [HXX.out]; rfl)
 go_wp2_with (at_builtin; first
  | (refine Kd.R_append_zeros (Kd.int .u8) (w0:=w3) (W:=w3.alloc (.cells #[.int .u8 5,.int .u8 1] 5)) w3.heap.size rfl (.tmp 16) (.const (.int .i64 31)) 22 3 5 (.int .u8 0) 1 rfl Tryz.underlying22 (k:=.i64) Tryz.underlying3 a0H rfl (by decide) (by decide) (.slice (some ⟨w3.heap.size,0,none⟩) 2 2) [5,1] (0 : Int) (kx:=.i64) 31 (λ _=>True) rfl rfl rfl (λ _ _=>trivial) HO4.out (by decide) HB34.out HS34.out (by decide) ?_
     intro v5 w5 hr5 hb5 hg5 hat5
     obtain ⟨A5,c5,rfl⟩:=Kd.R_slice hr5
     obtain ⟨z33,hz33⟩ : ∃ z,z = ([5,1] : List Int) ++ List.replicate (31 : Int).toNat (0 : Int):=⟨_,rfl⟩
     rw [<- hz33] at hr5 HZ HX38 ⊢
     rw [HZ.out] at hr5 ⊢
     have hb6 : Below w3.heap.size w3 (w5.alloc (.cells #[.int .u8 192,.int .u8 3,.int .u8 2,.int .u8 0,.int .u8 4] 5)):=hb5.alloc hb5.size _
     have HB6:=Lib.hid hb6
     have HS6:=Lib.hid hb6.size
     have HO6 : Hid ((Kd.int .u8).R 5 (w5.alloc (.cells #[.int .u8 192,.int .u8 3,.int .u8 2,.int .u8 0,.int .u8 4] 5)) w3.heap.size (λ _=>True) (.slice A5 33 c5) z33):=Lib.hid (Kd.R_alloc hr5 _)
     have HD6 : Hid ((Kd.int .u8).C (w5.alloc (.cells #[.int .u8 192,.int .u8 3,.int .u8 2,.int .u8 0,.int .u8 4] 5)) (some ⟨w5.heap.size,0,none⟩) 5 [192,3,2,0,4]):=Lib.hid (a7P (w:=w5) [192,3,2,0,4] (by intro x hx; simp at hx; omega) (by decide)).row
     have HL6 : Hid ((z33.length + 5) * 1 <= 140737488355328):=Lib.hid (by rw [HZ.out]; decide)
     clear hb5 hg5 hat5 hz33 hb6 hr5)
  | (refine Kd.R_append_rows (Kd.int .u8) (Rr:=(Kd.int .u8).K (w5.alloc (.cells #[.int .u8 192,.int .u8 3,.int .u8 2,.int .u8 0,.int .u8 4] 5))) (w0:=w3) (W:=w5.alloc (.cells #[.int .u8 192,.int .u8 3,.int .u8 2,.int .u8 0,.int .u8 4] 5)) w3.heap.size rfl (.tmp 18) (.tmp 19) 22 5 (.int .u8 0) 1 rfl Tryz.underlying22 a0H rfl (by decide) (by decide) (.slice A5 33 c5) z33 [192,3,2,0,4] (some ⟨w5.heap.size,0,none⟩) 5 5 (λ _=>True) (λ _=>False) rfl rfl HO6.out HD6.out (λ _ _ h=>h) (λ _ h=>h.elim) (λ _ _=>trivial) HB6.out HS6.out HL6.out ?_
     intro v7 w7 hr7 hb7 hg7 hat7
     rw [HX38.out] at hr7
     obtain ⟨A7,c7,rfl⟩:=Kd.R_slice hr7
     have HA7:=Lib.hid (And.intro hr7 hb7)
     clear hr7 hb7 hg7 hat7))
 have HS7:=Lib.hid (BSl.of HA7.out.1 HS2.out.by')
 have HS27:=Lib.hid (HS23.out.below HA7.out.2)
 have HB7:=Lib.hid (a0g HB3.out HA7.out.2)
 have HSm:=a9G A2 A7 c2 c7 X w7 HS27.out.row HS7.out.row HS2.out.by'
 refine HSm.mono ?_
 rintro e w8 ⟨rfl,rfl⟩
 have v3 : (convert 22 9 (.slice A3 1 c3)).run Tryz.prog w7 = .ok (.string ⟨#[7]⟩) w7:=(HS3.out.below HA7.out.2).str
 clear HSm
 go_wp2_with fail
 go_ret
 exact ⟨rfl,HB7.out⟩
def SplitOut (lg : Int) (one : Bool) (qs : List (List Int)) (p : List Int) (k : Int) (w : World) (e : Ending) (w' : World) : Prop:=
 ∃ Am cm Ap cp,e = .returned (.tuple #[.agg #[.int .i64 lg,.bool one,.slice Am qs.length cm],.slice Ap p.length cp,.int .i64 k]) /\ kq.R 84 w' w.heap.size (λ _=>True) (.slice Am qs.length cm) qs /\ (Kd.int .u8).R 5 w' w.heap.size (λ _=>True) (.slice Ap p.length cp) p /\ Below w.heap.size w w'
theorem SplitOut.none_ {k : Int} {w w' : World} {e : Ending} (h : e = .returned (.tuple #[.agg #[.int .i64 0,.bool false,.slice none 0 0],.slice none 0 0,.int .i64 k])) (hb : Below w.heap.size w w') : SplitOut 0 false [] [] k w e w':=
 ⟨none,0,none,0,h,Kd.R_nil _ _ _ _ _,Kd.R_nil _ _ _ _ _,hb⟩
theorem b0Z (ps : List Int) (T : Nat) : ∀ (d : Nat) (q : List Int) (s left : Nat) (again : Bool) (at_ : Nat),(hdrT ps T d q s left again at_).2.1.length = q.length
 | 0,_,_,_,_,_=>rfl
 | d + 1,q,s,left,again,at_=>by
  unfold hdrT
  repeat' split
  all_goals first
   | rfl
   | (rw [b0Z ps T d]; exact List.length_set ..)
structure Dec20 (A : Option Addr) (c : Nat) (b : List Int) (n : Int) (w : World) (k lg : Int) (one : Bool) (qs : List (List Int)) (p : List Int) (g : Int) (y : List Int) : Prop where
 pb : Bytes p
 yb : Bytes y
 ql : qs.length <= 1000000
 qq : ∀ q ∈ qs,q.length <= 1000000
 s1 : ∀ w1,Below w.heap.size w w1 -> Calls Tryz.prog 21 #[.slice A b.length c] w1 (SplitOut lg one qs p k w1)
 s2 : ∀ w1,Below w.heap.size w w1 -> Calls Tryz.prog 22 #[.slice A b.length c] w1 (SplitOut lg one qs p k w1)
 d1 : ∀ w1,Below w.heap.size w w1 -> Calls Tryz.prog 23 #[.slice A b.length c,.int .i64 n] w1 (Told g y w1)
 d2 : ∀ w1,Below w.heap.size w w1 -> Calls Tryz.prog 24 #[.slice A b.length c,.int .i64 n] w1 (Told g y w1)
theorem b7Q (ps : List Int) (r : Nat) : ∀ (l : List Int) (qs : List (List Int)) (at_ : Nat),(∀ q ∈ qs,q.length <= 256) -> ∀ q ∈ (hdrsT ps r l qs at_).2.1,q.length <= 256
 | [],_,_,h=>h
 | c :: l,qs,at_,h=>by
  unfold hdrsT
  split
  · first | exact h | (intro q hq; cases hq)
  · refine b7Q ps r l _ _ ?_
    intro q hq
    rcases List.mem_or_eq_of_mem_set hq with h1 | h1
    · exact h q h1
    · rw [h1,b0Z]; exact Nat.le_of_eq List.length_replicate
theorem c9Q (ps : List Int) : ∀ q ∈ (a0w ps).2.2.1,q.length <= 256:=by
 unfold a0w
 have h:=λ r l at_=>b7Q (ps.drop 33) r l a2j at_ (λ q hq=>by rw [List.eq_of_mem_replicate hq]; exact Nat.zero_le _)
 repeat' split
 all_goals first
  | exact h _ _ _
  | (intro q hq; cases hq)
theorem c9R (A : Option Addr) (c : Nat) (b : List Int) (n : Int) (w : World) (hb : BSl w A c b) (hl : b.length <= 100000) (hn : n <= 60) : ∃ k lg one qs p g y,Dec20 A c b n w k lg one qs p g y:=by
 have d1 : ∀ w1,Below w.heap.size w w1 -> Calls Tryz.prog 23 #[.slice A b.length c,.int .i64 n] w1 (Told (dec1M b n).1 (dec1M b n).2 w1):=λ w1 h=>
  (b0R A c b n w1 (Kd.C_below hb.row h) hb.by' (by omega) hb.cap).mono (λ e w' hp=>hp.told)
 have d2 : ∀ w1,Below w.heap.size w w1 -> Calls Tryz.prog 24 #[.slice A b.length c,.int .i64 n] w1 (Told (dec1M b n).1 (dec1M b n).2 w1):=λ w1 h=>
  (c9N A c b n w1 (Kd.C_below hb.row h) hb.by' hl hb.cap (.inl (by omega))).mono (λ e w' hp=>hp.told)
 by_cases h0 : (a0w b).1 = 0
 · have hpb:=a5P hb.by'
   have hql:=(a5Q b).2
   have hqq:=c9Q b
   obtain ⟨r,q,p,hS⟩ : ∃ r q p,a0w b = (0,r,q,p):=by
    obtain ⟨k,r,q,p,hS⟩ : ∃ k r q p,a0w b = (k,r,q,p):=⟨_,_,_,_,rfl⟩
    rw [hS] at h0; exact ⟨r,q,p,by rw [hS]; rw [show k = 0 from h0]⟩
   rw [hS] at hpb hql hqq
   have yes : ∀ {w1 : World} {e : Ending} {w' : World},b0Q r q p w1 e w' -> SplitOut r false q p 0 w1 e w':=λ ⟨Am,cm,Ap,cp,he,hm,hv,hb⟩=>⟨Am,cm,Ap,cp,he,hm,hv,hb⟩
   exact ⟨0,r,false,q,p,_,_,hpb,b0n hb.by',Nat.le_trans hql (by decide),λ z hz=>Nat.le_trans (hqq z hz) (by decide),
    λ w1 h=>(b7j A c b w1 (Kd.C_below hb.row h) hb.by' (by omega) hb.cap hS).mono (λ e w' hp=>yes hp),
    λ w1 h=>(b7N A c b w1 (Kd.C_below hb.row h) hb.by' hl hb.cap hS).mono (λ e w' hp=>yes hp),d1,d2⟩
 · exact ⟨(a0w b).1,0,false,[],[],_,_,(λ x hx=>by cases hx),b0n hb.by',by simp,(λ q hq=>by cases hq),
     λ w1 h=>(b7k A c b w1 (Kd.C_below hb.row h) hb.by' (by omega) hb.cap rfl h0).mono (λ e w' hp=>SplitOut.none_ hp.1 hp.2),
     λ w1 h=>(b7O A c b w1 (Kd.C_below hb.row h) hb.by' hl hb.cap rfl h0).mono (λ e w' hp=>SplitOut.none_ hp.1 hp.2),d1,d2⟩
set_option maxRecDepth 100000 in
set_option maxHeartbeats 2000000 in
theorem c9S (A : Option Addr) (ca : Nat) (b : List Int) (n : Int) (w : World) (hb : BSl w A ca b) (hl : b.length <= 400) (hn : n <= 60) :
    Calls Tryz.prog 3 #[.slice A b.length ca,.int .i64 n] w (Ret (.bool true) w):=by
 obtain ⟨k,lg,one,qs,p,g,y,hD⟩:=c9R A ca b n w hb (by omega) hn
 have HD:=Lib.hid hD
 have e1 : decide (400 < (b.length : Int)) = false:=decide_eq_false (by omega)
 have e2 : decide (60 < n) = false:=decide_eq_false (by omega)
 clear hD hb hl hn
 go_enter Tryz.func3,Tryz.ntmps3
 go_wp2_with fail
 refine (b7P w).mono ?_
 rintro e w1 ⟨rfl,hb1⟩
 have HB1:=Lib.hid hb1
 clear hb1
 go_wp2_with fail
 refine (HD.out.s1 w1 HB1.out).mono ?_
 rintro e w2 ⟨Am,cm,Ap,cp,rfl,hm,hv,hb2⟩
 have HM:=Lib.hid (MAt.new (lg:=lg) (one:=one) (qs:=qs) hm)
 have HCM:=Lib.hid (Kd.R_reads' hm).2.1
 have HP:=Lib.hid (Kd.R_reads' hv).2.2
 obtain ⟨w3,hw3⟩ : ∃ w3,w3 = w2.alloc (.cells #[.int .i64 lg,.bool one,.slice Am qs.length cm] 26):=⟨_,rfl⟩
 rw [<- hw3] at HM
 have HP3 : Hid (Below w2.heap.size w2 w3):=by show Below _ _ _; rw [hw3]; exact (Below.refl _ _).alloc (Nat.le_refl _) _
 have HB3:=Lib.hid (a0g (a0g HB1.out hb2) HP3.out)
 clear hm hv hb2
 go_wp2_with fail
 rw [<- hw3]
 obtain ⟨mb,hmb⟩ : ∃ mb,mb = w2.heap.size:=⟨_,rfl⟩
 rw [<- hmb] at HM ⊢
 have HPP:=Lib.hid (Kd.C_below HP.out HP3.out)
 clear hw3 hmb HP3 HP
 refine (HD.out.s2 w3 HB3.out).mono ?_
 rintro e w4 ⟨An,cn,Aq,cq,rfl,hm,hv,hb4⟩
 have HN:=Lib.hid (MAt.new (lg:=lg) (one:=one) (qs:=qs) hm)
 have HCN:=Lib.hid (Kd.R_reads' hm).2.1
 have HQ:=Lib.hid (Kd.R_reads' hv).2.2
 obtain ⟨w5,hw5⟩ : ∃ w5,w5 = w4.alloc (.cells #[.int .i64 lg,.bool one,.slice An qs.length cn] 26):=⟨_,rfl⟩
 rw [<- hw5] at HN
 have HP5 : Hid (Below w4.heap.size w4 w5):=by show Below _ _ _; rw [hw5]; exact (Below.refl _ _).alloc (Nat.le_refl _) _
 have HB35:=Lib.hid (a0g hb4 HP5.out)
 have HB5:=Lib.hid (a0g HB3.out HB35.out)
 clear hm hv hb4
 go_wp2_with fail
 rw [<- hw5]
 obtain ⟨nb,hnb⟩ : ∃ nb,nb = w4.heap.size:=⟨_,rfl⟩
 rw [<- hnb] at HN ⊢
 have HQQ:=Lib.hid (Kd.C_below HQ.out HP5.out)
 clear hw5 hnb HP5 HQ
 refine (HD.out.d1 w5 HB5.out).mono ?_
 intro e w6 h6
 obtain ⟨A6,c6,rfl,hs6,hb6⟩:=h6.out HD.out.yb
 have HB56:=Lib.hid hb6
 have HB6:=Lib.hid (a0g HB5.out hb6)
 have HS6:=Lib.hid hs6
 clear h6 hs6 hb6
 go_wp2_with fail
 refine (HD.out.d2 w6 HB6.out).mono ?_
 intro e w7 h7
 obtain ⟨A7,c7,rfl,hs7,hb7⟩:=h7.out HD.out.yb
 have HB57:=Lib.hid (a0g HB56.out hb7)
 have HB37:=Lib.hid (a0g HB35.out HB57.out)
 have HB7:=Lib.hid (a0g HB6.out hb7)
 have HS67:=Lib.hid (HS6.out.below hb7)
 have HS7:=Lib.hid hs7
 clear h7 hs7 hb7
 have HM7:=Lib.hid (HM.out.later HB37.out)
 have HN7:=Lib.hid (HN.out.later HB57.out)
 obtain ⟨⟨m0,m1,m2⟩,_⟩:=cell3 HM7.out.blk
 obtain ⟨⟨n0,n1,n2⟩,_⟩:=cell3 HN7.out.blk
 go_wp2_with fail
 refine (c6S lg one Am An cm cn qs w7 HM7.out.row HN7.out.row HCM.out HCN.out HD.out.ql HD.out.qq).mono ?_
 rintro e w8 ⟨rfl,hb8⟩
 have HB8:=Lib.hid (a0g HB7.out hb8)
 have HP8:=Lib.hid (Kd.C_below (Kd.C_below HPP.out HB37.out) hb8)
 have HQ8:=Lib.hid (Kd.C_below (Kd.C_below HQQ.out HB57.out) hb8)
 have HS68:=Lib.hid (HS67.out.below hb8)
 have HS78:=Lib.hid (HS7.out.below hb8)
 clear hb8
 go_wp2_with fail
 refine (a9G Ap Aq cp cq p w8 HP8.out HQ8.out HD.out.pb).mono ?_
 rintro e w9 ⟨rfl,rfl⟩
 go_wp2_with fail
 refine (a9G A6 A7 c6 c7 y w8 HS68.out.row HS78.out.row HD.out.yb).mono ?_
 rintro e w9 ⟨rfl,rfl⟩
 go_wp2_with fail
 go_ret
 exact ⟨rfl,HB8.out⟩
set_option maxRecDepth 100000 in
set_option maxHeartbeats 1000000 in
theorem c9T (A : Option Addr) (ca : Nat) (b : List Int) (n : Int) (w : World) (hr : (Kd.int .u8).C w A b.length b) (hc : b.length <= ca) (hby : Bytes b) (_ : b.length * 1 <= 140737488351232) (hnil : A = none -> ca = 0) (_ : (Lit.int .i64 n).wf = true) :
    Calls Tryz.prog 3 #[.slice A b.length ca,.int .i64 n] w (Ret (.bool true) w):=by
 by_cases h1 : b.length <= 400 /\ n <= 60
 · exact c9S A ca b n w ⟨hr,hc,hnil,hby⟩ h1.1 h1.2
 · have hd : decide (400 < (b.length : Int)) = true \/ (decide (400 < (b.length : Int)) = false /\ decide (60 < n) = true):=by
     by_cases h2 : b.length <= 400
     · exact .inr ⟨decide_eq_false (by omega),decide_eq_true (by omega)⟩
     · exact .inl (decide_eq_true (by omega))
   clear h1 hr hc hby hnil
   rcases hd with d1 | ⟨d1,d2⟩
   all_goals
    go_enter Tryz.func3,Tryz.ntmps3
    go_wp2_with fail
    refine (b7P w).mono ?_
    rintro e w1 ⟨rfl,hb1⟩
    have HB1:=Lib.hid hb1
    clear hb1
    go_wp2_with fail
    go_ret
    exact ⟨rfl,HB1.out⟩
end Go.Proofs.YtflfjpkmjnnodaaGreat
