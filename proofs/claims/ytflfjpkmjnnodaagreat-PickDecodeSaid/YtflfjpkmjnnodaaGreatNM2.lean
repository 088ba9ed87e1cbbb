/- The walks of layer 16's reader: start, next, read. -/
import Derived.Outline
import Derived.Test.YtflfjpkmjnnodaaGreatNS1
import Derived.Test.YtflfjpkmjnnodaaGreatNM1
import Derived.Test.YtflfjpkmjnnodaaGreatNM0
import Derived.ChangeKeysEq
import Derived.BigQuiet
import Derived.Deep.RegionHeld3
import Derived.Deep.RegionLaw
import Derived.JoinedOf
import Derived.ProofKit
set_option maxRecDepth 100000
set_option maxHeartbeats 2000000
namespace Go.Proofs.YtflfjpkmjnnodaaGreat
open Go.RowKit Go.IntWalk Go.Proofs.YtflfjpkmjnnodaaGreatW.PrintWords
def LrAt (rp p:Nat) (x0 x1:Int) (w:World):Prop:=w.heap[rp]?=some (.cells #[.pointer (some ⟨p,0,none⟩),.int .i64 x0,.int .i64 x1] 155 (0,0))
theorem a9k {w:World} {base rp p left:Nat} {ps:List Int} {x0 x1:Int} (h:RdAt w base p ps left) (hx:LrAt rp p x0 x1 w) (hne:rp≠p) (j:Nat) (u:Value):RdAt (w.setCell ⟨rp,j,none⟩ u) base p ps left:=by
 obtain⟨g,c,hgp,hb,hr⟩:=h.ex;exact⟨g,c,hgp,a1v hb (p:=⟨rp,j,none⟩) (by show p≠rp;exact λ e=>hne e.symm) u,Kd.R_set hr hx (by intro q hq;simp[Kd.int,Kd.scalar] at hq;omega) j u⟩
theorem b3L {w:World} {base p left:Nat} {ps:List Int} (h:RdAt w base p ps left):RdAt w.drew base p ps left:=by
 obtain⟨g,c,h0,h1,h2⟩:=h.ex;exact⟨g,c,h0,h1,Kd.R_drew h2⟩
theorem b3M {w:World} {rp p:Nat} {x0 x1:Int} (hx:LrAt rp p x0 x1 w) (y:Int):LrAt rp p y x1 (w.setCell ⟨rp,1,none⟩ (.int .i64 y)):=by unfold LrAt;rw[a0x hx 1];rfl
theorem b3N {w:World} {rp p:Nat} {x0 x1:Int} (hx:LrAt rp p x0 x1 w) (y:Int):LrAt rp p x0 y (w.setCell ⟨rp,2,none⟩ (.int .i64 y)):=by unfold LrAt;rw[a0x hx 2];rfl
theorem a5C {w w':World} {rp p:Nat} {x0 x1:Int} (hx:LrAt rp p x0 x1 w) (h:Only (λ k=>k=p) w w') (hne:rp≠p):LrAt rp p x0 x1 w':=(h.block rp (a0g hx) hne).trans hx
def a4K (base rp p:Nat) (ps:List Int) (left lg:Nat) (w:World) (e:Ending) (w':World):Prop:=
 if lg+lg<=left then e=.returned (.bool true)/\LrAt rp p (takeV ps left lg) (takeV ps (left-lg) lg) w'/\RdAt w' base p ps (left-lg-lg)/\Only (λ k=>k=p\/k=rp) w w'
 else e=.returned (.bool false)/\Only (λ k=>k=p\/k=rp) w w'
theorem a9l {ps:List Int} {left lg:Nat} (h:lg<=24):takeV ps left lg<16777216:=by
 have h1:=a2d ps left lg;have h2:2^lg<=2^24:=Nat.pow_le_pow_right (by omega) h;omega
theorem a9m (base p:Nat) (ps:List Int) (left n:Nat) (w:World) (h:RdAt w base p ps left) (hps:∀ x∈ps,0<=x/\x<256) (hl:left<=8*ps.length) (hl2:ps.length<=1000000) (hn:n<=24) (hle:n<=left) :
    Calls Tryz.prog 167 #[.pointer (some ⟨p,0,none⟩),.int .i64 n] w λ e w'=>e=.returned (.tuple #[.int .u32 (takeV ps left n),.bool true])/\RdAt w' base p ps (left-n)/\Only (λ k=>k=p) w w':=
 (b3K base p ps left n w h hps hl hl2 hn).mono λ e w' hp=>by unfold a6Y at hp;rwa [if_pos hle] at hp
theorem a9n (base p:Nat) (ps:List Int) (left n:Nat) (w:World) (h:RdAt w base p ps left) (hps:∀ x∈ps,0<=x/\x<256) (hl:left<=8*ps.length) (hl2:ps.length<=1000000) (hn:n<=24) (hle:¬ n<=left) :
    Calls Tryz.prog 167 #[.pointer (some ⟨p,0,none⟩),.int .i64 n] w λ e w'=>e=.returned (.tuple #[.int .u32 0,.bool false])/\w=w':=
 (b3K base p ps left n w h hps hl hl2 hn).mono λ e w' hp=>by unfold a6Y at hp;rwa [if_neg hle] at hp
theorem c2c {base rp p left lg:Nat} {ps:List Int} {x0 x1:Int} {w w1:World} (V:Int) (hr:RdAt w1 base p ps (left-lg)) (ho:Only (λ k=>k=p) w w1) (hx:LrAt rp p x0 x1 w1) (hne:rp≠p) :
    LrAt rp p V x1 (w1.setCell ⟨rp,1,none⟩ (.int .i64 V))/\RdAt (w1.setCell ⟨rp,1,none⟩ (.int .i64 V)) base p ps (left-lg)/\Only (λ k=>k=p\/k=rp) w (w1.setCell ⟨rp,1,none⟩ (.int .i64 V)):=
 ⟨b3M hx V,a9k hr hx hne 1 _,(ho.mono (λ _ _ hk=>.inl hk)).setCell (p:=⟨rp,1,none⟩) (.inr rfl) _⟩
theorem c2d {base rp p left lg:Nat} {ps:List Int} {x0 x1:Int} {w w2 w3:World} (V:Int) (hr:RdAt w3 base p ps (left-lg-lg)) (ho:Only (λ k=>k=p) w2 w3) (hx:LrAt rp p x0 x1 w2) (hne:rp≠p) (h2:Only (λ k=>k=p\/k=rp) w w2) :
    LrAt rp p x0 V (w3.setCell ⟨rp,2,none⟩ (.int .i64 V))/\RdAt (w3.setCell ⟨rp,2,none⟩ (.int .i64 V)) base p ps (left-lg-lg)/\Only (λ k=>k=p\/k=rp) w (w3.setCell ⟨rp,2,none⟩ (.int .i64 V)):=by
 have hx3:=a5C hx ho hne;exact⟨b3N hx3 V,a9k hr hx3 hne 2 _,(h2.trans (ho.mono (λ k _ hk=>.inl hk))).setCell (p:=⟨rp,2,none⟩) (.inr rfl) _⟩
theorem b3O (base rp p:Nat) (ps:List Int) (left lg:Nat) (x0 x1:Int) (w:World) (hx:LrAt rp p x0 x1 w) (h:RdAt w base p ps left) (hps:∀ x∈ps,0<=x/\x<256) (hl:left<=8*ps.length) (hl2:ps.length<=1000000) (hn:lg<=24) (hne:rp≠p) :
    Calls Tryz.prog 117 #[.pointer (some ⟨rp,0,none⟩),.int .i64 lg] w (a4K base rp p ps left lg w):=by
 have HH:=Lib.hid h;have HP:=Lib.hid (And.intro hps (And.intro hl (And.intro hl2 (And.intro hn (And.intro hne hx)))));have hc0:w.cell? ⟨rp,0,none⟩=some (.pointer (some ⟨p,0,none⟩)):=(a0a hx 0).trans rfl;have hu62:=Tryz.underlying153;clear h hps hl hl2 hn hx hne
 by_cases h1:lg<=left
 · have HL1:=Lib.hid h1;clear h1;go_enter Tryz.func117,Tryz.ntmps117;go_wp2_with fail;refine wp_loop_rounds 3 ?_;rw[rounds_succ];go_wp2_with fail;refine(a9m base p ps left lg w HH.out HP.out.1 HP.out.2.1 HP.out.2.2.1 HP.out.2.2.2.1 HL1.out).mono ?_;rintro e w1 ⟨rfl,hr1,ho1⟩;have hx1:=a5C HP.out.2.2.2.2.2 ho1 HP.out.2.2.2.2.1;have hf1:w1.frozen? ⟨rp,1,none⟩=false:=a0e hx1 1;have hc1:w1.cell? ⟨rp,1,none⟩=some (.int .i64 x0):=(a0a hx1 1).trans rfl;have hv:=a9l (ps:=ps) (left:=left) HP.out.2.2.2.1;obtain⟨V,hV⟩:∃ V,V=takeV ps left lg:=⟨_,rfl⟩;rw[<- hV] at hv ⊢;have HV:=Lib.hid hV;have H2:=Lib.hid (c2c (V:Int) hr1 ho1 hx1 HP.out.2.2.2.2.1);clear hV hr1 ho1 hx1;go_wp2_with fail;obtain⟨w2,hw2⟩:∃ w2,w2=w1.setCell ⟨rp,1,none⟩ (.int .i64 (V:Int)):=⟨_,rfl⟩;rw[<- hw2] at H2 ⊢;have hc02:w2.cell? ⟨rp,0,none⟩=some (.pointer (some ⟨p,0,none⟩)):=(a0a H2.out.1 0).trans rfl;clear hc1 hf1 hc0 hw2;rw[rounds_succ]
   by_cases h2:lg<=left-lg
   · have HL2:=Lib.hid h2;clear h2;go_wp2_with fail;refine(a9m base p ps (left-lg) lg w2 H2.out.2.1 HP.out.1 (by have:=HP.out.2.1;omega) HP.out.2.2.1 HP.out.2.2.2.1 HL2.out).mono ?_;rintro e w3 ⟨rfl,hr3,ho3⟩;have hx3:=a5C H2.out.1 ho3 HP.out.2.2.2.2.1;have hf3:w3.frozen? ⟨rp,2,none⟩=false:=a0e hx3 2;have hc3:w3.cell? ⟨rp,2,none⟩=some (.int .i64 x1):=(a0a hx3 2).trans rfl;have hv3:=a9l (ps:=ps) (left:=left-lg) HP.out.2.2.2.1;obtain⟨V3,hV3⟩:∃ V3,V3=takeV ps (left-lg) lg:=⟨_,rfl⟩;rw[<- hV3] at hv3 ⊢;have HV3:=Lib.hid hV3;have H3:=Lib.hid (c2d (V3:Int) hr3 ho3 H2.out.1 HP.out.2.2.2.2.1 H2.out.2.2);clear hV3 hr3 ho3 hx3;go_wp2_with fail;rw[rounds_succ];go_wp2_with fail;go_ret;unfold a4K;rw[if_pos (by have:=HL1.out;have:=HL2.out;omega),<- HV.out,<- HV3.out];exact⟨rfl,H3.out.1,H3.out.2.1,H3.out.2.2⟩
   · have HL2:=Lib.hid h2;clear h2;go_wp2_with fail;refine(a9n base p ps (left-lg) lg w2 H2.out.2.1 HP.out.1 (by have:=HP.out.2.1;omega) HP.out.2.2.1 HP.out.2.2.2.1 HL2.out).mono ?_;rintro e w3 ⟨rfl,rfl⟩;go_wp2_with fail;go_ret;unfold a4K;rw[if_neg (by have:=HL1.out;have:=HL2.out;omega)];exact⟨rfl,H2.out.2.2⟩
 · have HL1:=Lib.hid h1;clear h1;go_enter Tryz.func117,Tryz.ntmps117;go_wp2_with fail;refine wp_loop_rounds 3 ?_;rw[rounds_succ];go_wp2_with fail;refine(a9n base p ps left lg w HH.out HP.out.1 HP.out.2.1 HP.out.2.2.1 HP.out.2.2.2.1 HL1.out).mono ?_;rintro e w1 ⟨rfl,rfl⟩;go_wp2_with fail;go_ret;unfold a4K;rw[if_neg (by have:=HL1.out;omega)];exact⟨rfl,Only.refl _ _⟩
def pick2 (t:Nat) (x0 x1:Int):Int:=if t=0 then x0 else x1
def set2 (t:Nat) (x0 x1 y:Int):Int×Int:=if t=0 then (y,x1) else (x0,y)
theorem c2e {w:World} {rp p t:Nat} {x0 x1:Int} (hx:LrAt rp p x0 x1 w) (ht:t<2):w.cell? ⟨rp,1+t,none⟩=some (.int .i64 (pick2 t x0 x1))/\w.frozen? ⟨rp,1+t,none⟩=false:=by
 refine⟨?_,a0e hx _⟩;rw[a0a hx (1+t)];rcases (by omega:t=0\/t=1) with rfl | rfl <;> rfl
theorem c2f {w:World} {rp p t:Nat} {x0 x1:Int} (hx:LrAt rp p x0 x1 w) (ht:t<2) (y:Int):LrAt rp p (set2 t x0 x1 y).1 (set2 t x0 x1 y).2 (w.setCell ⟨rp,1+t,none⟩ (.int .i64 y)):=by
 rcases (by omega:t=0\/t=1) with rfl | rfl
 · exact b3M hx y
 · exact b3N hx y
structure NextPost (base rp p:Nat) (ps:List Int) (left:Nat) (x0 x1:Int) (w w':World):Prop where
 lr:LrAt rp p x0 x1 w'
 rd:RdAt w' base p ps left
 only:Only (λ k=>k=p\/k=rp) w w'
def c2g (base rp p:Nat) (ps:List Int) (left t:Nat) (x0 x1:Int) (s y:Int) (w:World) (e:Ending) (w':World):Prop:=
 e=.returned (.tuple #[.int .u8 s,.int .i64 0])/\NextPost base rp p ps left (set2 t x0 x1 y).1 (set2 t x0 x1 y).2 w w'
theorem b3P {w w':World} {base p rp:Nat} {A:Option Addr} {c:Nat} {l:List K3} (h:kc.R 170 w base (λ b=>b≠p/\b≠rp) (.slice A l.length c) l) (ho:Only (λ k=>k=p) w w'):kc.R 170 w' base (λ b=>b≠p/\b≠rp) (.slice A l.length c) l:=
 Kd.R_step h (λ k hk hlt=>ho.block k hlt hk.1)
theorem a9o {w w':World} {base p rp t x:Nat} {A:Option Addr} {c:Nat} {l:List K3} {x0 x1:Int} (h:kc.R 170 w base (λ b=>b≠p/\b≠rp) (.slice A l.length c) l) (hx:LrAt rp p x0 x1 w) (ho:Only (λ k=>k=p) w w') (hne:rp≠p) (hp:pick2 t x0 x1=x) (hxl:x<l.length) (ht:t<2) :
    ∃ ad,A=some ad/\w'.cell? ⟨rp,0,none⟩=some (.pointer (some ⟨p,0,none⟩))/\w'.cell? ⟨rp,1+t,none⟩=some (.int .i64 x)/\w'.frozen? ⟨rp,1+t,none⟩=false/\w'.cell? ⟨(ad.add (x*3)).block,(ad.add (x*3)).off+1,none⟩=some (.int .i64 (l.getD x z3).2.1):=by
 have h':=b3P h ho;have hx':=a5C hx ho hne;obtain⟨ad,e,hc⟩:=kc_at (Kd.R_reads' h').2.2 x hxl;have hl:=c2e hx' ht;rw[hp] at hl;exact⟨ad,e,(a0a hx' 0).trans rfl,hl.1,hl.2,hc.2.1⟩
theorem c2h {w w':World} {base p rp t x:Nat} {ad:Addr} {c:Nat} {l:List K3} {x0 x1:Int} (h:kc.R 170 w base (λ b=>b≠p/\b≠rp) (.slice (some ad) l.length c) l) (hx:LrAt rp p x0 x1 w) (ho:Only (λ k=>k=p) w.drew w') (hne:rp≠p) (hp:pick2 t x0 x1=x) (hxl:x<l.length) (ht:t<2) :
    w'.cell? ⟨rp,0,none⟩=some (.pointer (some ⟨p,0,none⟩))/\w'.cell? ⟨rp,1+t,none⟩=some (.int .i64 x)/\w'.frozen? ⟨rp,1+t,none⟩=false/\w'.cell? ⟨(ad.add (x*3)).block,(ad.add (x*3)).off+1,none⟩=some (.int .i64 (l.getD x z3).2.1) /\
     kc.R 170 w' base (λ b=>b≠p/\b≠rp) (.slice (some ad) l.length c) l/\LrAt rp p x0 x1 w':=by
 have ho':Only (λ k=>k=p) w w':=((Only.refl _ w).drew).trans ho;obtain⟨ad',e,h1,h2,h3,h4⟩:=a9o h hx ho' hne hp hxl ht
 cases e
 exact⟨h1,h2,h3,h4,b3P h ho',a5C hx ho' hne⟩
theorem c2i {base rp p left t:Nat} {ps:List Int} {x0 x1:Int} {w w1 w2:World} (y:Int) (hr:RdAt w1 base p ps left) (ho:Only (λ k=>k=p) w.drew w1) (hx:LrAt rp p x0 x1 w1) (hb:Below w1.heap.size w1 w2) (hne:rp≠p) (ht:t<2) :
    NextPost base rp p ps left (set2 t x0 x1 y).1 (set2 t x0 x1 y).2 w (w2.setCell ⟨rp,1+t,none⟩ (.int .i64 y)):=by
 have hx2:LrAt rp p x0 x1 w2:=(hb.block rp (a0g hx)).trans hx
 have hr2:RdAt w2 base p ps left:=by
  obtain⟨g,c,h0,h1,h2⟩:=hr.ex;exact⟨g,c,h0,a0h h1 hb,Kd.R_below h2 hb⟩
 have ho':Only (λ k=>k=p) w w2:=(((Only.refl _ w).drew).trans ho).trans (Only.of_below hb);exact⟨c2f hx2 ht y,a9k hr2 hx2 hne _ _,(ho'.mono (λ k _ hk=>.inl hk)).setCell (p:=⟨rp,1+t,none⟩) (.inr rfl) _⟩
theorem c2j (base rp p:Nat) (ps:List Int) (left t x b:Nat) (x0 x1 s bs:Int) (l:List K3) (A:Option Addr) (c lb:Nat) (w:World) (hx:LrAt rp p x0 x1 w) (h:RdAt w base p ps left) (hL:kc.R 170 w lb (λ b=>b≠p/\b≠rp) (.slice A l.length c) l)
    (hps:∀ x∈ps,0<=x/\x<256) (hl:left<=8*ps.length) (hl2:ps.length<=1000000) (hne:rp≠p) (ht:t<2) (hp:pick2 t x0 x1=x) (hxl:x<l.length) (hll:l.length<=100000) (he:l.getD x z3=(s,(b:Int),bs)) (hb:b<=24) (hB:0<=bs/\bs<=100000) (hle:b<=left) :
    Calls Tryz.prog 168 #[.pointer (some ⟨rp,0,none⟩),.slice A l.length c,.int .i64 t] w (c2g base rp p ps (left-b) t x0 x1 s (bs+takeV ps left b) w):=by
 obtain⟨ad,rfl,hc0,hc1,hf1,hc2⟩:=a9o hL hx (Only.refl _ _) hne hp hxl ht;rw[he] at hc2;have HH:=Lib.hid h;have HP:=Lib.hid (And.intro hps (And.intro hl (And.intro hl2 (And.intro hne hx))));have HL:=Lib.hid (And.intro hL (And.intro hp he));have HLE:=Lib.hid hle;have hu62:=Tryz.underlying153;have hl0:((l.length:Int)==0)=false:=by simp;intro e;subst e;simp at hxl
 have hxI:(x:Int)<(l.length:Int):=by omega
 have htI:(t:Int)<2:=by omega
 obtain⟨V,hV⟩:∃ V,V=takeV ps left b:=⟨_,rfl⟩;have HV:Hid (V=takeV ps left b/\V<2^b):=⟨hV,by rw[hV];exact a2d ps left b⟩;have hv24:V<16777216:=by rw[hV];exact a9l hb
 rw[<- hV];clear h hps hl hl2 hx hne hL hp he hle hV;go_enter Tryz.func168,Tryz.ntmps168;go_wp2_with fail
 go_region_held3 (λ w'=>w'.cell? ⟨rp,0,none⟩=some (.pointer (some ⟨p,0,none⟩))/\w'.cell? ⟨rp,1+t,none⟩=some (.int .i64 x)/\w'.cell? ⟨(ad.add (x*3)).block,(ad.add (x*3)).off+1,none⟩=some (.int .i64 b)) ((repeat' apply And.intro) <;> first | assumption)
  (first | (go_at_call 167;refine(a9m base p ps left b _ (by first | exact HH.out | exact b3L HH.out) HP.out.1 HP.out.2.1 HP.out.2.2.1 hb HLE.out).mono ?_;rw[<- HV.out.1];rintro e w1 ⟨rfl,hr1,ho1⟩;obtain⟨d0,d1,df,d2,dL,dx⟩:=c2h HL.out.1 HP.out.2.2.2.2 ho1 HP.out.2.2.2.1 HL.out.2.1 hxl ht;rw[HL.out.2.2] at d2;have H1:=Lib.hid (And.intro hr1 (And.intro ho1 (And.intro dL dx)));clear hr1 ho1 dL dx))
 go_wp2_with fail;refine(c1N (some ad) c l x b V s bs w1 (Kd.R_reads' H1.out.2.2.1).2.2 hxl hll HL.out.2.2 hb HV.out.2 hB).mono ?_;rintro e w2 ⟨rfl,hb2⟩;have e1:w2.cell? ⟨rp,1+t,none⟩=some (.int .i64 x):=a0p hb2 d1;have e2:w2.frozen? ⟨rp,1+t,none⟩=false:=(hb2.frozen (p:=⟨rp,1+t,none⟩) (a0g H1.out.2.2.2)).trans df;have HE:=Lib.hid (c2i (bs+V) H1.out.1 H1.out.2.1 H1.out.2.2.2 hb2 HP.out.2.2.2.1 ht);clear hb2;go_wp2_with fail;go_ret2;exact⟨rfl,HE.out⟩
theorem c2k (base rp p:Nat) (ps:List Int) (left t x b:Nat) (x0 x1 s bs:Int) (l:List K3) (A:Option Addr) (c lb:Nat) (w:World) (hx:LrAt rp p x0 x1 w) (h:RdAt w base p ps left) (hL:kc.R 170 w lb (λ b=>b≠p/\b≠rp) (.slice A l.length c) l)
    (hps:∀ x∈ps,0<=x/\x<256) (hl:left<=8*ps.length) (hl2:ps.length<=1000000) (hne:rp≠p) (ht:t<2) (hp:pick2 t x0 x1=x) (hxl:x<l.length) (he:l.getD x z3=(s,(b:Int),bs)) (hb:b<=24) (hle:¬ b<=left) :
    Calls Tryz.prog 168 #[.pointer (some ⟨rp,0,none⟩),.slice A l.length c,.int .i64 t] w λ e w'=>e=.returned (.tuple #[.int .u8 0,.int .i64 3])/\Below w.heap.size w w':=by
 obtain⟨ad,rfl,hc0,hc1,hf1,hc2⟩:=a9o hL hx (Only.refl _ _) hne hp hxl ht;rw[he] at hc2;have HH:=Lib.hid h;have HP:=Lib.hid (And.intro hps (And.intro hl (And.intro hl2 (And.intro hne hx))));have HLE:=Lib.hid hle;have hu62:=Tryz.underlying153;have hl0:((l.length:Int)==0)=false:=by simp;intro e;subst e;simp at hxl
 have hxI:(x:Int)<(l.length:Int):=by omega
 have htI:(t:Int)<2:=by omega
 clear h hps hl hl2 hx hne hL hp he hle;go_enter Tryz.func168,Tryz.ntmps168;go_wp2_with fail
 go_region_held3 (λ w'=>w'.cell? ⟨rp,0,none⟩=some (.pointer (some ⟨p,0,none⟩))/\w'.cell? ⟨rp,1+t,none⟩=some (.int .i64 x)/\w'.cell? ⟨(ad.add (x*3)).block,(ad.add (x*3)).off+1,none⟩=some (.int .i64 b)) ((repeat' apply And.intro) <;> first | assumption)
  (first | (go_at_call 167;refine(a9n base p ps left b _ (by first | exact HH.out | exact b3L HH.out) HP.out.1 HP.out.2.1 HP.out.2.2.1 hb HLE.out).mono ?_;rintro e w1 ⟨rfl,rfl⟩))
 go_wp2_with fail;go_ret2;exact⟨rfl,(Below.refl _ _).drew⟩
theorem c2l (rp:Addr) (t:Int) (w:World) (c:Nat) (A:Option Addr) :
    Calls Tryz.prog 168 #[.pointer (some rp),.slice A 0 c,.int .i64 t] w λ e w'=>e=.returned (.tuple #[.int .u8 0,.int .i64 13])/\w=w':=by
 go_enter Tryz.func168,Tryz.ntmps168;go_wp2_with fail;go_ret2;exact⟨rfl,rfl⟩
end Go.Proofs.YtflfjpkmjnnodaaGreat
namespace Go.Proofs.YtflfjpkmjnnodaaGreat
open Go.RowKit
theorem b3Q:∃ i,Tryz.prog.info? 3=some i/\i.size=1:=by
 have h:(Tryz.prog.info? 3).map (·.size)=some 1:=by kernel_rfl
 obtain⟨i,hi,h2⟩:=Option.map_eq_some_iff.1 h;exact⟨i,hi,h2⟩
theorem c2m:Tryz.prog.cellsOf 3=1:=by
 obtain⟨i,hi,h2⟩:=b3Q;unfold Program.cellsOf;rw[hi];exact h2
theorem c2n (y0 y1 z0 z1:Int) (w:World):(Op.equalIn 10000 153 (.agg #[.int .i64 y0,.int .i64 y1]) (.agg #[.int .i64 z0,.int .i64 z1])).run Tryz.prog w=.ok ((y0==z0)&&(y1==z1)) w:=by
 obtain⟨i,hi,h2⟩:=b3Q;rw[show(10000:Nat)=9999+1 from rfl,run_equalIn_array (P:=Tryz.prog) (w:=w) 9999 (t:=153) (e:=3) (n:=2) (i:=i) _ _ Tryz.underlying153 hi,c2m];have e:List.range 2=[0,1]:=rfl;have hk:Tryz.prog.plainKey 3=true:=by kernel_rfl
 have hp:∀ (xs:Array Value) (j:Nat) (v:Value),xs[j]?=some v->(part 3 xs j).run Tryz.prog w=.ok v w:=λ xs j v h=>run_part_plain (P:=Tryz.prog) (w:=w) hk h;have hq:∀ (x y:Int),(Op.equalIn 9999 3 (.int .i64 x) (.int .i64 y)).run Tryz.prog w=.ok (x==y) w:=λ x y=>run_equalIn_int w 9998 3 .i64 .i64 x y Tryz.underlying3;rw[e];have a0:=hp #[.int .i64 y0,.int .i64 y1] (0*1) (.int .i64 y0) rfl;have b0:=hp #[.int .i64 z0,.int .i64 z1] (0*1) (.int .i64 z0) rfl;have a1:=hp #[.int .i64 y0,.int .i64 y1] (1*1) (.int .i64 y1) rfl;have b1:=hp #[.int .i64 z0,.int .i64 z1] (1*1) (.int .i64 z1) rfl;simp only[Op.eqItems,Sem.run_bind,a0,b0,hq,Result.andThen_ok]
 cases h:(y0==z0)
 · rfl
 · simp only[Bool.not_true,Bool.false_eq_true,if_false,Sem.run_bind,a1,b1,hq,Result.andThen_ok,Bool.true_and]
   cases h2:(y1==z1) <;> rfl
open Go.IntWalk Go.Proofs.YtflfjpkmjnnodaaGreatW.PrintWords
def decGo (one:Bool) (qs:List (List Int)) (ps:List Int):Nat->Nat->Int->Int->Int->Nat->List Int->Int×List Int
 | 0,_,_,x0,x1,left,out=>if x0=0/\x1=0/\left=0 then (0,out) else (14,[])
 | n+1,i,last,x0,x1,left,out=>
  let l:=cellsOf (qs.getD (listI one last) [])
  if l.length=0 then (13,[]) else
   let c:=l.getD (pick2 (i%2) x0 x1).toNat z3
   if left<c.2.1.toNat then (3,[]) else
    let y:=c.2.2+takeV ps left c.2.1.toNat
    decGo one qs ps n (i+1) c.1 (set2 (i%2) x0 x1 y).1 (set2 (i%2) x0 x1 y).2 (left-c.2.1.toNat) (out++[c.1])
theorem a3p {q:List Int} (h:logC q≠0):(a0V q).length=2^logC q:=by
 unfold a0V a2c;rw[List.length_map,List.length_range,a1Q h]
theorem a4L {q:List Int} (h:logC q≠0) (x:Nat) (hx:x<2^logC q):(a0V q).getD x z3=a0T q x:=by
 have hl:=a3p h;rw[List.getD_eq_getElem?_getD,List.getElem?_eq_getElem (by omega),Option.getD_some];unfold a0V a2c;simp
theorem a6Z {q:List Int} (h:logC q≠0) (x:Nat) (hx:x<2^logC q):0<=(a0T q x).1/\(a0T q x).1<256/\(∃ b:Nat,(a0T q x).2.1=b/\b<=12/\(a0T q x).2.2+2^b<=2^logC q)/\0<=(a0T q x).2.2/\(a0T q x).2.2<=100000:=by
 have hq:=a1A h;have hj:x<(symsL q).length:=by rw[a1Q h];exact hx
 have hs:=a3M hq x hj;obtain⟨g0,g1,g2,g3,g4⟩:=a9c h x hj;have hr:logC q<=12:=a1M _;have hp:2^logC q<=2^12:=Nat.pow_le_pow_right (by omega) hr;have e2:(2:Int)^logC q=((2^logC q:Nat):Int):=by simp
 have e1:(2:Int)^(logC q-a0n (a0u q x))=((2^(logC q-a0n (a0u q x)):Nat):Int):=by simp
 have e3:(a0u q x:Int)*2^(logC q-a0n (a0u q x))=((a0u q x*2^(logC q-a0n (a0u q x)):Nat):Int):=by simp
 have hgb:(a0u q x+1)*2^(logC q-a0n (a0u q x))<=2*2^logC q:=by
  obtain⟨_,f2⟩:=a3n (a0u q x) g0 (by omega)
  calc _<=2^(a0n (a0u q x)+1)*2^(logC q-a0n (a0u q x)):=Nat.mul_le_mul_right _ f2
   _=2^(logC q+1):=by rw[<- Nat.pow_add];congr 1;omega
   _=_:=by rw[Nat.pow_succ];omega
 rw[Nat.add_mul,Nat.one_mul] at hgb;unfold a0T;refine⟨hs.1,hs.2.1,⟨_,rfl,by omega,?_⟩,?_,?_⟩
 · show(a0u q x:Int)*2^(logC q-a0n (a0u q x))-2^logC q+2^(logC q-a0n (a0u q x))<=2^logC q
   rw[e1,e2,<- Int.natCast_mul];omega
 · show 0<=(a0u q x:Int)*2^(logC q-a0n (a0u q x))-2^logC q
   rw[e1,e2,<- Int.natCast_mul];omega
 · show(a0u q x:Int)*2^(logC q-a0n (a0u q x))-2^logC q<=100000
   rw[e1,e2,<- Int.natCast_mul];omega
theorem b3R {q:List Int} (h:q.length=0):logC q=0:=by
 by_cases e:logC q=0
 · exact e
 · have:=(a1A e).len;omega
theorem a7a {lg:Int} {one:Bool} {qs:List (List Int)} (h:a0A lg one qs=true) (k:Nat):(cellsOf (qs.getD k [])).length=0\/(logC (qs.getD k [])≠0/\(logC (qs.getD k []):Int)=lg/\cellsOf (qs.getD k [])=a0V (qs.getD k [])/\(cellsOf (qs.getD k [])).length=2^lg.toNat):=by
 by_cases e:(qs.getD k []).length=0
 · left;unfold cellsOf;rw[if_pos (b3R e)];rfl
 · have h2:=a6U h k e;right;have e2:cellsOf (qs.getD k [])=a0V (qs.getD k []):=by unfold cellsOf;rw[if_neg h2.1]
   refine⟨h2.1,h2.2,e2,?_⟩;rw[e2,a3p h2.1]
   congr 1;omega
def ReadPost (res:Int×List Int) (w0:World) (e:Ending) (w':World):Prop:=(∃ v,e=.returned (.tuple #[v,.int .i64 res.1])/\(Kd.int .u8).R 5 w' w0.heap.size (λ _=>True) v res.2)/\Below w0.heap.size w0 w'
structure RdRel (lg:Int) (one:Bool) (A:Option Addr) (c:Nat) (qs:List (List Int)) (tb me md rp p:Nat) (ps:List Int) (w0:World) (N k:Nat) (f:Int->Option Value) (v:Value) (out:List Int) (x0 x1:Int) (left:Nat) (wr:World):Prop where
 lr:LrAt rp p x0 x1 wr
 rd:RdAt wr w0.heap.size p ps left
 dec:DecInv lg one A c qs tb me md k f (λ b=>b=p\/b=rp\/v.ownBlock=some b) w0 wr
 out:(Kd.int .u8).R 5 wr N (λ _=>True) v out
 size:N<=wr.heap.size
theorem DecInv.out {lg:Int} {one:Bool} {A:Option Addr} {c:Nat} {qs:List (List Int)} {tb me md n:Nat} {f:Int->Option Value} {Out Out':Nat->Prop} {w0 w w':World} (h:DecInv lg one A c qs tb me md n f Out w0 w) (ho:Only Out w w') (hs:∀ g,Out' g->(Out g\/w.heap.size<=g)/\g<w'.heap.size):DecInv lg one A c qs tb me md n f Out' w0 w':=by
 have hsz:=ho.size;have hw:=h.below.size;refine⟨?_,?_,by have:=h.mlt;omega,?_,h.mge,?_,?_,?_⟩
 · rw[ho.block tb (a0g h.blk) h.ne.1];exact h.blk
 · rw[ho.block md h.mlt h.ne.2.1];exact h.mp
 · exact h.below.trans (ho.below hw (λ k hk=>(h.oge k hk).1))
 · intro g hg;refine⟨?_,(hs g hg).2⟩;rcases (hs g hg).1 with x | x
   · exact(h.oge g x).1
   · omega
 · intro i hi v hv;refine Kd.R_mono (Kd.R_step (Kd.R_bound (h.ent i hi v hv)) (λ k hk hlt=>ho.block k hlt hk.1.1)) (λ k hk=>⟨λ hg=>?_,hk.1.2⟩);rcases (hs k hg).1 with x | x
   · exact hk.1.1 x
   · have:=hk.2.2.1;omega
 · refine⟨λ hg=>?_,λ hg=>?_,h.ne.2.2⟩
   · rcases (hs tb hg).1 with x | x
     · exact h.ne.1 x
     · have:=a0g h.blk;omega
   · rcases (hs md hg).1 with x | x
     · exact h.ne.2.1 x
     · have:=h.mlt;omega
structure RdPl (tb md rp p N:Nat) (w0:World):Prop where
 p0:w0.heap.size<=p
 pr:p<rp
 rN:rp<N
 pm:rp<md
 mN:md<N
structure RdMid (lg:Int) (one:Bool) (A:Option Addr) (c:Nat) (qs:List (List Int)) (tb me md rp p:Nat) (ps:List Int) (w0:World) (N k:Nat) (f:Int->Option Value) (v vc:Value) (j:Nat) (out:List Int) (x0 x1:Int) (left:Nat) (wr:World):Prop where
 r:RdRel lg one A c qs tb me md rp p ps w0 N (k+1) f v out x0 x1 left wr
 row:kc.R 170 wr w0.heap.size (λ b=>b≠p/\b≠rp) vc (cellsOf (qs.getD j []))
theorem c2o {lg:Int} {one:Bool} {A:Option Addr} {c:Nat} {qs:List (List Int)} {tb me md rp p:Nat} {ps:List Int} {w0:World} {N k j:Nat} {f:Int->Option Value} {v:Value} {out:List Int} {x0 x1:Int} {left:Nat} {wr w1:World} {e:Ending} (hpl:RdPl tb md rp p N w0) (h:RdRel lg one A c qs tb me md rp p ps w0 N k f v out x0 x1 left wr)
    (hp:b3H lg one A c qs tb me md k (λ b=>b=p\/b=rp\/v.ownBlock=some b) j w0 wr e w1):∃ f' vc,e=.returned vc/\RdMid lg one A c qs tb me md rp p ps w0 N k f' v vc j out x0 x1 left w1:=by
 obtain⟨f',vc,he,hd,hrow,ho⟩:=hp;have:=hpl.pr;have:=hpl.pm;refine⟨f',vc,he,⟨(ho.block rp (a0g h.lr) (by omega)).trans h.lr,?_,hd,?_,Nat.le_trans h.size ho.size⟩,Kd.R_mono hrow (λ b hb=>⟨λ e=>hb.1 (.inl e),λ e=>hb.1 (.inr (.inl e))⟩)⟩
 · obtain⟨g,cc,h0,h1,h2⟩:=h.rd.ex;refine⟨g,cc,h0,(ho.block p (a0g h1) (by omega)).trans h1,Kd.R_mono (Kd.R_step (Kd.R_tight2 rfl h2) (λ b hb hlt=>ho.block b hlt ?_)) (λ b hb=>hb.2)⟩;have:b=g:=Option.some.inj hb.1;omega
 · refine Kd.R_mono (Kd.R_step (Kd.R_bound h.out) (λ b hb hlt=>ho.block b hlt ?_)) (λ _ _=>trivial);have:=hb.2.1;have:=hpl.mN;omega
theorem c2p {lg:Int} {one:Bool} {A:Option Addr} {c:Nat} {qs:List (List Int)} {tb me md rp p:Nat} {ps:List Int} {w0:World} {N k j:Nat} {f:Int->Option Value} {v vc:Value} {out:List Int} {x0 x1 y0 y1:Int} {left left':Nat} {w1 w2:World} (hpl:RdPl tb md rp p N w0) (h:RdMid lg one A c qs tb me md rp p ps w0 N k f v vc j out x0 x1 left w1)
    (hn:NextPost w0.heap.size rp p ps left' y0 y1 w1 w2):RdRel lg one A c qs tb me md rp p ps w0 N (k+1) f v out y0 y1 left' w2:=by
 have:=hpl.pr;have:=hpl.rN;refine⟨hn.lr,hn.rd,h.r.dec.out (hn.only.mono (λ b _ hb=>hb.imp id .inl)) (λ g hg=>⟨.inl hg,by have:=(h.r.dec.oge g hg).2;have:=hn.only.size;omega⟩),?_,Nat.le_trans h.r.size hn.only.size⟩;refine Kd.R_mono (Kd.R_step (Kd.R_bound h.r.out) (λ b hb hlt=>hn.only.block b hlt (λ e=>?_))) (λ _ _=>trivial);have:=hb.2.1;omega
theorem c2q {lg:Int} {one:Bool} {A:Option Addr} {c:Nat} {qs:List (List Int)} {tb me md rp p:Nat} {ps:List Int} {w0:World} {N k:Nat} {f:Int->Option Value} {v v1:Value} {out out1:List Int} {x0 x1:Int} {left:Nat} {w2 w3:World} (hpl:RdPl tb md rp p N w0) (h:RdRel lg one A c qs tb me md rp p ps w0 N k f v out x0 x1 left w2)
    (hr:(Kd.int .u8).R 5 w3 N (λ _=>True) v1 out1) (hg:w2.grownBy w3 v.ownBlock) (hat:v1.ownBlock=v.ownBlock\/∃ b,v1.ownBlock=some b/\w2.heap.size<=b):RdRel lg one A c qs tb me md rp p ps w0 N k f v1 out1 x0 x1 left w3:=by
 have h1:=hpl.pr;have h2:=hpl.rN;have hge:∀ b,v.ownBlock=some b->N<=b:=λ b hb=>((Kd.R_bound h.out).1 b hb).2.1;have hne:∀ b,b<N->some b≠v.ownBlock:=λ b hb e=>by have:=hge b e.symm;omega
 have hsz:=hg.size;refine⟨(hg.block rp (a0g h.lr) (hne _ (by omega))).trans h.lr,?_,h.dec.out (Only.of_grown hg (λ b hb=>.inr (.inr hb))) (λ g hgo=>?_),hr,Nat.le_trans h.size hsz⟩
 · obtain⟨g,cc,a0,a1,a2⟩:=h.rd.ex;refine⟨g,cc,a0,(hg.block p (a0g a1) (hne _ (by omega))).trans a1,Kd.R_mono (Kd.R_step (Kd.R_tight2 rfl a2) (λ b hb hlt=>hg.block b hlt ?_)) (λ b hb=>hb.2)⟩;have:b=g:=Option.some.inj hb.1;exact hne b (by omega)
 · rcases hgo with rfl | rfl | hgo
   · exact⟨.inl (.inl rfl),by obtain⟨g,cc,a0,a1,a2⟩:=h.rd.ex;have:=a0g a1;omega⟩
   · exact⟨.inl (.inr (.inl rfl)),by have:=a0g h.lr;omega⟩
   · refine⟨?_,((Kd.R_bound hr).1 g hgo).2.2.1⟩;rcases hat with e | ⟨b,e,hb⟩
     · exact .inl (.inr (.inr (by rw[<- e];exact hgo)))
     · rw[e] at hgo;cases hgo;exact .inr hb
theorem c2r {lg:Int} {one:Bool} {A:Option Addr} {c:Nat} {qs:List (List Int)} {tb me md rp p:Nat} {ps:List Int} {w0:World} {N k:Nat} {f:Int->Option Value} {v:Value} {out:List Int} {x0 x1:Int} {left:Nat} {w2:World} (h:RdRel lg one A c qs tb me md rp p ps w0 N k f v out x0 x1 left w2):(Kd.int .u8).R 5 w2 N (λ _=>True) v out/\N<=w2.heap.size:=⟨h.out,h.size⟩
theorem a9p {one:Bool} {qs:List (List Int)} {ps:List Int} {n i lf:Nat} {la y0 y1:Int} {out:List Int} (h:(cellsOf (qs.getD (listI one la) [])).length=0):decGo one qs ps (n+1) i la y0 y1 lf out=(13,[]):=by
 simp only[decGo];rw[if_pos h]
theorem a9q {one:Bool} {qs:List (List Int)} {ps:List Int} {n i lf x b:Nat} {la y0 y1 s bs:Int} {out:List Int} (h:(cellsOf (qs.getD (listI one la) [])).length≠0) (hx:pick2 (i%2) y0 y1=x) (he:(cellsOf (qs.getD (listI one la) [])).getD x z3=(s,(b:Int),bs)) (hb:¬ b<=lf):decGo one qs ps (n+1) i la y0 y1 lf out=(3,[]):=by
 simp only[decGo];rw[if_neg h,hx,Int.toNat_natCast,he,if_pos (by show lf<(b:Int).toNat;omega)]
theorem a7b {one:Bool} {qs:List (List Int)} {ps:List Int} {n i lf x b:Nat} {la y0 y1 s bs:Int} {out:List Int} (h:(cellsOf (qs.getD (listI one la) [])).length≠0) (hx:pick2 (i%2) y0 y1=x) (he:(cellsOf (qs.getD (listI one la) [])).getD x z3=(s,(b:Int),bs)) (hb:b<=lf) :
    decGo one qs ps (n+1) i la y0 y1 lf out=decGo one qs ps n (i+1) s (set2 (i%2) y0 y1 (bs+takeV ps lf b)).1 (set2 (i%2) y0 y1 (bs+takeV ps lf b)).2 (lf-b) (out++[s]):=by
 simp only[decGo];rw[if_neg h,hx,Int.toNat_natCast,he,if_neg (by show ¬ lf<(b:Int).toNat;omega)];rfl
theorem a7c {t:Nat} {y0 y1 y M:Int} (h0:0<=y0/\y0<M) (h1:0<=y1/\y1<M) (hy:0<=y/\y<M):(0<=(set2 t y0 y1 y).1/\(set2 t y0 y1 y).1<M)/\(0<=(set2 t y0 y1 y).2/\(set2 t y0 y1 y).2<M):=by
 unfold set2;split
 · exact⟨hy,h1⟩
 · exact⟨h0,hy⟩
theorem c2s (lg:Int) (one:Bool) (A:Option Addr) (c:Nat) (qs:List (List Int)) (tb me md rp p:Nat) (ps:List Int) (x0 x1:Int) (left n:Nat) (w0 w:World) (hrd:kq.C w0 A qs.length qs) (hrt:a0A lg one qs=true) (hpl:RdPl tb md rp p w.heap.size w0)
    (h:RdRel lg one A c qs tb me md rp p ps w0 w.heap.size 0 (λ _=>none) (.slice none 0 0) [] x0 x1 left w) (hps:∀ x∈ps,0<=x/\x<256) (hl:left<=8*ps.length) (hl2:ps.length<=1000000) (hx0:0<=x0/\x0<2^lg.toNat) (hx1:0<=x1/\x1<2^lg.toNat) (hn:n<=200000) :
    Calls Tryz.prog 118 #[.pointer (some ⟨rp,0,none⟩),.int .i64 n,.func (.func 120) #[.pointer (some ⟨tb,0,none⟩)] #[]] w (ReadPost (decGo one qs ps n 0 0 x0 x1 left []) w0):=by
 have hu62:=Tryz.underlying153;have HRD:=Lib.hid hrd;have HRT:=Lib.hid hrt;have HPL:=Lib.hid hpl;have HH:=Lib.hid h;have HP:=Lib.hid (And.intro hps (And.intro hl hl2));have HX:=Lib.hid (And.intro hx0 hx1);obtain⟨R,hR⟩:∃ R,R=decGo one qs ps n 0 0 x0 x1 left []:=⟨_,rfl⟩;rw[<- hR];have HR:=Lib.hid hR;clear hrd hrt hpl h hps hl hl2 hx0 hx1 hR;have HSZ:=Lib.hid HH.out.dec.below.size;obtain⟨N,hN⟩:∃ N,N=w.heap.size:=⟨_,rfl⟩;rw[<- hN] at HPL HH HSZ;clear hN;go_enter Tryz.func118,Tryz.ntmps118;go_wp2_with fail;go_loopw [8,9,14] (λ v last kv wr=>∃ (k la:Nat) (f:Int->Option Value) (out:List Int) (y0 y1:Int) (lf:Nat),kv=.int .i64 k/\k<=n/\last=.int .u8 la/\Hid (la<256/\RdRel lg one A c qs tb me md rp p ps w0 N k f v out y0 y1 lf wr/\R=decGo one qs ps (n-k) k la y0 y1 lf out/\lf<=left/\out.length=k/\(0<=y0/\y0<2^lg.toNat)/\(0<=y1/\y1<2^lg.toNat))) (λ _ _ kv _=>n-(intOf kv).toNat)
 case atStart=>exact⟨0,0,λ _=>none,[],x0,x1,left,rfl,by omega,rfl,by omega,HH.out,HR.out,Nat.le_refl _,rfl,HX.out.1,HX.out.2⟩
 case round=>
  obtain⟨k,la,f,out,y0,y1,lf,rfl,hk,rfl,H⟩:=hrel
  by_cases hlt:k<n
  · have hla:la<256:=H.out.1;obtain⟨j,hj⟩:∃ j,j=listI one (la:Int):=⟨_,rfl⟩;have hjl:listI one (la:Int)<qs.length:=a9f HRT.out (by omega);have HD:=Lib.hid (c1Q lg one A c qs tb me md k la f _ w0 wr HRD.out H.out.2.1.dec (by omega) (by omega) hjl);rw[<- hj] at HD;have HJ:=Lib.hid hj;obtain⟨t,htt⟩:∃ t,t=k%2:=⟨_,rfl⟩;have hk2:(k:Int)%2=(t:Int):=by omega
    have HT:Hid (t=k%2/\t<2):=⟨htt,by omega⟩;clear htt;clear hj hjl;go_wp2_with fail;refine HD.out.mono ?_;rintro e w1 hp;obtain⟨f',vc,rfl,hm⟩:=c2o HPL.out H.out.2.1 hp;obtain⟨A1,c1,rfl⟩:=Kd.R_slice hm.row;have HM:=Lib.hid hm;have hrc:=a7a HRT.out j;obtain⟨cs,hcs⟩:∃ cs,cs=cellsOf (qs.getD j []):=⟨_,rfl⟩;have HCS:=Lib.hid hcs;have hrow:=hm.row;rw[<- hcs] at hrow hrc ⊢;have HROW:=Lib.hid hrow;clear hp hm hcs hrow
    by_cases hz:cs.length=0
    · have HE:Hid (R=(13,[])):=by
        show _=_
        rw[H.out.2.2.1,show n-k=(n-k-1)+1 by omega];exact a9p (by rw[<- HJ.out,<- HCS.out];exact hz)
      rw[hz];clear hz hrc;go_wp2_with fail;refine(c2l _ _ _ _ _).mono ?_;rintro e w' ⟨rfl,rfl⟩;go_wp2_with fail;go_ret2;rw[HE.out];exact⟨⟨_,rfl,Kd.R_nil _ _ _ _ _⟩,HM.out.r.dec.below⟩
    · obtain⟨hq1,hq2,hq3,hq4⟩:=hrc.resolve_left hz
      have hpr:0<=pick2 t y0 y1/\pick2 t y0 y1<2^lg.toNat:=by
       unfold pick2;split
       · exact H.out.2.2.2.2.2.1
       · exact H.out.2.2.2.2.2.2
      obtain⟨x,hx⟩:∃ x:Nat,pick2 t y0 y1=x:=⟨(pick2 t y0 y1).toNat,by omega⟩;have e2:(2:Int)^lg.toNat=((2^lg.toNat:Nat):Int):=by simp
      have hlq:logC (qs.getD j [])=lg.toNat:=by omega
      have hxl:x<cs.length:=by rw[hx,e2] at hpr;omega
      have hca:=a6Z hq1 x (by rw[hlq];omega);rw[<- a4L hq1 x (by rw[hlq];omega),<- hq3] at hca;obtain⟨⟨s,bI,bs⟩,hce⟩:∃ t:K3,t=cs.getD x z3:=⟨_,rfl⟩;rw[<- hce] at hca;obtain⟨a1,a2,⟨b,a3,a4,a5⟩,a6,a7⟩:=hca;simp only at a1 a2 a3 a4 a5 a6 a7;subst a3;obtain⟨s,rfl⟩:∃ s':Nat,s=s':=⟨s.toNat,by omega⟩
      have hll:cs.length<=100000:=by
       have h12:=(a1T HRT.out).2.1;have:2^lg.toNat<=2^12:=Nat.pow_le_pow_right (by omega) (by omega);omega
      have hs256:s<256:=by omega
      have HC:=Lib.hid (And.intro hx (And.intro hxl (And.intro hll (And.intro hce.symm (And.intro (And.intro a6 a7) (And.intro hz (And.intro a4 a5)))))));have HRR:=Lib.hid HM.out.r;clear hrc hq1 hq2 hq3 hq4 hpr hx hlq hce a1 a2 a4 a5 a6 a7 hz hll hxl e2
      by_cases hle:b<=lf
      · have HY:=Lib.hid hle
        have HE:Hid (R=decGo one qs ps (n-(k+1)) (k+1) s (set2 t y0 y1 (bs+takeV ps lf b)).1 (set2 t y0 y1 (bs+takeV ps lf b)).2 (lf-b) (out++[(s:Int)])):=by
         show _=_
         rw[H.out.2.2.1,show n-k=(n-(k+1))+1 by omega,HT.out.1];exact a7b (by rw[<- HJ.out,<- HCS.out];exact HC.out.2.2.2.2.2.1) (by rw[<- HT.out.1];exact HC.out.1) (by rw[<- HJ.out,<- HCS.out];exact HC.out.2.2.2.1) hle
        have HRG:Hid (0<=bs+(takeV ps lf b:Int)/\bs+(takeV ps lf b:Int)<2^lg.toNat):=by
         have h1:=a2d ps lf b;have h2:=HC.out.2.2.2.2.2.2.2;have h3:=HC.out.2.2.2.2.1;have e1:(2:Int)^b=((2^b:Nat):Int):=by simp
         have hlq:logC (qs.getD j [])=lg.toNat:=by have:=(a7a HRT.out j);rw[<- HCS.out] at this;have:=this.resolve_left HC.out.2.2.2.2.2.1;omega
         rw[e1,hlq] at h2;exact⟨by omega,by omega⟩
        clear hle;go_wp2_with fail;refine(c2j w0.heap.size rp p ps lf t x b y0 y1 s bs cs A1 c1 w0.heap.size w1 HRR.out.lr HRR.out.rd HROW.out HP.out.1 (by have:=HP.out.2.1;have:=H.out.2.2.2.1;omega) HP.out.2.2 (by have:=HPL.out.pr;omega) HT.out.2 HC.out.1 HC.out.2.1 HC.out.2.2.1 HC.out.2.2.2.1 (by have:=HC.out.2.2.2.2.2.2.1;omega) HC.out.2.2.2.2.1 HY.out).mono ?_;rintro e w2 ⟨rfl,hnp⟩;have HR2:=Lib.hid (c2p HPL.out HM.out hnp);clear hnp;have HB2:=Lib.hid (c2r HR2.out);have HLn:Hid ((out.length+1)*1<=140737488355328):=by show _<=_;have:=H.out.2.2.2.2.1;omega
        go_wp2_with (at_builtin;refine Kd.R_append (Kd.int .u8) (w0:=w2) (W:=w2) N rfl (.tmp 31) (.tmp 33) 22 5 (.int .u8 0) 1 rfl Tryz.underlying22 a0I rfl (by decide) (by decide) _ _ (s:Int) [.int .u8 s] (λ _=>True) (λ _=>False) rfl rfl rfl (λ _ h=>h.elim) (λ _ _=>trivial) HB2.out.1 (Below.refl _ _) HB2.out.2 HLn.out ?_;intro v1 w3 hr3 hb3 hg3 hat3;have HA:=Lib.hid (c2q HPL.out HR2.out hr3 hg3 hat3);clear hr3 hb3 hg3 hat3);go_roundw
        case rel=>
         refine⟨k+1,s,f',out++[(s:Int)],(set2 t y0 y1 (bs+takeV ps lf b)).1,(set2 t y0 y1 (bs+takeV ps lf b)).2,lf-b,by go_num,by omega,rfl,hs256,HA.out,HE.out,by have:=H.out.2.2.2.1;omega,by rw[List.length_append,H.out.2.2.2.2.1];rfl,?_⟩;exact a7c H.out.2.2.2.2.2.1 H.out.2.2.2.2.2.2 HRG.out
        case measure=>simp[intOf];omega
      · have HY:=Lib.hid hle
        have HE:Hid (R=(3,[])):=by
         show _=_
         rw[H.out.2.2.1,show n-k=(n-(k+1))+1 by omega];exact a9q (by rw[<- HJ.out,<- HCS.out];exact HC.out.2.2.2.2.2.1) (by rw[<- HT.out.1];exact HC.out.1) (by rw[<- HJ.out,<- HCS.out];exact HC.out.2.2.2.1) hle
        clear hle;go_wp2_with fail;refine(c2k w0.heap.size rp p ps lf t x b y0 y1 s bs cs A1 c1 w0.heap.size w1 HRR.out.lr HRR.out.rd HROW.out HP.out.1 (by have:=HP.out.2.1;have:=H.out.2.2.2.1;omega) HP.out.2.2 (by have:=HPL.out.pr;omega) HT.out.2 HC.out.1 HC.out.2.1 HC.out.2.2.2.1 (by have:=HC.out.2.2.2.2.2.2.1;omega) HY.out).mono ?_;rintro e w2 ⟨rfl,hb2⟩;have HB2:Hid (Below w0.heap.size w0 w2):=HRR.out.dec.below.trans (hb2.mono HRR.out.dec.below.size);clear hb2;go_wp2_with fail;go_ret2;rw[HE.out];exact⟨⟨_,rfl,Kd.R_nil _ _ _ _ _⟩,HB2.out⟩
  · obtain rfl:k=n:=by omega
    have hc0:wr.cell? ⟨rp,0,none⟩=some (.pointer (some ⟨p,0,none⟩)):=(a0a H.out.2.1.lr 0).trans rfl;have hc1:wr.cell? ⟨rp,1,none⟩=some (.int .i64 y0):=(a0a H.out.2.1.lr 1).trans rfl;have hc2:wr.cell? ⟨rp,2,none⟩=some (.int .i64 y1):=(a0a H.out.2.1.lr 2).trans rfl;have heq:=c2n y0 y1 0 0 wr;have HLft:=Lib.hid (c1W w0.heap.size p ps lf wr H.out.2.1.rd);have HBw:=Lib.hid H.out.2.1.dec.below
    by_cases hz:y0=0/\y1=0
    · rw[show((y0==0)&&(y1==0))=true by rw[hz.1,hz.2];rfl] at heq
      by_cases hl0:lf=0
      · have HE:Hid (R=(0,out)):=by
          show _=_
          rw[H.out.2.2.1,Nat.sub_self];simp only[decGo];rw[if_pos ⟨hz.1,hz.2,hl0⟩]
        have HO:Hid ((Kd.int .u8).R 5 wr w0.heap.size (λ _=>True) u8 out):=by
         show Kd.R _ _ _ _ _ _ _
         exact Kd.R_lower H.out.2.1.out HSZ.out
        have hlb:((0:Int)<(lf:Int))=False:=by simp;omega
        have hlb2:¬ 0<lf:=by omega
        clear hz hl0;go_wp2_with fail;refine HLft.out.mono ?_;rintro e w' ⟨rfl,rfl⟩;go_wp2_with fail;go_ret2;rw[HE.out];exact⟨⟨_,rfl,HO.out⟩,HBw.out⟩
      · have HE:Hid (R=(14,[])):=by
          show _=_
          rw[H.out.2.2.1,Nat.sub_self];simp only[decGo];rw[if_neg (λ e=>hl0 e.2.2)]
        have hlb2:0<lf:=by omega
        clear hz hl0;go_wp2_with fail;refine HLft.out.mono ?_;rintro e w' ⟨rfl,rfl⟩;go_wp2_with fail;go_ret2;rw[HE.out];exact⟨⟨_,rfl,Kd.R_nil _ _ _ _ _⟩,HBw.out⟩
    · rw[show((y0==0)&&(y1==0))=false by simp;intro e;exact λ e2=>hz ⟨e,e2⟩] at heq
      have HE:Hid (R=(14,[])):=by
       show _=_
       rw[H.out.2.2.1,Nat.sub_self];simp only[decGo];rw[if_neg (λ e=>hz ⟨e.1,e.2.1⟩)]
      clear hz;go_wp2_with fail;go_ret2;rw[HE.out];exact⟨⟨_,rfl,Kd.R_nil _ _ _ _ _⟩,HBw.out⟩
def qAt (one:Bool) (qs:List (List Int)) (b:List Int) (i:Nat):List Int:=qs.getD (listI one (ctxI b i)) []
def encN (one:Bool) (qs:List (List Int)) (b:List Int):Nat->(Int×Int)×List Bool
 | 0=>((0,0),[])
 | k+1=>
  let r:=encN one qs b k
  let i:=b.length-1-k
  let x:=if i%2=0 then r.1.1 else r.1.2
  let y:=a1s (qAt one qs b i) x (b.getD i 0)
  (if i%2=0 then (y,r.1.2) else (r.1.1,y),r.2++a0k (a1w (qAt one qs b i) x (b.getD i 0)) (a0F (qAt one qs b i) x (b.getD i 0)))
def a0R (lg:Int) (one:Bool) (qs:List (List Int)) (b:List Int):List Bool:=
 let r:=encN one qs b b.length
 r.2++a0k r.1.2.toNat lg.toNat++a0k r.1.1.toNat lg.toNat
theorem a9r {q:List Int} (h:logC q≠0) (s:Int) (k:Nat):0<=(a1k q s).getD k 0/\(a1k q s).getD k 0<2^logC q:=by
 have hp:(1:Int)<=2^logC q:=(a1K (a1M _)).1;rw[List.getD_eq_getElem?_getD]
 by_cases hk:k<(a1k q s).length
 · rw[List.getElem?_eq_getElem hk,Option.getD_some];have hm:(a1k q s)[k]∈a1k q s:=List.getElem_mem hk;obtain⟨z,hz⟩:∃ z,z=(a1k q s)[k]:=⟨_,rfl⟩;rw[<- hz] at hm ⊢;unfold a1k posN at hm;obtain⟨j,hj,e⟩:=List.mem_map.1 hm;have hj2:=List.mem_range.1 (List.mem_filter.1 hj).1;rw[a1Q h] at hj2;rw[<- e];have e2:(2:Int)^logC q=((2^logC q:Nat):Int):=by simp
   rw[e2]
   constructor
   · exact Int.natCast_nonneg j
   · show(j:Int)<_;omega
 · rw[List.getElem?_eq_none (by omega)];simp;omega
theorem a4M {lg:Int} {one:Bool} {qs:List (List Int)} {b:List Int} (h:fitsM lg one qs b=true) (hb:Bytes b) (i:Nat) (hi:i<b.length):logC (qAt one qs b i)≠0/\(logC (qAt one qs b i):Int)=lg/\0<cntC (qAt one qs b i) (b.getD i 0):=by
 unfold fitsM at h;simp only[Bool.and_eq_true,List.all_eq_true,List.mem_range] at h;obtain⟨h1,h2⟩:=h;have h3:=h2 i hi;unfold fitAt at h3;simp only[decide_eq_true_eq] at h3;have h4:=a6U h1 _ h3.1;refine⟨h4.1,h4.2,?_⟩;have hx:=hb.get i;obtain⟨x,hxe⟩:∃ x:Nat,b.getD i 0=x:=⟨(b.getD i 0).toNat,by omega⟩;have hg:=a1A h4.1;have h5:=a1R hg x;have h6:=(hg.get x).1;have h7:=h3.2;unfold qAt;rw[hxe] at h7 ⊢;simp only[Int.toNat_natCast] at h7;rw[h5];omega
theorem a4N {lg:Int} {one:Bool} {qs:List (List Int)} {b:List Int} (h:fitsM lg one qs b=true) (hb:Bytes b):∀ k,k<=b.length->0<=(encN one qs b k).1.1/\(encN one qs b k).1.1<2^lg.toNat/\0<=(encN one qs b k).1.2/\(encN one qs b k).1.2<2^lg.toNat
 | 0,_=>by
  have:(1:Int)<=2^lg.toNat:=by
   have:=Nat.two_pow_pos lg.toNat;have e:(2:Int)^lg.toNat=((2^lg.toNat:Nat):Int):=by simp
   omega
  simp[encN];omega
 | k+1,hk=>by
  have ih:=a4N h hb k (by omega);have hf:=a4M h hb (b.length-1-k) (by omega);have hp:=a9r hf.1 (b.getD (b.length-1-k) 0);have e:lg.toNat=logC (qAt one qs b (b.length-1-k)):=by omega
  simp only[encN];rw[e] at ih ⊢
  split
  · exact⟨(hp _).1,(hp _).2,ih.2.2.1,ih.2.2.2⟩
  · exact⟨ih.1,ih.2.1,(hp _).1,(hp _).2⟩
theorem a4O {lg:Int} {one:Bool} {qs:List (List Int)} {b:List Int} (h:fitsM lg one qs b=true) (hb:Bytes b):∀ k,k<=b.length->(encN one qs b k).2.length<=17*k
 | 0,_=>by simp[encN]
 | k+1,hk=>by
  have ih:=a4O h hb k (by omega);have hf:=a4M h hb (b.length-1-k) (by omega);have hr:=a4N h hb k (by omega);simp only[encN,List.length_append,a0J];have e:lg.toNat=logC (qAt one qs b (b.length-1-k)):=by omega
  have hx:∀ x:Int,0<=x->x<2^lg.toNat->a0F (qAt one qs b (b.length-1-k)) x (b.getD (b.length-1-k) 0)<=17:=λ x h0 h1=>by
   unfold a0F a0Z;have hc:=a4J hf.1 (b.getD (b.length-1-k) 0);have hp:=a1K (r:=logC (qAt one qs b (b.length-1-k))) (a1M _);rw[e] at h1;have e2:(2:Int)^logC (qAt one qs b (b.length-1-k))=((2^logC (qAt one qs b (b.length-1-k)):Nat):Int):=by simp
   rw[e2] at hp h1;exact(a6O hf.2.2 (by omega) (by omega)).2.2
  have:=hx (if (b.length-1-k)%2=0 then (encN one qs b k).1.1 else (encN one qs b k).1.2) (by split;exact hr.1;exact hr.2.2.1) (by split;exact hr.2.1;exact hr.2.2.2);omega
structure WMid (lg:Int) (one:Bool) (A:Option Addr) (c:Nat) (qs:List (List Int)) (b:List Int) (tb me md p xb:Nat) (w0:World) (k:Nat) (v:Value) (f:Int->Option Value) (wr:World):Prop where
 wv:WrVal wr w0.heap.size p v (encN one qs b k).2
 enc:EncInv lg one A c qs tb me md (k+1) f (λ g=>g=p\/v.ownBlock=some g\/g=xb) w0 wr
 xs:wr.heap[xb]?=some (.cells #[.int .i64 (encN one qs b k).1.1,.int .i64 (encN one qs b k).1.2] 153 (0,0))
 ne:xb≠p/\v.ownBlock≠some xb
structure WRel (lg:Int) (one:Bool) (A:Option Addr) (c:Nat) (qs:List (List Int)) (b:List Int) (tb me md p xb:Nat) (w0:World) (k:Nat) (v:Value) (f:Int->Option Value) (wr:World):Prop where
 wv:WrVal wr w0.heap.size p v (encN one qs b k).2
 enc:EncInv lg one A c qs tb me md k f (λ g=>g=p\/v.ownBlock=some g\/g=xb) w0 wr
 xs:wr.heap[xb]?=some (.cells #[.int .i64 (encN one qs b k).1.1,.int .i64 (encN one qs b k).1.2] 153 (0,0))
 ne:xb≠p/\v.ownBlock≠some xb
theorem EncInv.drew {lg:Int} {one:Bool} {A:Option Addr} {c:Nat} {qs:List (List Int)} {tb me md n:Nat} {f:Int->Option Value} {Out:Nat->Prop} {w0 w:World} (h:EncInv lg one A c qs tb me md n f Out w0 w):EncInv lg one A c qs tb me md n f Out w0 w.drew:=
 ⟨h.blk,h.mp,h.mlt,h.below.drew,h.mge,h.oge,λ i hi v hv=>by obtain⟨t,lo,hi2,a,b,d,e⟩:=h.ent i hi v hv;exact⟨t,lo,hi2,a,b.agree (λ _ _ _=>rfl),d,e⟩,h.ne⟩
theorem EncInv.out {lg:Int} {one:Bool} {A:Option Addr} {c:Nat} {qs:List (List Int)} {tb me md n:Nat} {f:Int->Option Value} {Out Out':Nat->Prop} {w0 w w':World} (h:EncInv lg one A c qs tb me md n f Out w0 w) (ho:Only Out w w') (hs:∀ g,Out' g->(Out g\/w.heap.size<=g)/\g<w'.heap.size):EncInv lg one A c qs tb me md n f Out' w0 w':=by
 have hsz:=ho.size;have hw:=h.below.size;refine⟨?_,?_,by have:=h.mlt;omega,?_,h.mge,?_,?_,?_⟩
 · rw[ho.block tb (a0g h.blk) h.ne.1];exact h.blk
 · rw[ho.block me h.mlt h.ne.2.1];exact h.mp
 · exact h.below.trans (ho.below hw (λ k hk=>(h.oge k hk).1))
 · intro g hg;refine⟨?_,(hs g hg).2⟩;rcases (hs g hg).1 with x | x
   · exact(h.oge g x).1
   · omega
 · intro i hi v hv;obtain⟨t,lo,hi2,a,b,d,e⟩:=h.ent i hi v hv;refine⟨t,lo,hi2,a,b.agree (λ k k1 k2=>ho.block k (by omega) (e k k1 k2).1),by omega,λ g g1 g2=>⟨λ hg=>?_,(e g g1 g2).2⟩⟩;rcases (hs g hg).1 with x | x
   · exact(e g g1 g2).1 x
   · omega
 · refine⟨λ hg=>?_,λ hg=>?_,h.ne.2.2⟩
   · rcases (hs tb hg).1 with x | x
     · exact h.ne.1 x
     · have:=a0g h.blk;omega
   · rcases (hs me hg).1 with x | x
     · exact h.ne.2.1 x
     · have:=h.mlt;omega
theorem b3S {lg:Int} {one:Bool} {A:Option Addr} {c:Nat} {qs:List (List Int)} {b:List Int} {tb me md p k:Nat} {w0 w2 w3:World} {v v':Value} {f:Int->Option Value} {bs:List Bool} (h:WMid lg one A c qs b tb me md p (p+1) w0 k v f w2)
    (hP:WrVal w3 w0.heap.size p v' bs/\(v'.ownBlock=v.ownBlock\/∃ b,v'.ownBlock=some b/\w2.heap.size<=b)/\Only (λ k=>k=p\/v.ownBlock=some k) w2 w3) :
    WrVal w3 w0.heap.size p v' bs/\EncInv lg one A c qs tb me md (k+1) f (λ g=>g=p\/v'.ownBlock=some g\/g=p+1) w0 w3 /\
     w3.heap[p+1]?=some (.cells #[.int .i64 (encN one qs b k).1.1,.int .i64 (encN one qs b k).1.2] 153 (0,0))/\(p+1≠p/\v'.ownBlock≠some (p+1)):=by
 obtain⟨h1,h2,h3⟩:=hP;have hx:=a0g h.xs;have hx3:w3.heap[p+1]?=w2.heap[p+1]?:=h3.block (p+1) hx (λ e=>by rcases e with e | e;omega;exact h.ne.2 e);refine⟨h1,h.enc.out (h3.mono (λ g _ hg=>by rcases hg with x | x;exact .inl x;exact .inr (.inl x))) (λ g hg=>?_),hx3.trans h.xs,by omega,?_⟩
 · have hsz:=h3.size;rcases hg with rfl | hg | rfl
   · exact⟨.inl (.inl rfl),by have:=a0g h1.blk;omega⟩
   · refine⟨?_,((Kd.R_bound h1.row).1 g hg).2.2.1⟩;rcases h2 with e | ⟨g',e,hge⟩
     · exact .inl (.inr (.inl (by rw[<- e];exact hg)))
     · rw[e] at hg;cases hg;exact .inr hge
   · exact⟨.inl (.inr (.inr rfl)),by omega⟩
 · rcases h2 with e | ⟨g',e,hge⟩
   · rw[e];exact h.ne.2
   · rw[e];intro x;cases x;omega
theorem c2u {lg:Int} {one:Bool} {A:Option Addr} {c:Nat} {qs:List (List Int)} {B:List Int} {tb me md:Nat} {w0 w w1:World} (h:EncInv lg one A c qs tb me md 0 (λ _=>none) (λ _=>False) w0 w) (_:w1=w.alloc (.cells #[.slice none 0 0,.int .i64 0] 229)) :
    WRel lg one A c qs B tb me md w.heap.size (w.heap.size+1) w0 0 (.slice none 0 0) (λ _=>none) ((w.alloc (.cells #[.slice none 0 0,.int .i64 0] 229)).alloc (.cells #[.int .i64 0,.int .i64 0] 153)):=by
 have hsz:=h.below.size;have e:(w.alloc (.cells #[.slice none 0 0,.int .i64 0] 229)).heap.size=w.heap.size+1:=by simp
 have e2:((w.alloc (.cells #[.slice none 0 0,.int .i64 0] 229)).alloc (.cells #[.int .i64 0,.int .i64 0] 153)).heap.size=w.heap.size+2:=by simp
 have hb:Below w.heap.size w ((w.alloc (.cells #[.slice none 0 0,.int .i64 0] 229)).alloc (.cells #[.int .i64 0,.int .i64 0] 153)):=((Below.refl _ _).alloc (Nat.le_refl _) _).alloc (by omega) _;refine⟨⟨a0o (a0i w _) _,by show Kd.R _ _ _ _ _ _ (packB []);rw[show packB []=[] from rfl];exact Kd.R_nil _ _ _ _ _⟩,h.out (Only.of_below hb) (λ g hg=>?_),?_,by omega,by simp[Value.ownBlock]⟩
 · rcases hg with rfl | hg | rfl
   · exact⟨.inr (Nat.le_refl _),by omega⟩
   · simp[Value.ownBlock] at hg
   · exact⟨.inr (by omega),by omega⟩
 · have:=a0i (w.alloc (.cells #[.slice none 0 0,.int .i64 0] 229)) (.cells #[.int .i64 0,.int .i64 0] 153);rw[e] at this;exact this
theorem a2V {lg:Int} {one:Bool} {qs:List (List Int)} {b:List Int} (h:fitsM lg one qs b=true):a0A lg one qs=true:=by
 unfold fitsM at h;simp only[Bool.and_eq_true] at h;exact h.1
theorem b3T {lg:Int} {one:Bool} {A:Option Addr} {c:Nat} {qs:List (List Int)} {b:List Int} {tb me md p k i ln:Nat} {w0 wr w1:World} {v u1 u2:Value} {f:Int->Option Value} {ad:Addr} (h:WRel lg one A c qs b tb me md p (p+1) w0 k v f wr) (hl:ad.block<w0.heap.size)
    (ho:Only (λ g=>g=me) wr.drew w1) (h1:wr.cell? ⟨p+1,ln,none⟩=some u1) (h2:wr.cell? (ad.add i)=some u2):w1.cell? ⟨p+1,ln,none⟩=some u1/\w1.cell? (ad.add i)=some u2:=by
 have hw:=h.enc.below.size;have hm:=h.enc.mge;have hab:(ad.add i).block=ad.block:=by simp only[Addr.add];split <;> rfl
 have e:∀ (a:Addr) u,a.block<wr.heap.size->a.block≠me->wr.cell? a=some u->w1.cell? a=some u:=λ a u ha hne hu=>(World.cell?_of_block (ho.block a.block ha hne)).trans hu;exact⟨e _ _ (a0g h.xs) (λ x=>h.enc.ne.2.1 (.inr (.inr x.symm))) h1,e _ _ (by rw[hab];omega) (by rw[hab];omega) h2⟩
theorem b3U {lg:Int} {one:Bool} {A:Option Addr} {c:Nat} {qs:List (List Int)} {b:List Int} {tb me md p k:Nat} {w0 wr w1 w2:World} {v:Value} {f f':Int->Option Value} (h:WRel lg one A c qs b tb me md p (p+1) w0 k v f wr)
    (hE:EncInv lg one A c qs tb me md (k+1) f' (λ g=>g=p\/v.ownBlock=some g\/g=p+1) w0 w1) (ho:Only (λ g=>g=me) wr.drew w1) (hb:Below w1.heap.size w1 w2):WMid lg one A c qs b tb me md p (p+1) w0 k v f' w2:=by
 have hne:=h.enc.ne.2.1;have hk:∀ g,g<wr.heap.size->g≠me->w2.heap[g]?=wr.heap[g]?:=λ g hg hn=>(hb.block g (Nat.lt_of_lt_of_le hg ho.size)).trans (ho.block g hg hn);have hp:=a0g h.wv.blk;have hx:=a0g h.xs;refine⟨⟨by rw[hk p hp (λ e=>hne (.inl e.symm))];exact h.wv.blk,?_⟩,hE.out (Only.of_below hb) (λ g hg=>⟨.inl hg,by have:=(hE.oge g hg).2;have:=hb.size;omega⟩),by rw[hk (p+1) hx (λ e=>hne (.inr (.inr e.symm)))];exact h.xs,h.ne⟩;refine Kd.R_mono (Kd.R_step (Kd.R_tight2 rfl h.wv.row) (λ g hg hlt=>hk g hlt (λ e=>hne (.inr (.inl (by rw[<- e];exact hg.1.symm))))) ) (λ g hg=>hg.2)
theorem wr_n {q:List Int} {x s:Int} {N:Nat} {lg:Int} (hN:N=a0F q x s) (hf:logC q≠0/\(logC q:Int)=lg/\0<cntC q s) (hx:0<=x/\x<2^lg.toNat) (hl:lg.toNat=logC q):N<=24:=by
 rw[hN];unfold a0F a0Z;have hc:=a4J hf.1 s;have hp:=a1K (r:=logC q) (a1M _);rw[hl] at hx;have e2:(2:Int)^logC q=((2^logC q:Nat):Int):=by simp
 rw[e2] at hp hx;have:=(a6O hf.2.2 (show cntC q s<=2^logC q+x.toNat by omega) (by omega)).2.2;omega
theorem wr_l {q:List Int} {x s:Int} {N L:Nat} (hN:N=a0F q x s) (hL:L=a1w q x s) (h:N<=24):L<4294967296:=by
 rw[hL];unfold a1w;rw[<- hN];have h1:=Nat.mod_lt (a0Z q x) (Nat.two_pow_pos N);have h2:2^N<=2^24:=Nat.pow_le_pow_right (by omega) h;omega
theorem b3V {lg:Int} {one:Bool} {A:Option Addr} {c:Nat} {qs:List (List Int)} {b:List Int} {tb me md p k n i N L:Nat} {x s Y:Int} {w0 w3:World} {v':Value} {f:Int->Option Value} (hn:n=i%2) (hi:i=b.length-1-k)
    (hx:x=if i%2=0 then (encN one qs b k).1.1 else (encN one qs b k).1.2) (hs:s=b.getD i 0) (hN:N=a0F (qAt one qs b i) x s) (hL:L=a1w (qAt one qs b i) x s) (hY:Y=a1s (qAt one qs b i) x s)
    (hP:WrVal w3 w0.heap.size p v' ((encN one qs b k).2++a0k L N)/\EncInv lg one A c qs tb me md (k+1) f (λ g=>g=p\/v'.ownBlock=some g\/g=p+1) w0 w3 /\
     w3.heap[p+1]?=some (.cells #[.int .i64 (encN one qs b k).1.1,.int .i64 (encN one qs b k).1.2] 153 (0,0))/\(p+1≠p/\v'.ownBlock≠some (p+1))) :
    WRel lg one A c qs b tb me md p (p+1) w0 (k+1) v' f (w3.setCell ⟨p+1,n,none⟩ (.int .i64 Y)):=by
 obtain⟨h1,h2,h3,h4⟩:=hP;have hbits:(encN one qs b k).2++a0k L N=(encN one qs b (k+1)).2:=by simp only[encN];rw[<- hi,<- hx,<- hs,<- hL,<- hN]
 rw[hbits] at h1;have hrow:=Kd.R_mono (Kd.R_far (p:=⟨p+1,n,none⟩) (Kd.R_tight2 rfl h1.row) (λ g hg e=>h4.2 (hg.1.symm.trans (congrArg some e))) (.int .i64 Y)) (λ g hg=>hg.2);refine⟨⟨a1v h1.blk (p:=⟨p+1,n,none⟩) (by show p≠p+1;omega) _,hrow⟩,?_,?_,h4⟩
 · exact h2.out ((Only.refl _ _).setCell (p:=⟨p+1,n,none⟩) (.inr (.inr rfl)) _) (λ g hg=>⟨.inl hg,by have:=(h2.oge g hg).2;simpa [World.setCell] using this⟩)
 · rw[a0x h3 n];simp only[encN];rw[<- hi,<- hx,<- hs,<- hY];rcases Nat.mod_two_eq_zero_or_one i with e | e
   · rw[hn,e];rfl
   · rw[hn,e];rfl
theorem c2v (lg:Nat) (one:Bool) (A:Option Addr) (c:Nat) (qs:List (List Int)) (B:Option Addr) (cb:Nat) (b:List Int) (tb me md:Nat) (w0 w:World) (hrd:kq.C w0 A qs.length qs) (hb:(Kd.int .u8).C w0 B b.length b) (hby:Bytes b) (hbl:b.length<=40000)
    (hf:fitsM lg one qs b=true) (h:EncInv lg one A c qs tb me md 0 (λ _=>none) (λ _=>False) w0 w) :
    Calls Tryz.prog 148 #[.slice B b.length cb,.int .i64 lg,.func (.func 149) #[.pointer (some ⟨tb,0,none⟩)] #[]] w λ e w'=>∃ p v,e=.returned (.pointer (some ⟨p,0,none⟩))/\WrVal w' w0.heap.size p v (a0R lg one qs b)/\Below w0.heap.size w0 w':=by
 have hu62:=Tryz.underlying153;have HRD:=Lib.hid hrd;have HBR:=Lib.hid hb;have HX:=Lib.hid (And.intro hby hbl);have HF:=Lib.hid hf;have HH:=Lib.hid h;clear hrd hb hby hbl hf h;go_enter Tryz.func148,Tryz.ntmps148;go_wp2_with fail;refine(a6R w).mono ?_;rintro e w1 ⟨rfl,hw1⟩;go_wp2_with fail;have HR0:=Lib.hid (c2u (B:=b) HH.out hw1);obtain⟨p,hp⟩:∃ p,p=w.heap.size:=⟨_,rfl⟩;obtain⟨W,hW⟩:∃ W,W=(w.alloc (.cells #[.slice none 0 0,.int .i64 0] 229)).alloc (.cells #[.int .i64 0,.int .i64 0] 153):=⟨_,rfl⟩;rw[<- hW] at HR0 ⊢;rw[<- hp] at HR0 ⊢;clear hw1 hW hp;have hb4:=HX.out.2;go_loopw [9] (λ kv wr=>∃ (k:Nat) (v:Value) (f:Int->Option Value),kv=.int .i64 ((b.length:Int)-1-k)/\k<=b.length/\Hid (WRel lg one A c qs b tb me md p (p+1) w0 k v f wr)) (λ kv _=>(intOf kv+1).toNat)
 case atStart=>exact⟨0,.slice none 0 0,λ _=>none,by rw[w64 (n:=(b.length:Int)-1) (by omega)];simp,by omega,HR0.out⟩
 case round=>
  obtain⟨k,v,f,rfl,hk,H⟩:=hrel
  by_cases hlt:k<b.length
  · obtain⟨i,hi⟩:∃ i,i=b.length-1-k:=⟨_,rfl⟩;have hiI:(b.length:Int)-1-k=(i:Int):=by omega
    rw[hiI];have hC:=Kd.C_below HBR.out H.out.enc.below;have hil:i<b.length:=by omega
    obtain⟨ad,rfl,hcs⟩:=a0v hC i hil;have hadl:ad.block<w0.heap.size:=Kd.C_lt HBR.out (by omega) (by decide);have hsr:=HX.out.1.get i;have hcr:=a4m HX.out.1 i hil;have hfit:=a4M HF.out HX.out.1 i hil;have hrg:=a4N HF.out HX.out.1 k hk;have hln:=a4O HF.out HX.out.1 k hk;obtain⟨ln,hln0⟩:∃ ln,ln=i%2:=⟨_,rfl⟩;have hlnI:(i:Int)%2=(ln:Int):=by omega
    obtain⟨x,hx⟩:∃ x,x=if i%2=0 then (encN one qs b k).1.1 else (encN one qs b k).1.2:=⟨_,rfl⟩
    have hxc:wr.cell? ⟨p+1,ln,none⟩=some (.int .i64 x):=by
     rw[a0a H.out.xs ln,hln0,hx];rcases Nat.mod_two_eq_zero_or_one i with e | e <;> rw[e] <;> rfl
    have hxr:0<=x/\x<2^(lg:Int).toNat:=by rw[hx];split;exact⟨hrg.1,hrg.2.1⟩;exact⟨hrg.2.2.1,hrg.2.2.2⟩
    obtain⟨ci,hci⟩:∃ ci:Nat,ctxI b i=ci:=⟨(ctxI b i).toNat,by omega⟩;obtain⟨s,hs⟩:∃ s,s=b.getD i 0:=⟨_,rfl⟩;rw[<- hs] at hcs hsr hfit;have hlgI:(lg:Int).toNat=logC (qAt one qs b i):=by have:=hfit.2.1;omega
    have HCtx:Hid (Calls Tryz.prog 155 #[.slice (some ad) b.length cb,.int .i64 i] wr.drew λ e w'=>e=.returned (.int .i64 ci)/\wr.drew=w'):=by
     show Calls _ _ _ _ _
     have:=a6S (some ad) cb b i wr.drew (Kd.C_drew hC) hil (by omega) HX.out.1;rw[hci] at this;exact this
    have hq0:qs.getD (listI one (ci:Int)) []=qAt one qs b i:=by unfold qAt;rw[hci]
    have HEnc:Hid (Calls Tryz.prog 149 #[.pointer (some ⟨tb,0,none⟩),.int .i64 ci] wr.drew (b3G lg one A c qs tb me md k (λ g=>g=p\/v.ownBlock=some g\/g=p+1) (listI one ci) w0 wr.drew)):=
     c1M lg one A c qs tb me md k ci f _ w0 wr.drew HRD.out H.out.enc.drew (by omega) (by omega) (a9f (a2V HF.out) (by omega)) (by rw[hq0];exact hfit.1)
    have HStep:Hid (∀ w1 t lo hi,EtabAt lo hi w1 t (qs.getD (listI one (ci:Int)) [])->Calls Tryz.prog 199 #[.pointer (some ⟨t,0,none⟩),.int .i64 x,.int .u8 s] w1 (Ret (.tuple #[.int .i64 (a1s (qAt one qs b i) x s),.int .i64 (a0F (qAt one qs b i) x s),.int .u32 (a1w (qAt one qs b i) x s),.bool true]) w1)):=λ w1 t lo hi ht=>by
     rw[hq0] at ht;exact c1g lo hi t _ x s w1 ht hfit.1 hxr.1 (by rw[<- hlgI];exact hxr.2) hsr.1 hsr.2 hfit.2.2
    obtain⟨Y,hY⟩:∃ Y,Y=a1s (qAt one qs b i) x s:=⟨_,rfl⟩;obtain⟨N,hN⟩:∃ N,N=a0F (qAt one qs b i) x s:=⟨_,rfl⟩;obtain⟨L,hL⟩:∃ L,L=a1w (qAt one qs b i) x s:=⟨_,rfl⟩;rw[<- hY,<- hN,<- hL] at HStep;have HY:=Lib.hid (And.intro hY (And.intro hN (And.intro hL (And.intro hx (And.intro hs (And.intro hln0 (And.intro hi (And.intro hfit (And.intro hxr (And.intro hlgI hln))))))))));have HLT:=Lib.hid hadl;have hiL:(i:Int)<(b.length:Int):=by omega
    have hln2:(ln:Int)<2:=by omega
    have h0i:(0:Int)<=(i:Int):=Int.natCast_nonneg i;have h0l:(0:Int)<=(ln:Int):=Int.natCast_nonneg ln;have hii:0<=(i:Int)/\(i:Int)<(b.length:Int):=⟨h0i,hiL⟩;have hll:0<=(ln:Int)/\(ln:Int)<2:=⟨h0l,hln2⟩;have hl2n:ln<2:=by omega
    clear hi hC hcr hrg hln hx hci hs hfit hY hN hL hln0 hq0 hadl hlgI hxr hsr;obtain rfl | rfl:ln=0\/ln=1:=by omega
    · have hpar:(i:Int)%2=0:=by simpa using hlnI
      have htm:(i:Int).tmod 2=0:=by rw[Int.tmod_eq_emod_of_nonneg (by omega)];exact hpar
      clear hlnI hln2 h0l hll hl2n;go_wp2_with fail
      go_region_held3 (λ w'=>w'.cell? ⟨p+1,0,none⟩=some (.int .i64 x)/\w'.cell? (ad.add i)=some (.int .u8 s)) ((repeat' apply And.intro) <;> first | assumption)
       (first
        | (go_at_call 155;refine HCtx.out.mono ?_;rintro e w' ⟨rfl,rfl⟩)
        | (go_at_call 149;refine HEnc.out.mono ?_;rintro e w1 ⟨f',t,lo,hi2,rfl,hE,hT,ho⟩;obtain⟨c1,c2⟩:=b3T H.out HLT.out ho hxc hcs)
        | (go_at_call 199;refine(HStep.out _ _ _ _ hT).mono ?_;rintro e w2 ⟨rfl,hb2⟩;have c3:=a0p hb2 c1;have c4:=a0p hb2 c2))
      all_goals
       have HM:=Lib.hid (b3U H.out hE ho hb2);clear hE hT ho hb2 c1 c2 c3 c4;have hN17:N<=24:=by have:=HY.out;exact wr_n this.2.1 this.2.2.2.2.2.2.2.1 this.2.2.2.2.2.2.2.2.1 this.2.2.2.2.2.2.2.2.2.1
       have hL32:L<4294967296:=wr_l HY.out.2.1 HY.out.2.2.1 hN17;go_wp2_with fail;refine(a2q w0.heap.size p v (encN one qs b k).2 L N w2 HM.out.wv HM.out.enc.below.size (by have:=HY.out.2.2.2.2.2.2.2.2.2.2;omega) hL32 hN17).mono ?_;rintro e w3 ⟨rfl,hp⟩;obtain⟨v',hP⟩:=hp;have HP:=Lib.hid (b3S HM.out hP);clear hP;have hx3:w3.cell? ⟨p+1,0,none⟩=some (.int .i64 (encN one qs b k).1.1):=(a0a HP.out.2.2.1 0).trans rfl;have hf3:w3.frozen? ⟨p+1,0,none⟩=false:=a0e HP.out.2.2.1 0;go_wp2_with fail;go_roundw
       case rel=>
        refine⟨k+1,v',f',by go_num,by omega,?_⟩;exact b3V HY.out.2.2.2.2.2.1 HY.out.2.2.2.2.2.2.1 HY.out.2.2.2.1 HY.out.2.2.2.2.1 HY.out.2.1 HY.out.2.2.1 HY.out.1 HP.out
       case measure=>simp[intOf] <;> omega
    · have hpar:(i:Int)%2=1:=by simpa using hlnI
      have htm:(i:Int).tmod 2=1:=by rw[Int.tmod_eq_emod_of_nonneg (by omega)];exact hpar
      clear hlnI hln2 h0l hll hl2n;go_wp2_with fail
      go_region_held3 (λ w'=>w'.cell? ⟨p+1,1,none⟩=some (.int .i64 x)/\w'.cell? (ad.add i)=some (.int .u8 s)) ((repeat' apply And.intro) <;> first | assumption)
       (first
        | (go_at_call 155;refine HCtx.out.mono ?_;rintro e w' ⟨rfl,rfl⟩)
        | (go_at_call 149;refine HEnc.out.mono ?_;rintro e w1 ⟨f',t,lo,hi2,rfl,hE,hT,ho⟩;obtain⟨c1,c2⟩:=b3T H.out HLT.out ho hxc hcs)
        | (go_at_call 199;refine(HStep.out _ _ _ _ hT).mono ?_;rintro e w2 ⟨rfl,hb2⟩;have c3:=a0p hb2 c1;have c4:=a0p hb2 c2))
      all_goals
       have HM:=Lib.hid (b3U H.out hE ho hb2);clear hE hT ho hb2 c1 c2 c3 c4;have hN17:N<=24:=by have:=HY.out;exact wr_n this.2.1 this.2.2.2.2.2.2.2.1 this.2.2.2.2.2.2.2.2.1 this.2.2.2.2.2.2.2.2.2.1
       have hL32:L<4294967296:=wr_l HY.out.2.1 HY.out.2.2.1 hN17;go_wp2_with fail;refine(a2q w0.heap.size p v (encN one qs b k).2 L N w2 HM.out.wv HM.out.enc.below.size (by have:=HY.out.2.2.2.2.2.2.2.2.2.2;omega) hL32 hN17).mono ?_;rintro e w3 ⟨rfl,hp⟩;obtain⟨v',hP⟩:=hp;have HP:=Lib.hid (b3S HM.out hP);clear hP;have hx3:w3.cell? ⟨p+1,1,none⟩=some (.int .i64 (encN one qs b k).1.2):=(a0a HP.out.2.2.1 1).trans rfl;have hf3:w3.frozen? ⟨p+1,1,none⟩=false:=a0e HP.out.2.2.1 1;go_wp2_with fail;go_roundw
       case rel=>
        refine⟨k+1,v',f',by go_num,by omega,?_⟩;exact b3V HY.out.2.2.2.2.2.1 HY.out.2.2.2.2.2.2.1 HY.out.2.2.2.1 HY.out.2.2.2.2.1 HY.out.2.1 HY.out.2.2.1 HY.out.1 HP.out
       case measure=>simp[intOf] <;> omega
  · obtain rfl:k=b.length:=by omega
    have hrg:=a4N HF.out HX.out.1 b.length (Nat.le_refl _);have hln:=a4O HF.out HX.out.1 b.length (Nat.le_refl _);have hlg:=a1T (a2V HF.out);have hc0:wr.cell? ⟨p+1,0,none⟩=some (.int .i64 (encN one qs b b.length).1.1):=(a0a H.out.xs 0).trans rfl;have hc1:wr.cell? ⟨p+1,1,none⟩=some (.int .i64 (encN one qs b b.length).1.2):=(a0a H.out.xs 1).trans rfl;obtain⟨x0,hx0⟩:∃ x0:Nat,(encN one qs b b.length).1.1=x0:=⟨(encN one qs b b.length).1.1.toNat,by omega⟩;obtain⟨x1,hx1⟩:∃ x1:Nat,(encN one qs b b.length).1.2=x1:=⟨(encN one qs b b.length).1.2.toNat,by omega⟩;have HXX:=Lib.hid (And.intro hx0 (And.intro hx1 (And.intro hrg (And.intro hln hlg))));rw[hx0] at hc0;rw[hx1] at hc1
    have hlt2:(2:Int)^(lg:Int).toNat<=4096:=by
     have h12:lg<=12:=by have:=hlg.2.1;omega
     exact(a1K (r:=lg) h12).2
    have hm0:(x0:Int)%4294967296=x0:=by have:=hrg.2.1;rw[hx0] at this;omega
    have hm1:(x1:Int)%4294967296=x1:=by have:=hrg.2.2.2;rw[hx1] at this;omega
    have h24:lg<=24:=by have:=hlg.2.1;omega
    clear hrg hln hlg hx0 hx1 hlt2;have hiE:(b.length:Int)-1-b.length = -1:=by omega
    rw[hiE];go_wp2_with fail;refine(a2q w0.heap.size p v _ x1 lg wr H.out.wv H.out.enc.below.size (by have:=HXX.out.2.2.2.1;omega) (by omega) h24).mono ?_;rintro e w3 ⟨rfl,v3,hv3,ho3,hn3⟩;have hb3:Below w0.heap.size w0 w3:=H.out.enc.below.trans (hn3.below H.out.enc.below.size (λ g hg=>(H.out.enc.oge g (hg.imp id .inl)).1));have hx3:w3.heap[p+1]?=wr.heap[p+1]?:=hn3.block (p+1) (a0g H.out.xs) (λ e=>by rcases e with e | e;omega;exact H.out.ne.2 e);have hc3:w3.cell? ⟨p+1,0,none⟩=some (.int .i64 x0):=(World.cell?_of_block (a:=⟨p+1,0,none⟩) hx3).trans hc0;have H3:=Lib.hid (And.intro hv3 hb3);have HO3:=Lib.hid (And.intro ho3 hn3);clear hv3 ho3 hn3 hb3 hx3;go_wp2_with fail;refine(a2q w0.heap.size p v3 _ x0 lg w3 H3.out.1 H3.out.2.size (by rw[List.length_append,a0J];have:=HXX.out.2.2.2.1;omega) (by omega) h24).mono ?_;rintro e w4 ⟨rfl,v4,hv4,ho4,hn4⟩;have H4:=Lib.hid (And.intro hv4 (And.intro ho4 hn4));clear hv4 ho4 hn4;go_wp2_with fail;go_ret;refine⟨p,v4,rfl,?_,?_⟩
    · have e:a0R lg one qs b=(encN one qs b b.length).2++a0k x1 lg++a0k x0 lg:=by
        have a1:=HXX.out.1;have a2:=HXX.out.2.1;simp only[a0R,a1,a2,Int.toNat_natCast]
      rw[e];exact H4.out.1
    · refine H3.out.2.trans (H4.out.2.2.below H3.out.2.size (λ g hg=>?_));rcases hg with rfl | hg
      · exact(H.out.enc.oge g (.inl rfl)).1
      · exact((Kd.R_bound H3.out.1.row).1 g hg).2.1
structure Opened (lg:Int) (one:Bool) (A:Option Addr) (n c:Nat) (tb me md:Nat) (w w':World):Prop where
 blk:w'.heap[tb]?=some (.cells #[.int .i64 lg,.bool one,.slice A n c,.map (some me),.map (some md)] 213 (0,0))
 em:w'.heap[me]?=some (.map #[] 0)
 dm:w'.heap[md]?=some (.map #[] 0)
 ge:w.heap.size<=me/\w.heap.size<=md/\me≠md/\tb≠me/\tb≠md
 below:Below w.heap.size w w'
 tge:w.heap.size<=tb
theorem c2w (lg:Int) (one:Bool) (A:Option Addr) (n c:Nat) (w:World):Opened lg one A n c (w.heap.size+1+1+1) (w.heap.size+1) (w.heap.size+1+1) w
    ((((w.alloc (.cells #[.int .i64 lg,.bool one,.slice A n c] 26)).alloc (.map #[] 0)).alloc (.map #[] 0)).alloc (.cells #[.int .i64 lg,.bool one,.slice A n c,.map (some (w.heap.size+1)),.map (some (w.heap.size+1+1))] 213)):=by
 obtain⟨w1,h1⟩:∃ w1,w1=w.alloc (.cells #[.int .i64 lg,.bool one,.slice A n c] 26):=⟨_,rfl⟩;obtain⟨w2,h2⟩:∃ w2,w2=w1.alloc (.map #[] 0):=⟨_,rfl⟩;obtain⟨w3,h3⟩:∃ w3,w3=w2.alloc (.map #[] 0):=⟨_,rfl⟩;have e1:w1.heap.size=w.heap.size+1:=by rw[h1];simp
 have e2:w2.heap.size=w.heap.size+1+1:=by rw[h2];simp[e1]
 have e3:w3.heap.size=w.heap.size+1+1+1:=by rw[h3];simp[e2]
 rw[<- h1,<- h2,<- h3];have b1:Below w.heap.size w w1:=by rw[h1];exact(Below.refl _ _).alloc (Nat.le_refl _) _
 have b2:Below w.heap.size w w2:=by rw[h2];exact b1.alloc (by omega) _
 have b3:Below w.heap.size w w3:=by rw[h3];exact b2.alloc (by omega) _
 have m1:w2.heap[w.heap.size+1]?=some (.map #[] 0):=by rw[h2,<- e1];exact a0i w1 _
 have m2:w3.heap[w.heap.size+1+1]?=some (.map #[] 0):=by rw[h3,<- e2];exact a0i w2 _
 have m1':w3.heap[w.heap.size+1]?=some (.map #[] 0):=by rw[h3];exact a0o m1 _
 refine⟨?_,a0o m1' _,a0o m2 _,by omega,b3.alloc (by omega) _,by omega⟩;have:=a0i w3 (.cells #[.int .i64 lg,.bool one,.slice A n c,.map (some (w.heap.size+1)),.map (some (w.heap.size+1+1))] 213);rw[e3] at this;exact this
theorem b3W (lg:Int) (one:Bool) (A:Option Addr) (n c:Nat) (w:World) :
    Calls Tryz.prog 119 #[.agg #[.int .i64 lg,.bool one,.slice A n c]] w λ e w'=>∃ tb me md,e=.returned (.pointer (some ⟨tb,0,none⟩))/\Opened lg one A n c tb me md w w':=by
 have hmm:=@run_makeMap Tryz.prog;go_enter Tryz.func119,Tryz.ntmps119;go_wp2_with fail;go_ret;exact⟨_,_,_,rfl,c2w lg one A n c w⟩
def decM (lg:Int) (one:Bool) (qs:List (List Int)) (ps:List Int) (n:Int):Int×List Int:=
 if n<0\/131072<n\/a0A lg one qs=false then (1,[]) else
 if ps.length=0\/lastB ps=0 then (2,[]) else
 if a0H ps<lg.toNat+lg.toNat then (3,[]) else
 decGo one qs ps n.toNat 0 0 (takeV ps (a0H ps) lg.toNat) (takeV ps (a0H ps-lg.toNat) lg.toNat) (a0H ps-lg.toNat-lg.toNat) []
theorem b3X {ps:List Int} (hps:∀ x∈ps,0<=x/\x<256) (h:¬ (ps.length=0\/lastB ps=0)):a0H ps<=8*ps.length:=by
 have h1:0<=lastB ps/\lastB ps<256:=by
  unfold lastB;rw[List.getD_eq_getElem?_getD,List.getElem?_eq_getElem (by omega)];exact hps _ (List.getElem_mem _)
 have:=Lib.bitLen_le8' (lastB ps) h1.1 (by omega);unfold a0H;omega
theorem c2x (base rp p:Nat) (ps:List Int) (left lg:Nat) (x0 x1:Int) (w:World) (hx:LrAt rp p x0 x1 w) (h:RdAt w base p ps left) (hps:∀ x∈ps,0<=x/\x<256) (hl:left<=8*ps.length) (hl2:ps.length<=1000000) (hn:lg<=24) (hne:rp≠p) (hle:lg+lg<=left) :
    Calls Tryz.prog 117 #[.pointer (some ⟨rp,0,none⟩),.int .i64 lg] w λ e w'=>e=.returned (.bool true)/\LrAt rp p (takeV ps left lg) (takeV ps (left-lg) lg) w'/\RdAt w' base p ps (left-lg-lg)/\Only (λ k=>k=p\/k=rp) w w':=
 (b3O base rp p ps left lg x0 x1 w hx h hps hl hl2 hn hne).mono λ e w' hp=>by unfold a4K at hp;rwa [if_pos hle] at hp
theorem c2y (base rp p:Nat) (ps:List Int) (left lg:Nat) (x0 x1:Int) (w:World) (hx:LrAt rp p x0 x1 w) (h:RdAt w base p ps left) (hps:∀ x∈ps,0<=x/\x<256) (hl:left<=8*ps.length) (hl2:ps.length<=1000000) (hn:lg<=24) (hne:rp≠p) (hle:¬ lg+lg<=left) :
    Calls Tryz.prog 117 #[.pointer (some ⟨rp,0,none⟩),.int .i64 lg] w λ e w'=>e=.returned (.bool false)/\Only (λ k=>k=p\/k=rp) w w':=
 (b3O base rp p ps left lg x0 x1 w hx h hps hl hl2 hn hne).mono λ e w' hp=>by unfold a4K at hp;rwa [if_neg hle] at hp
theorem c2z {lg:Int} {one:Bool} {A:Option Addr} {c:Nat} {qs:List (List Int)} {tb me md rp p left:Nat} {ps:List Int} {x0 x1:Int} {w w2 W4 w5 w6:World} (h2:w.heap.size<=w2.heap.size) (hp:w2.heap.size<=p) (hpr:p<rp) (hr4:rp<W4.heap.size) (hb4:Below w.heap.size w W4)
    (hl5:LrAt rp p x0 x1 w5) (hr5:RdAt w5 w2.heap.size p ps left) (ho5:Only (λ k=>k=p\/k=rp) W4 w5) (hO:Opened lg one A qs.length c tb me md w5 w6) :
    RdRel lg one A c qs tb me md rp p ps w w6.heap.size 0 (λ _=>none) (.slice none 0 0) [] x0 x1 left w6:=by
 have s5:=ho5.size;have s6:=hO.below.size;have hge:=hO.ge;have htg:=hO.tge;have hb5:Below w.heap.size w w5:=hb4.trans (ho5.below hb4.size (λ k hk=>by rcases hk with e | e <;> omega));refine⟨(hO.below.block rp (a0g hl5)).trans hl5,?_,⟨hO.blk,by rw[hO.dm];exact a8Y,a0g hO.dm,hb5.trans (hO.below.mono hb5.size),by have:=hb5.size;omega,λ g hg=>?_,(λ i _ v hv=>by cases hv),?_⟩,Kd.R_nil _ _ _ _ _,Nat.le_refl _⟩
 · obtain⟨gg,cc,a0,a1,a2⟩:=hr5.ex;exact⟨gg,cc,a0,a0h a1 hO.below,Kd.R_lower (Kd.R_below a2 hO.below) h2⟩
 · rcases hg with rfl | rfl | hg
   · exact⟨by omega,by omega⟩
   · exact⟨by omega,by omega⟩
   · cases hg
 · refine⟨λ hg=>?_,λ hg=>?_,hge.2.2.2.2⟩
   · rcases hg with e | e | hg
     · omega
     · omega
     · cases hg
   · rcases hg with e | e | hg
     · omega
     · omega
     · cases hg
theorem b3Y (lg:Int) (one:Bool) (A:Option Addr) (c:Nat) (qs:List (List Int)) (B:Option Addr) (cb:Nat) (ps:List Int) (n:Int) (w:World) (hr:kq.C w A qs.length qs) (hl:qs.length<=1000000) (hb:(Kd.int .u8).C w B ps.length ps) (hby:Bytes ps) (hbl:ps.length<=1000000) :
    Calls Tryz.prog 76 #[.agg #[.int .i64 lg,.bool one,.slice A qs.length c],.slice B ps.length cb,.int .i64 n] w (ReadPost (decM lg one qs ps n) w):=by
 obtain⟨W1,hW1⟩:∃ W1,W1=w.alloc (.cells #[.int .i64 lg,.bool one,.slice A qs.length c] 26):=⟨_,rfl⟩;have hb1:Below w.heap.size w W1:=by rw[hW1];exact(Below.refl w.heap.size w).alloc (Nat.le_refl _) _
 have hk1:W1.heap[w.heap.size]?=some (.cells #[.int .i64 lg,.bool one,.slice A qs.length c] 26 (0,0)):=by rw[hW1];exact a0i _ _
 have HB1:=Lib.hid hb1;have HK1:=Lib.hid hk1;have HR:=Lib.hid hr;have HBR:=Lib.hid hb;have HX:=Lib.hid (And.intro hl (And.intro hby hbl));have HM1:=Lib.hid (And.intro ((a0a hk1 0).trans rfl:W1.cell? ⟨w.heap.size,0,none⟩=some (.int .i64 lg)) (And.intro ((a0a hk1 1).trans rfl:W1.cell? ⟨w.heap.size,1,none⟩=some (.bool one)) ((a0a hk1 2).trans rfl:W1.cell? ⟨w.heap.size,2,none⟩=some (.slice A qs.length c))));obtain⟨R,hR⟩:∃ R,R=decM lg one qs ps n:=⟨_,rfl⟩;rw[<- hR];have HRR:=Lib.hid hR;have hm0:=HM1.out.1;have hm1:=HM1.out.2.1;have hm2:=HM1.out.2.2;clear hb1 hk1 hr hb hl hby hbl hR
 by_cases h1:n<0
 · have HE:Hid (R=(1,[])):=by show _=_;rw[HRR.out];unfold decM;rw[if_pos (.inl h1)]
   have hd:decide (n<0)=true:=decide_eq_true h1;clear h1;go_enter Tryz.func76,Tryz.ntmps76;go_wp2_with fail;go_ret2;rw[<- hW1,HE.out];exact⟨⟨_,rfl,Kd.R_nil _ _ _ _ _⟩,HB1.out⟩
 have hd:decide (n<0)=false:=decide_eq_false h1
 by_cases h2:131072<n
 · have HE:Hid (R=(1,[])):=by show _=_;rw[HRR.out];unfold decM;rw[if_pos (.inr (.inl h2))]
   have hd2:decide (131072<n)=true:=decide_eq_true h2;clear h1 h2;go_enter Tryz.func76,Tryz.ntmps76;go_wp2_with fail;go_ret2;rw[<- hW1,HE.out];exact⟨⟨_,rfl,Kd.R_nil _ _ _ _ _⟩,HB1.out⟩
 have hd2:decide (131072<n)=false:=decide_eq_false h2;have HRight:=Lib.hid (b3D lg one A c qs W1 (Kd.C_below HR.out HB1.out) HX.out.1)
 by_cases h3:a0A lg one qs=false
 · have HE:Hid (R=(1,[])):=by show _=_;rw[HRR.out];unfold decM;rw[if_pos (.inr (.inr h3))]
   rw[h3] at HRight;clear h1 h2 h3;go_enter Tryz.func76,Tryz.ntmps76;go_wp2_with fail;rw[<- hW1];refine HRight.out.mono ?_;rintro e w2 ⟨rfl,hb2⟩;have HB2:Hid (Below w.heap.size w w2):=HB1.out.trans (hb2.mono HB1.out.size);clear hb2 hW1;go_wp2_with fail;go_ret2;rw[HE.out];exact⟨⟨_,rfl,Kd.R_nil _ _ _ _ _⟩,HB2.out⟩
 have hrt:a0A lg one qs=true:=by simpa using h3
 rw[hrt] at HRight;obtain⟨g,hg⟩:∃ g:Nat,lg=g:=⟨lg.toNat,by have:=(a1T hrt).1;omega⟩;subst hg;obtain⟨m,hm⟩:∃ m:Nat,n=m:=⟨n.toNat,by omega⟩;subst hm;have HRT:=Lib.hid hrt
 have HNN:Hid (¬ ((m:Int)<0\/131072<(m:Int)\/a0A (g:Int) one qs=false)):=λ h=>by
  rcases h with h | h | h
  · exact h1 h
  · exact h2 h
  · exact h3 h
 have HG:Hid (g<=12/\m<=131072):=⟨by have:=(a1T hrt).2.1;omega,by omega⟩;clear h1 h2 h3 hrt;go_enter Tryz.func76,Tryz.ntmps76;go_wp2_with fail;rw[<- hW1];refine HRight.out.mono ?_;rintro e w2 ⟨rfl,hb2⟩;have hk2:=a0h HK1.out hb2;have HB2:Hid (Below w.heap.size w w2):=HB1.out.trans (hb2.mono HB1.out.size);have HK2:=Lib.hid hk2;clear hb2 hW1 hm0 hm1 hm2 hk2 HRight;go_wp2_with fail;refine(c2b B cb ps w2 (Kd.C_below HBR.out HB2.out) HX.out.2.1 HX.out.2.2).mono ?_;rintro e w3 ⟨hno,hyes,hb3⟩;have HB3:Hid (Below w.heap.size w w3):=HB2.out.trans (hb3.mono HB2.out.size);have HK3:=Lib.hid (a0h HK2.out hb3);clear hb3
 by_cases h4:ps.length=0\/lastB ps=0
 · have HE:Hid (R=(2,[])):=by show _=_;rw[HRR.out];unfold decM;rw[if_neg HNN.out,if_pos h4]
   obtain rfl:=hno h4;clear hno hyes h4;go_wp2_with fail;go_ret2;rw[HE.out];exact⟨⟨_,rfl,Kd.R_nil _ _ _ _ _⟩,HB3.out⟩
 obtain⟨p,rfl,hp,hrd⟩:=hyes h4;have HH4:=Lib.hid h4;have HRD:=Lib.hid (And.intro hp hrd);have HBI:=Lib.hid (b3X HX.out.2.1 h4);clear hno hyes h4 hp hrd;obtain⟨W4,hW4⟩:∃ W4,W4=w3.alloc (.cells #[.pointer (some ⟨p,0,none⟩),.int .i64 0,.int .i64 0] 155):=⟨_,rfl⟩;have hk4:W4.heap[w.heap.size]?=some (.cells #[.int .i64 g,.bool one,.slice A qs.length c] 26 (0,0)):=by rw[hW4];exact a0o HK3.out _
 have hm0:W4.cell? ⟨w.heap.size,0,none⟩=some (.int .i64 g):=(a0a hk4 0).trans rfl;obtain⟨rp,hrp⟩:∃ rp,rp=w3.heap.size:=⟨_,rfl⟩;have hlr:LrAt rp p 0 0 W4:=by rw[hrp,hW4];exact a0i _ _
 have hrd4:RdAt W4 w2.heap.size p ps (a0H ps):=by
  obtain⟨gg,cc,a0,a1,a2⟩:=HRD.out.2.ex;rw[hW4];exact⟨gg,cc,a0,a0o a1 _,Kd.R_alloc a2 _⟩
 have hb4:Below w.heap.size w W4:=by rw[hW4];exact HB3.out.alloc HB3.out.size _
 have hplt:p<rp:=by rw[hrp];obtain⟨gg,cc,a0,a1,a2⟩:=HRD.out.2.ex;exact a0g a1
 have hrlt:rp<W4.heap.size:=by rw[hrp,hW4];simp
 have H4:=Lib.hid (And.intro hk4 (And.intro hlr (And.intro hrd4 (And.intro hb4 (And.intro hplt hrlt)))));clear hk4 hlr hrd4 hb4 hplt hrlt;rw[hW4] at hm0;go_wp2_with fail;rw[<- hW4] at hm0;rw[<- hW4,<- hrp];clear hW4 hrp
 by_cases h5:g+g<=a0H ps
 · have HY:=Lib.hid h5
   have HE:Hid (R=decGo one qs ps m 0 0 (takeV ps (a0H ps) g) (takeV ps (a0H ps-g) g) (a0H ps-g-g) []):=by
    show _=_;rw[HRR.out];unfold decM
    rw[if_neg HNN.out,if_neg HH4.out,if_neg (by simp only[Int.toNat_natCast];omega)];simp only[Int.toNat_natCast]
   clear h5;refine(c2x w2.heap.size rp p ps (a0H ps) g 0 0 W4 H4.out.2.1 H4.out.2.2.1 HX.out.2.1 HBI.out HX.out.2.2 (by have:=HG.out.1;omega) (by have:=H4.out.2.2.2.2.1;omega) HY.out).mono ?_;rintro e w5 ⟨rfl,hlr5,hrd5,ho5⟩
   have hk5:w5.heap[w.heap.size]?=_:=(ho5.block w.heap.size (a0g H4.out.1) (λ e=>by
    have:=HB2.out.size;have:=a0g HK2.out;have:=HRD.out.1;have:=H4.out.2.2.2.2.1;rcases e with e | e <;> omega)).trans H4.out.1
   have hc0:w5.cell? ⟨w.heap.size,0,none⟩=some (.int .i64 g):=(a0a hk5 0).trans rfl;have hc1:w5.cell? ⟨w.heap.size,1,none⟩=some (.bool one):=(a0a hk5 1).trans rfl;have hc2:w5.cell? ⟨w.heap.size,2,none⟩=some (.slice A qs.length c):=(a0a hk5 2).trans rfl;have H5:=Lib.hid (And.intro hlr5 (And.intro hrd5 ho5));clear hlr5 hrd5 ho5 hk5;go_wp2_with fail;refine(b3W (g:Int) one A qs.length c w5).mono ?_;rintro e w6 ⟨tb,me,md,rfl,hO⟩;have HO:=Lib.hid hO;clear hO;go_wp2_with fail;refine(c2s (g:Int) one A c qs tb me md rp p ps (takeV ps (a0H ps) g) (takeV ps (a0H ps-g) g) (a0H ps-g-g) m w w6 HR.out HRT.out ?_ ?_ HX.out.2.1 ?_ HX.out.2.2 ?_ ?_ (by have:=HG.out.2;omega)).mono ?_
   · have h1:=HB2.out.size;have h2:=HRD.out.1;have h3:=H4.out.2.2.2.2;have h4:=H5.out.2.2.size;have h5:=HO.out.below.size;have h6:=HO.out.ge;have h7:=a0g HO.out.dm;exact⟨by omega,h3.1,by omega,by omega,h7⟩
   · exact c2z HB2.out.size HRD.out.1 H4.out.2.2.2.2.1 H4.out.2.2.2.2.2 H4.out.2.2.2.1 H5.out.1 H5.out.2.1 H5.out.2.2 HO.out
   · have:=HBI.out;omega
   · have h1:=a2d ps (a0H ps) g;have e1:(2:Int)^(g:Int).toNat=((2^g:Nat):Int):=by simp
     rw[e1];omega
   · have h1:=a2d ps (a0H ps-g) g;have e1:(2:Int)^(g:Int).toNat=((2^g:Nat):Int):=by simp
     rw[e1];omega
   rintro e w7 ⟨⟨v,rfl,hv⟩,hb7⟩;go_wp2_with fail;go_ret2;rw[HE.out];exact⟨⟨_,rfl,hv⟩,hb7⟩
 · have HY:=Lib.hid h5
   have HE:Hid (R=(3,[])):=by
    show _=_;rw[HRR.out];unfold decM
    rw[if_neg HNN.out,if_neg HH4.out,if_pos (by simp only[Int.toNat_natCast];omega)]
   clear h5;refine(c2y w2.heap.size rp p ps (a0H ps) g 0 0 W4 H4.out.2.1 H4.out.2.2.1 HX.out.2.1 HBI.out HX.out.2.2 (by have:=HG.out.1;omega) (by have:=H4.out.2.2.2.2.1;omega) HY.out).mono ?_;rintro e w5 ⟨rfl,ho5⟩
   have HB5:Hid (Below w.heap.size w w5):=H4.out.2.2.2.1.trans (ho5.below H4.out.2.2.2.1.size (λ k hk=>by
    have:=HB2.out.size;have:=HRD.out.1;have:=H4.out.2.2.2.2.1;rcases hk with e | e <;> omega))
   clear ho5;go_wp2_with fail;go_ret2;rw[HE.out];exact⟨⟨_,rfl,Kd.R_nil _ _ _ _ _⟩,HB5.out⟩
def canM (lg:Int) (one:Bool) (qs:List (List Int)) (b:List Int):Bool:=decide (b.length<=131072)&&fitsM lg one qs b
theorem c2A (lg:Int) (one:Bool) (A:Option Addr) (c:Nat) (qs:List (List Int)) (B:Option Addr) (cb:Nat) (b:List Int) (w:World) (hr:kq.C w A qs.length qs) (hl:qs.length<=1000000) (hb:(Kd.int .u8).C w B b.length b) (hby:Bytes b) :
    Calls Tryz.prog 147 #[.agg #[.int .i64 lg,.bool one,.slice A qs.length c],.slice B b.length cb] w (Ret (.bool (canM lg one qs b)) w):=by
 have HB1:=Lib.hid ((Below.refl w.heap.size w).alloc (Nat.le_refl _) (.cells #[.int .i64 lg,.bool one,.slice A qs.length c] 26));have HR:=Lib.hid hr;have HBR:=Lib.hid hb;have HX:=Lib.hid (And.intro hl hby);clear hr hb hl hby
 by_cases h:b.length<=131072
 · have hd:decide ((b.length:Int)<=131072)=true:=decide_eq_true (by omega);have HE:Hid (canM lg one qs b=fitsM lg one qs b):=by show _=_;unfold canM;rw[decide_eq_true h];rfl
   rw[HE.out];obtain⟨z,hz⟩:∃ z,z=fitsM lg one qs b:=⟨_,rfl⟩;rw[<- hz];have HZ:=Lib.hid hz;have HL:=Lib.hid h;clear hz h;go_enter Tryz.func147,Tryz.ntmps147;go_wp2_with fail;refine(c1J lg one A c qs B cb b _ (Kd.C_below HR.out HB1.out) HX.out.1 (Kd.C_below HBR.out HB1.out) HX.out.2 (by have:=HL.out;omega)).mono ?_;rw[<- HZ.out];rintro e w' ⟨rfl,hb⟩;have HB2:=Lib.hid (HB1.out.trans (hb.mono HB1.out.size));clear hb;go_wp2_with fail;go_ret;exact⟨rfl,HB2.out⟩
 · have hd:decide ((b.length:Int)<=131072)=false:=decide_eq_false (by omega);have HE:Hid (canM lg one qs b=false):=by show _=_;unfold canM;rw[decide_eq_false h];rfl
   rw[HE.out];clear h;go_enter Tryz.func147,Tryz.ntmps147;go_wp2_with fail;go_ret;exact⟨rfl,HB1.out⟩
theorem c2B {lg:Int} {one:Bool} {A:Option Addr} {c:Nat} {qs:List (List Int)} {tb me md:Nat} {w0 w w':World} (h:Opened lg one A qs.length c tb me md w w') (hb:Below w0.heap.size w0 w):EncInv lg one A c qs tb me md 0 (λ _=>none) (λ _=>False) w0 w':=by
 have hs:=hb.size;exact⟨h.blk,by rw[h.em];exact a8Y,a0g h.em,hb.trans (h.below.mono hs),by have:=h.ge.1;omega,λ _ hf=>hf.elim,(λ i _ v hv=>by cases hv),⟨λ hf=>hf,λ hf=>hf,  h.ge.2.2.2.1⟩⟩
theorem a3O {lg:Int} {one:Bool} {qs:List (List Int)} {b:List Int} (h:fitsM lg one qs b=true) (hb:Bytes b):(a0R lg one qs b).length<=17*b.length+24:=by
 have h1:=a4O h hb b.length (Nat.le_refl _);have h2:=a1T (a2V h);simp only[a0R,List.length_append,a0J];omega
def b3Z (lg:Int) (one:Bool) (qs:List (List Int)) (b:List Int) (w:World) (e:Ending) (w':World):Prop:=
 (canM lg one qs b=false->e=.returned (.tuple #[.slice none 0 0,.int .i64 1])) /\
 (canM lg one qs b=true->∃ v,e=.returned (.tuple #[v,.int .i64 0])/\(Kd.int .u8).R 5 w' w.heap.size (λ _=>True) v (packB (a0R lg one qs b++[true])))/\Below w.heap.size w w'
theorem a3P {lg:Int} {one:Bool} {qs:List (List Int)} {b:List Int} (h:canM lg one qs b=true):fitsM lg one qs b=true/\∃ g:Nat,lg=g/\g<=12:=by
 unfold canM at h;simp only[Bool.and_eq_true] at h;have hr:=a1T (a2V h.2);exact⟨h.2,lg.toNat,by omega,by omega⟩
theorem a3q {w w':World} {mb:Nat} {lg:Int} {one:Bool} {V:Value} (hb:Below w.heap.size w w') (hlt:mb<w.heap.size) (h0:w.cell? ⟨mb,0,none⟩=some (.int .i64 lg)) (h1:w.cell? ⟨mb,1,none⟩=some (.bool one)) (h2:w.cell? ⟨mb,2,none⟩=some V) :
    w'.cell? ⟨mb,0,none⟩=some (.int .i64 lg)/\w'.cell? ⟨mb,1,none⟩=some (.bool one)/\w'.cell? ⟨mb,2,none⟩=some V:=
 ⟨(hb.cell (p:=⟨mb,0,none⟩) hlt).trans h0,(hb.cell (p:=⟨mb,1,none⟩) hlt).trans h1,(hb.cell (p:=⟨mb,2,none⟩) hlt).trans h2⟩
theorem c2C {lg:Int} {one:Bool} {A:Option Addr} {n c:Nat} {tb me md:Nat} {w w':World} (h:Opened lg one A n c tb me md w.drew w'):Below w.heap.size w w':=
 ⟨h.below.os,h.below.tape,h.below.output,h.below.size,h.below.block⟩
theorem c2D {lg:Int} {one:Bool} {A:Option Addr} {c:Nat} {qs:List (List Int)} {tb me md:Nat} {w0 w w':World} (h:Opened lg one A qs.length c tb me md w.drew w') (hb:Below w0.heap.size w0 w):EncInv lg one A c qs tb me md 0 (λ _=>none) (λ _=>False) w0 w':=c2B h hb.drew
theorem b4a (lg:Int) (one:Bool) (A:Option Addr) (c:Nat) (qs:List (List Int)) (B:Option Addr) (cb:Nat) (b:List Int) (w:World) (hr:kq.C w A qs.length qs) (hl:qs.length<=1000000) (hb:(Kd.int .u8).C w B b.length b) (hby:Bytes b) (hbl:b.length<=40000) :
    Calls Tryz.prog 102 #[.agg #[.int .i64 lg,.bool one,.slice A qs.length c],.slice B b.length cb] w (b3Z lg one qs b w):=by
 obtain⟨W1,hW1⟩:∃ W1,W1=w.alloc (.cells #[.int .i64 lg,.bool one,.slice A qs.length c] 26):=⟨_,rfl⟩;have hb1:Below w.heap.size w W1:=by rw[hW1];exact(Below.refl w.heap.size w).alloc (Nat.le_refl _) _
 have hk1:W1.heap[w.heap.size]?=some (.cells #[.int .i64 lg,.bool one,.slice A qs.length c] 26 (0,0)):=by rw[hW1];exact a0i _ _
 have HB1:=Lib.hid hb1;have HK1:=Lib.hid hk1;have HR:=Lib.hid hr;have HBR:=Lib.hid hb;have HX:=Lib.hid (And.intro hl (And.intro hby hbl));clear hb1 hk1 hr hb hl hby hbl;go_enter Tryz.func102,Tryz.ntmps102;go_wp2_with fail;rw[<- hW1];clear hW1;refine(c2A lg one A c qs B cb b W1 (Kd.C_below HR.out HB1.out) HX.out.1 (Kd.C_below HBR.out HB1.out) HX.out.2.1).mono ?_;rintro e w2 ⟨rfl,hb2⟩;have hk2:=a0h HK1.out hb2;have hm0:w2.cell? ⟨w.heap.size,0,none⟩=some (.int .i64 lg):=(a0a hk2 0).trans rfl;have hm1:w2.cell? ⟨w.heap.size,1,none⟩=some (.bool one):=(a0a hk2 1).trans rfl;have hm2:w2.cell? ⟨w.heap.size,2,none⟩=some (.slice A qs.length c):=(a0a hk2 2).trans rfl;have HB2:Hid (Below w.heap.size w w2):=HB1.out.trans (hb2.mono HB1.out.size);have hlt2:w.heap.size<w2.heap.size:=a0g hk2;have HK2:=Lib.hid hk2;clear hb2 hk2;obtain⟨z,hz⟩:∃ z,z=canM lg one qs b:=⟨_,rfl⟩;rw[<- hz];have HZ:=Lib.hid hz;clear hz
 cases z with
 | false=>
  go_wp2_with fail;go_ret2;exact⟨λ _=>rfl,(λ h=>by rw[<- HZ.out] at h;cases h),HB2.out⟩
 | true=>
  obtain⟨hfit,g,hg,hg12⟩:=a3P HZ.out.symm;subst hg;have HF:=Lib.hid hfit;have HG:=Lib.hid hg12;have HLT:=Lib.hid hlt2;clear hfit hg12 hlt2;go_wp2_with fail
  go_region_held3 (λ w'=>w'.cell? ⟨w.heap.size,0,none⟩=some (.int .i64 (g:Int))/\w'.cell? ⟨w.heap.size,1,none⟩=some (.bool one)/\w'.cell? ⟨w.heap.size,2,none⟩=some (.slice A qs.length c)) ((repeat' apply And.intro) <;> first | assumption)
   (first
    | (go_at_call 119;refine(b3W (g:Int) one A qs.length c _).mono ?_;rintro e w3 ⟨tb,me,md,rfl,hO⟩;obtain⟨c0,c1,c2⟩:=a3q (c2C hO) HLT.out hm0 hm1 hm2;have HO:=Lib.hid hO;clear hO)
    | (go_at_call 148;refine(c2v g one A c qs B cb b _ _ _ w2 _ (Kd.C_below HR.out HB2.out) (Kd.C_below HBR.out HB2.out) HX.out.2.1 HX.out.2.2 HF.out (by exact c2D HO.out (Below.refl _ _))).mono ?_;rintro e w4 ⟨p,v,rfl,hv,hbw⟩;obtain⟨d0,d1,d2⟩:w4.cell? ⟨w.heap.size,0,none⟩=some (.int .i64 (g:Int))/\w4.cell? ⟨w.heap.size,1,none⟩=some (.bool one)/\w4.cell? ⟨w.heap.size,2,none⟩=some (.slice A qs.length c):=a3q hbw HLT.out hm0 hm1 hm2;have HV:=Lib.hid (And.intro hv hbw);clear hv hbw)
    | (go_at_call 150;refine(c1T w2.heap.size _ _ _ _ HV.out.1 (by have:=a3O HF.out HX.out.2.1;have:=HX.out.2.2;omega)).mono ?_;rintro e w5 ⟨vc,rfl,hvc,hbc⟩;obtain⟨f0,f1,f2⟩:=a3q hbc (Nat.lt_of_lt_of_le HLT.out HV.out.2.size) d0 d1 d2;have HC:=Lib.hid (And.intro hvc hbc);clear hvc hbc))
  all_goals
   go_wp2_with fail;go_ret2;exact⟨(λ h=>by rw[<- HZ.out] at h;cases h),λ _=>⟨_,rfl,Kd.R_mono (Kd.R_lower HC.out.1 (Nat.le_trans HB2.out.size HV.out.2.size)) (λ _ _=>trivial)⟩,(HB2.out.trans (HV.out.2.mono HB2.out.size)).trans (HC.out.2.mono (Nat.le_trans HB2.out.size HV.out.2.size))⟩
end Go.Proofs.YtflfjpkmjnnodaaGreat
namespace Go.Proofs.YtflfjpkmjnnodaaGreat
open Go.RowKit
theorem c2E (l:List Int) (s:Int):∀ m n,m<=n->∃ r,posN l s n=posN l s m++r:=by
 intro m n hmn
 induction hmn with
 | refl=>exact⟨[],by simp⟩
 | step _ ih=>
  rename_i n _;obtain⟨r,hr⟩:=ih
  by_cases e:l.getD n (-1)=s
  · exact⟨r++[(n:Int)],by rw[a2H e,hr,List.append_assoc]⟩
  · exact⟨r,by rw[a3L e,hr]⟩
theorem b4b {l:List Int} {s:Int} {P:Nat} (hP:P<l.length) (h:l.getD P (-1)=s):(posN l s l.length).getD (posN l s P).length 0=P:=by
 obtain⟨r,hr⟩:=c2E l s (P+1) l.length hP;rw[hr,a2H h,List.getD_eq_getElem?_getD,List.append_assoc,List.getElem?_append_right (Nat.le_refl _)];simp
theorem b4c {l:List Int} {s:Int} {k:Nat} (hk:k<(posN l s l.length).length):∃ P:Nat,(posN l s l.length).getD k 0=P/\P<l.length/\l.getD P (-1)=s/\(posN l s P).length=k:=by
 have key:∀ m,m<=l.length->k<(posN l s m).length->∃ P:Nat,(posN l s m).getD k 0=P/\P<m/\l.getD P (-1)=s/\(posN l s P).length=k:=by
  intro m
  induction m with
  | zero=>intro _ h;simp[posN] at h
  | succ m ih=>
   intro hm h
   by_cases e:l.getD m (-1)=s
   · by_cases hk2:k<(posN l s m).length
     · obtain⟨P,h1,h2,h3,h4⟩:=ih (by omega) hk2;refine⟨P,?_,by omega,h3,h4⟩;rw[a2H e,List.getD_eq_getElem?_getD,List.getElem?_append_left hk2,<- List.getD_eq_getElem?_getD];exact h1
     · rw[a2H e] at h;simp at h;have hke:k=(posN l s m).length:=by omega
       refine⟨m,?_,by omega,e,hke.symm⟩;rw[a2H e,hke,List.getD_eq_getElem?_getD,List.getElem?_append_right (Nat.le_refl _)];simp
   · rw[a3L e] at h;obtain⟨P,h1,h2,h3,h4⟩:=ih (by omega) h;exact⟨P,by rw[a3L e];exact h1,by omega,h3,h4⟩
 exact key l.length (Nat.le_refl _) hk
theorem a7d {q:List Int} (h:logC q≠0) {P:Nat} (hP:P<2^logC q):(symsL q).getD P 0=(symsL q).getD P (-1)/\0<=(symsL q).getD P 0/\(symsL q).getD P 0<256:=by
 have:=a3M (a1A h) P (by rw[a1Q h];exact hP);exact⟨this.2.2.symm,this.1,this.2.1⟩
theorem b4d {q:List Int} (h:logC q≠0) {P s k:Nat} (hP:P<2^logC q) (hs:(symsL q).getD P (-1)=s) (hk:(posN (symsL q) s P).length=k) :
    a0T q P=((s:Int),((logC q-a0n ((cntC q s+k:Nat):Int):Nat):Int),((cntC q s+k:Nat):Int)*2^(logC q-a0n ((cntC q s+k:Nat):Int))-2^logC q)/\k<cntC q s:=by
 have hq:=a1A h;have h1:=a7d h hP;rw[hs] at h1
 have hg:a0u q P=cntC q s+k:=by
  unfold a0u;rw[h1.1];simp only[Int.toNat_natCast];rw[hk,a1R hq]
 refine⟨?_,?_⟩
 · unfold a0T;rw[h1.1,hg]
 · have:=b3q (l:=symsL q) (s:=s) (k:=P) (by rw[a1Q h];exact hP) hs;rw[hk] at this;unfold cntC a1k;exact this
theorem c2I {q:List Int} {P more:Nat} (hl:logC q≠0) (hP:P<2^logC q) {s b:Nat} {bs:Int} (hce:a0T q P=((s:Int),(b:Int),bs)) (hm:more<2^b) :
    0<cntC q s/\0<=bs+more/\bs+more<2^logC q/\a0F q (bs+more) s=b/\a1w q (bs+more) s=more/\a1s q (bs+more) s=P:=by
 have hr:logC q<=12:=a1M _;have hp:2^logC q<=2^12:=Nat.pow_le_pow_right (by omega) hr;have hsy:=a7d hl hP;have hs1:(a0T q P).1=(symsL q).getD P 0:=rfl;rw[hce] at hs1;have hs:(symsL q).getD P (-1)=s:=by rw[<- hsy.1];exact hs1.symm
 obtain⟨k,hk⟩:∃ k,(posN (symsL q) s P).length=k:=⟨_,rfl⟩;obtain⟨hce2,hkc⟩:=b4d hl hP hs hk;rw[hce] at hce2;obtain⟨g,hg⟩:∃ g,g=cntC q s+k:=⟨_,rfl⟩;rw[<- hg] at hce2;have hb:(b:Int)=((logC q-a0n (g:Int):Nat):Int):=(Prod.mk.inj (Prod.mk.inj hce2).2).1;have hb':logC q-a0n (g:Int)=b:=by omega
 have hbs:bs=(g:Int)*2^b-2^logC q:=by have:=(Prod.mk.inj (Prod.mk.inj hce2).2).2;rw[hb'] at this;exact this
 have hok:=a6Z hl P hP;rw[hce] at hok;obtain⟨_,_,⟨b',hbb,_,hsum⟩,hbs0,_⟩:=hok;obtain rfl:b'=b:=by simp only at hbb;omega
 simp only at hsum hbs0;have e1:(2:Int)^b'=((2^b':Nat):Int):=by simp
 have e2:(2:Int)^logC q=((2^logC q:Nat):Int):=by simp
 have e3:(g:Int)*2^b'=((g*2^b':Nat):Int):=by simp
 have hbs2:bs=((g*2^b':Nat):Int)-((2^logC q:Nat):Int):=by rw[<- e3,<- e2];exact hbs
 rw[e1,e2] at hsum;have hW:a0Z q (bs+more)=g*2^b'+more:=by unfold a0Z;omega
 have hgc:cntC q s*2^b'<=g*2^b':=Nat.mul_le_mul_right _ (by omega);have hgc2:(g+1)*2^b'<=2*cntC q s*2^b':=Nat.mul_le_mul_right _ (by omega);rw[Nat.add_mul,Nat.one_mul] at hgc2
 have hout:a0F q (bs+more) s=b':=by
  unfold a0F;rw[hW]
  exact a5B (by omega) (by have:=a1M (a1d q);have hbr:b'<=logC q:=by omega
                           omega) (by omega) (by omega)
 have hdiv:(g*2^b'+more)/2^b'=g:=by
  rw[Nat.add_comm,Nat.add_mul_div_right _ _ (Nat.two_pow_pos _),Nat.div_eq_of_lt hm];omega
 refine⟨by omega,by omega,by rw[e2];omega,hout,?_,?_⟩
 · unfold a1w;rw[hW,hout,Nat.add_comm,Nat.add_mul_mod_self_right,Nat.mod_eq_of_lt hm]
 · unfold a1s;rw[hW,hout,hdiv];have:=b4b (l:=symsL q) (s:=s) (P:=P) (by rw[a1Q hl];exact hP) hs;rw[hk] at this;rw[show g-cntC q s=k by omega];exact this
structure BitsP (ps:List Int) (left:Nat) (bs:List Bool):Prop where
 len:bs.length=left
 at_:∀ i,i<left->bitI ps i=(bs.getD i false).toNat
theorem a9s (v n i:Nat) (h:i<n):(a0k v n).getD i false=decide (v/2^i%2=1):=by
 unfold a0k;rw[List.getD_eq_getElem?_getD,List.getElem?_map,List.getElem?_range h];rfl
theorem a9t (v i:Nat):(decide (v/2^i%2=1)).toNat=v/2^i%2:=by
 rcases Nat.mod_two_eq_zero_or_one (v/2^i) with e | e <;> rw[e] <;> rfl
theorem a7f {ps:List Int} {left n:Nat} {bs:List Bool} {v:Nat} (h:BitsP ps left (bs++a0k v n)):BitsP ps (left-n) bs:=by
 have hl:=h.len;rw[List.length_append,a0J] at hl;refine⟨by omega,λ i hi=>?_⟩;rw[h.at_ i (by omega),List.getD_eq_getElem?_getD,List.getElem?_append_left (by omega),<- List.getD_eq_getElem?_getD]
theorem c2J {ps:List Int} {left n:Nat} {bs:List Bool} {v:Nat} (h:BitsP ps left (bs++a0k v n)) (hv:v<2^n):∀ j,j<=n->takeV ps left j=v/2^(n-j):=by
 have hl:=h.len;rw[List.length_append,a0J] at hl;intro j
 induction j with
 | zero=>intro _;simp only[takeV,Nat.sub_zero];rw[Nat.div_eq_of_lt hv]
 | succ j ih=>
  intro hj;simp only[takeV]
  rw[ih (by omega),h.at_ (left-(j+1)) (by omega),List.getD_eq_getElem?_getD,List.getElem?_append_right (by omega),<- List.getD_eq_getElem?_getD,a9s _ _ _ (by omega),a9t,
   show left-(j+1)-bs.length=n-(j+1) by omega,show n-j=n-(j+1)+1 by omega,Nat.pow_succ,<- Nat.div_div_eq_div_mul]
  omega
theorem a7g {ps:List Int} {left n:Nat} {bs:List Bool} {v:Nat} (h:BitsP ps left (bs++a0k v n)) (hv:v<2^n):takeV ps left n=v/\n<=left:=by
 have hl:=h.len;rw[List.length_append,a0J] at hl;have:=c2J h hv n (Nat.le_refl _);rw[Nat.sub_self,Nat.pow_zero,Nat.div_one] at this;exact⟨this,by omega⟩
theorem b4e (u n:Nat):a0k u (n+1)=decide (u%2=1) :: a0k (u/2) n:=by
 unfold a0k;rw[List.range_succ_eq_map,List.map_cons,List.map_map]
 congr 1
 · simp
 · apply List.map_congr_left;intro i _;simp only[Function.comp,Nat.succ_eq_add_one];rw[Nat.pow_succ,Nat.mul_comm,<- Nat.div_div_eq_div_mul]
theorem b4f:∀ l:List Bool,a0k (byteL l) l.length=l
 | []=>rfl
 | b :: l=>by
  rw[List.length_cons,b4e,byteL]
  have h1:(b.toNat+2*byteL l)%2=b.toNat:=by have:b.toNat<=1:=by cases b <;> decide
                                            omega
  have h2:(b.toNat+2*byteL l)/2=byteL l:=by have:b.toNat<=1:=by cases b <;> decide
                                            omega
  rw[h1,h2,b4f l]
  congr 1
  cases b <;> rfl
theorem a7h {ps:List Int} {left n:Nat} {bs:List Bool} (h:BitsP ps left bs) (hn:n<=left):bs=bs.take (left-n)++a0k (takeV ps left n) n/\BitsP ps (left-n) (bs.take (left-n)):=by
 have hl:=h.len;have hd:(bs.drop (left-n)).length=n:=by rw[List.length_drop];omega
 have e:bs=bs.take (left-n)++a0k (byteL (bs.drop (left-n))) n:=by
  have:=b4f (bs.drop (left-n));rw[hd] at this;rw[this,List.take_append_drop]
 have h2:=h;rw[e] at h2;have hv:=a3N (bs.drop (left-n));rw[hd] at hv;have ht:=a7g h2 hv;rw[ht.1];exact⟨e,a7f h2⟩
def qOf (one:Bool) (qs:List (List Int)) (last:Int):List Int:=qs.getD (listI one last) []
def encT (one:Bool) (qs:List (List Int)):Int->Nat->List Int->(Int×Int)×List Bool
 | _,_,[]=>((0,0),[])
 | last,i,c :: z=>
  let r:=encT one qs c (i+1) z
  let x:=pick2 (i%2) r.1.1 r.1.2
  (set2 (i%2) r.1.1 r.1.2 (a1s (qOf one qs last) x c),r.2++a0k (a1w (qOf one qs last) x c) (a0F (qOf one qs last) x c))
def fitT (lg:Int) (one:Bool) (qs:List (List Int)):Int->List Int->Prop
 | _,[]=>True
 | last,c :: z=>(logC (qOf one qs last)≠0/\(logC (qOf one qs last):Int)=lg/\0<=c/\c<256/\0<cntC (qOf one qs last) c)/\fitT lg one qs c z
theorem b4g {b:List Int} {i:Nat} (h:i+1<b.length):ctxI b ((i+1:Nat):Int)=b.getD i 0:=by
 unfold ctxI;rw[if_neg (by omega),if_neg (by omega)]
 congr 1;omega
theorem c2K (one:Bool) (qs:List (List Int)) (b:List Int):∀ k,k<=b.length->encN one qs b k=encT one qs (ctxI b ((b.length-k:Nat):Int)) (b.length-k) (b.drop (b.length-k)):=by
 intro k
 induction k with
 | zero=>intro _;rw[Nat.sub_zero,List.drop_length];rfl
 | succ k ih=>
  intro hk;obtain⟨i,hi⟩:∃ i,i=b.length-(k+1):=⟨_,rfl⟩;have hlt:i<b.length:=by omega
  have e1:b.drop i=b.getD i 0 :: b.drop (i+1):=by
   rw[List.drop_eq_getElem_cons hlt,List.getD_eq_getElem?_getD,List.getElem?_eq_getElem hlt];rfl
  rw[<- hi,e1];simp only[encN,encT];rw[ih (by omega),show b.length-1-k=i by omega,show b.length-k=i+1 by omega]
  have e2:encT one qs (ctxI b ((i+1:Nat):Int)) (i+1) (b.drop (i+1))=encT one qs (b.getD i 0) (i+1) (b.drop (i+1)):=by
   by_cases h:i+1<b.length
   · rw[b4g h]
   · rw[List.drop_of_length_le (by omega)];rfl
  rw[e2];unfold qAt qOf pick2 set2;rfl
theorem b4h (t:Nat) (x0 x1 y:Int):pick2 t (set2 t x0 x1 y).1 (set2 t x0 x1 y).2=y:=by unfold pick2 set2;split <;> rfl
theorem b4i (t:Nat) (x0 x1 y:Int):set2 t (set2 t x0 x1 y).1 (set2 t x0 x1 y).2 (pick2 t x0 x1)=(x0,x1):=by unfold pick2 set2;split <;> rfl
theorem b4k {lg:Int} {one:Bool} {qs:List (List Int)} {ps:List Int} (hR:a0A lg one qs=true):∀ (n:Nat) (last:Int) (i left:Nat) (x0 x1:Int) (out res:List Int) (bs:List Bool),(0<=x0/\x0<2^lg.toNat)->(0<=x1/\x1<2^lg.toNat)->BitsP ps left bs ->
    decGo one qs ps n i last x0 x1 left out=(0,res)->∃ z,res=out++z/\z.length=n/\fitT lg one qs last z/\encT one qs last i z=((x0,x1),bs)
 | 0,last,i,left,x0,x1,out,res,bs,h0,h1,hb,h=>by
  simp only[decGo] at h
  split at h
  · rename_i hz;obtain⟨rfl,rfl,rfl⟩:=hz;have hbs:bs=[]:=List.eq_nil_of_length_eq_zero hb.len;subst hbs;exact⟨[],by simpa using (Prod.mk.inj h).2.symm,rfl,trivial,rfl⟩
  · exact absurd (Prod.mk.inj h).1 (by decide)
 | n+1,last,i,left,x0,x1,out,res,bs,h0,h1,hb,h=>by
  have hrc:=a7a hR (listI one last)
  by_cases hz:(cellsOf (qs.getD (listI one last) [])).length=0
  · rw[a9p hz] at h;exact absurd (Prod.mk.inj h).1 (by decide)
  · obtain⟨hq1,hq2,hq3,hq4⟩:=hrc.resolve_left hz
    have hpr:0<=pick2 (i%2) x0 x1/\pick2 (i%2) x0 x1<2^lg.toNat:=by
     unfold pick2;split
     · exact h0
     · exact h1
    obtain⟨x,hx⟩:∃ x:Nat,pick2 (i%2) x0 x1=x:=⟨(pick2 (i%2) x0 x1).toNat,by omega⟩;have e2:(2:Int)^lg.toNat=((2^lg.toNat:Nat):Int):=by simp
    have hlq:lg.toNat=logC (qOf one qs last):=by show _=logC (qs.getD (listI one last) []);omega
    rw[hx,e2,hlq] at hpr;have hP:x<2^logC (qOf one qs last):=by omega
    have hl1:logC (qOf one qs last)≠0:=hq1;have hget:(cellsOf (qs.getD (listI one last) [])).getD x z3=a0T (qOf one qs last) x:=by rw[hq3];exact a4L hl1 x hP
    have hok:=a6Z hl1 x hP;obtain⟨⟨sI,bI,bs0⟩,hce⟩:∃ t:K3,t=a0T (qOf one qs last) x:=⟨_,rfl⟩;rw[<- hce] at hget hok;obtain⟨a1,a2,⟨b,a3,a4,a5⟩,a6,a7⟩:=hok;simp only at a1 a2 a3 a4 a5 a6 a7;subst a3;obtain⟨s,rfl⟩:∃ s:Nat,sI=s:=⟨sI.toNat,by omega⟩
    by_cases hle:b<=left
    · rw[a7b hz hx hget hle] at h;obtain⟨hsp,hb2⟩:=a7h hb hle;have hm:=a2d ps left b;obtain⟨more,hmore⟩:∃ m,m=takeV ps left b:=⟨_,rfl⟩;rw[<- hmore] at h hsp hm;obtain⟨f1,f2,f3,f4,f5,f6⟩:=c2I hl1 hP hce.symm hm;have hrange:=a7c (t:=i%2) (y:=bs0+more) h0 h1 ⟨f2,by rw[hlq];exact f3⟩;obtain⟨z,hz1,hz2,hz3,hz4⟩:=b4k hR n (s:Int) (i+1) (left-b) _ _ _ _ _ hrange.1 hrange.2 hb2 h;refine⟨(s:Int) :: z,by rw[hz1,List.append_assoc];rfl,by rw[List.length_cons,hz2],⟨⟨hl1,hq2,a1,a2,f1⟩,hz3⟩,?_⟩;have hpk:pick2 (i%2) (set2 (i%2) x0 x1 (bs0+more)).1 (set2 (i%2) x0 x1 (bs0+more)).2=bs0+more:=b4h _ _ _ _;simp only[encT,hz4];rw[hpk,f4,f5,f6,<- hsp,<- hx,b4i]
    · rw[a9q hz hx hget hle] at h;exact absurd (Prod.mk.inj h).1 (by decide)
theorem a4n (l:List Bool):∀ x∈packB l,0<=x/\x<256:=by
 intro x hx;unfold packB at hx;obtain⟨i,_,rfl⟩:=List.mem_map.1 hx;have h1:=a3N ((l.drop (8*i)).take 8);have h2:2^((l.drop (8*i)).take 8).length<=2^8:=Nat.pow_le_pow_right (by omega) (by rw[List.length_take];omega);exact⟨by omega,by omega⟩
theorem a9u {x m:Nat} (h1:2^m<=x) (h2:x<2^(m+1)) (hx:x<2^64):Lib.bitLen x=m+1:=by
 have h0:0<x:=Nat.lt_of_lt_of_le (Nat.two_pow_pos _) h1;obtain⟨a,b,c⟩:=a3m x h0 hx;have d:¬ Lib.bitLen x<=m:=λ e=>by have:=Nat.pow_le_pow_right (n:=2) (by omega) e;omega
 have f:¬ m+1<=Lib.bitLen x-1:=λ e=>by have:=Nat.pow_le_pow_right (n:=2) (by omega) e;omega
 omega
theorem a5E (y k:Nat):byteL (a0k y k)=y%2^k:=by
 induction k with
 | zero=>simp[a0k,byteL,Nat.mod_one]
 | succ k ih=>
  rw[b3B,a3o,ih,a0J,a9t,Nat.mod_pow_succ,Nat.mul_comm]
def bitsL (ps:List Int):List Bool:=(List.range (a0H ps)).map (λ i=>decide (bitI ps i=1))
theorem a9v (ps:List Int):BitsP ps (a0H ps) (bitsL ps):=by
 refine⟨by simp[bitsL],λ i hi=>?_⟩;unfold bitsL;rw[List.getD_eq_getElem?_getD,List.getElem?_map,List.getElem?_range hi];have:=a6X ps i
 show bitI ps i=(decide (bitI ps i=1)).toNat
 rcases (by omega:bitI ps i=0\/bitI ps i=1) with e | e <;> rw[e] <;> rfl
theorem b4m {ps:List Int} {left:Nat} {bs:List Bool} (h:BitsP ps left bs) {i k:Nat} (_:i<ps.length) (hk:k<=8) (hl:8*i+k<=left):(bs.drop (8*i)).take k=a0k (ps.getD i 0).toNat k:=by
 have hlen:=h.len;apply List.ext_getElem
 · rw[a0J,List.length_take,List.length_drop];omega
 · intro j h1 h2;rw[a0J] at h2
   have e1:((bs.drop (8*i)).take k)[j]=bs.getD (8*i+j) false:=by
    rw[List.getElem_take,List.getElem_drop,List.getD_eq_getElem?_getD,List.getElem?_eq_getElem (by omega)];rfl
   have e2:(a0k (ps.getD i 0).toNat k)[j]'(by rw[a0J];exact h2)=decide ((ps.getD i 0).toNat/2^j%2=1):=by
    have:=a9s (ps.getD i 0).toNat k j h2;rw[List.getD_eq_getElem?_getD,List.getElem?_eq_getElem (by rw[a0J];exact h2)] at this;exact this
   rw[e1,e2];have hb:=h.at_ (8*i+j) (by omega);unfold bitI at hb;rw[show(8*i+j)/8=i by omega,show(8*i+j)%8=j by omega] at hb;rw[hb]
   cases bs.getD (8*i+j) false <;> rfl
theorem c2N {ps:List Int} (hps:∀ x∈ps,0<=x/\x<256) (h:¬ (ps.length=0\/lastB ps=0)) {bs:List Bool} (hb:BitsP ps (a0H ps) bs):packB (bs++[true])=ps:=by
 have hge:∀ i,i<ps.length->0<=ps.getD i 0/\ps.getD i 0<256:=λ i hi=>by
  rw[List.getD_eq_getElem?_getD,List.getElem?_eq_getElem hi];exact hps _ (List.getElem_mem hi)
 obtain⟨y,hy⟩:∃ y:Nat,lastB ps=y:=⟨(lastB ps).toNat,by unfold lastB;have:=hge (ps.length-1) (by omega);omega⟩;have hy256:y<256:=by unfold lastB at hy;have:=hge (ps.length-1) (by omega);omega
 have hy0:0<y:=by omega
 obtain⟨l1,l2,l3⟩:=a3m y hy0 (by omega);have hl8:=Lib.bitLen_le8' (y:Int) (by omega) (by omega);rw[Int.toNat_natCast] at hl8;have hbits:a0H ps=8*(ps.length-1)+(Lib.bitLen y-1):=by unfold a0H;rw[hy,Int.toNat_natCast];omega
 have hlen:=hb.len;apply List.ext_getElem
 · rw[a0B,List.length_append,List.length_singleton];omega
 · intro i h1 h2;rw[a1S]
   have hpi:ps[i]=((ps.getD i 0).toNat:Int):=by
    have:=hge i h2;rw[Int.toNat_of_nonneg this.1,List.getD_eq_getElem?_getD,List.getElem?_eq_getElem h2];rfl
   rw[hpi]
   congr 1
   by_cases hi:i+1<ps.length
   · rw[List.drop_append_of_le_length (by omega),List.take_append_of_le_length (by rw[List.length_drop];omega),b4m hb h2 (Nat.le_refl 8) (by omega),a5E];have:=(hge i h2).2;exact Nat.mod_eq_of_lt (by omega)
   · have hie:i=ps.length-1:=by omega
     have hyi:(ps.getD i 0).toNat=y:=by unfold lastB at hy;rw[hie,hy];rfl
     have hdl:(bs.drop (8*i)).length=Lib.bitLen y-1:=by rw[List.length_drop];omega
     have hlow:=b4m hb h2 (k:=Lib.bitLen y-1) (by omega) (by omega);rw[List.take_of_length_le (by omega),hyi] at hlow;rw[List.drop_append_of_le_length (by omega),List.take_of_length_le (by rw[List.length_append,hdl,List.length_singleton];omega),a3o,hlow,a5E,a0J,hyi]
     show y%2^(Lib.bitLen y-1)+1*2^(Lib.bitLen y-1)=y
     have e:y/2^(Lib.bitLen y-1)=1:=by
      rw[Nat.div_eq_iff (Nat.two_pow_pos _)];have:2^Lib.bitLen y=2*2^(Lib.bitLen y-1):=by rw[<- Nat.pow_succ'];congr 1;omega
      omega
     have:=Nat.div_add_mod y (2^(Lib.bitLen y-1));rw[e] at this;omega
theorem a4P (b:List Int) (i:Nat) (h:i<b.length):b.drop i=b.getD i 0 :: b.drop (i+1):=by
 rw[List.drop_eq_getElem_cons h,List.getD_eq_getElem?_getD,List.getElem?_eq_getElem h];rfl
theorem b4n {lg:Int} {one:Bool} {qs:List (List Int)} {b:List Int} (i:Nat) (h:i<b.length) (l:Int):(i+1<b.length->l=ctxI b ((i+1:Nat):Int))->(fitT lg one qs (b.getD i 0) (b.drop (i+1))↔fitT lg one qs l (b.drop (i+1))):=by
 intro hl
 by_cases e:i+1<b.length
 · rw[hl e,b4g e]
 · rw[List.drop_of_length_le (by omega)];exact Iff.rfl
theorem c2O {lg:Int} {one:Bool} {qs:List (List Int)} {b:List Int} (h:a0A lg one qs=true) (hf:fitT lg one qs (ctxI b 0) b):fitsM lg one qs b=true/\Bytes b:=by
 have key:∀ k,k<=b.length->fitT lg one qs (ctxI b (k:Nat)) (b.drop k)/\∀ i,i<k->fitAt one qs b i=true/\0<=b.getD i 0/\b.getD i 0<256:=by
  intro k
  induction k with
  | zero=>intro _;exact⟨hf,λ i hi=>by omega⟩
  | succ k ih=>
   intro hk;obtain⟨h1,h2⟩:=ih (by omega);have hlt:k<b.length:=by omega
   rw[a4P b k hlt] at h1;obtain⟨⟨a1,a2,a3,a4,a5⟩,a6⟩:=h1;refine⟨(b4n k hlt _ (λ _=>rfl)).1 a6,λ i hi=>?_⟩
   by_cases e:i=k
   · subst e;refine⟨?_,a3,a4⟩;have hg:=a1A a1;obtain⟨x,hx⟩:∃ x:Nat,b.getD i 0=x:=⟨(b.getD i 0).toNat,by omega⟩;rw[hx,a1R hg] at a5;have:=(hg.get x).1;have hlen:=hg.len;unfold fitAt;rw[decide_eq_true_eq];unfold qOf at hlen a5;refine⟨by omega,?_⟩;rw[hx,Int.toNat_natCast];omega
   · exact h2 i (by omega)
 obtain⟨_,h2⟩:=key b.length (Nat.le_refl _);refine⟨?_,λ x hx=>?_⟩
 · unfold fitsM;rw[h,Bool.true_and,List.all_eq_true];exact λ i hi=>(h2 i (List.mem_range.1 hi)).1
 · obtain⟨i,hi,rfl⟩:=List.getElem_of_mem hx;have:=(h2 i hi).2;rw[List.getD_eq_getElem?_getD,List.getElem?_eq_getElem hi] at this;exact this
theorem a5F (b:List Int) (h:0<b.length):ctxI b 0=0:=by unfold ctxI;rw[if_neg (by omega),if_pos rfl]
theorem a9w (lg:Int) (one:Bool) (qs:List (List Int)) (b:List Int):a0R lg one qs b=(encT one qs 0 0 b).2++a0k (encT one qs 0 0 b).1.2.toNat lg.toNat++a0k (encT one qs 0 0 b).1.1.toNat lg.toNat:=by
 have e:=c2K one qs b b.length (Nat.le_refl _);rw[Nat.sub_self,List.drop_zero] at e
 have e2:encT one qs (ctxI b ((0:Nat):Int)) 0 b=encT one qs 0 0 b:=by
  cases b with
  | nil=>rfl
  | cons c z=>rw[show ctxI (c :: z) ((0:Nat):Int)=0 from a5F _ (by simp)]
 unfold a0R;rw[e,e2]
theorem a7i {lg:Int} {one:Bool} {qs:List (List Int)} {ps z:List Int} {n:Int} (hps:∀ x∈ps,0<=x/\x<256) (h:decM lg one qs ps n=(0,z)):canM lg one qs z=true/\Bytes z/\(z.length:Int)=n/\ps=packB (a0R lg one qs z++[true]):=by
 unfold decM at h
 by_cases h1:n<0\/131072<n\/a0A lg one qs=false
 · rw[if_pos h1] at h;exact absurd (Prod.mk.inj h).1 (by decide)
 · rw[if_neg h1] at h
   by_cases h2:ps.length=0\/lastB ps=0
   · rw[if_pos h2] at h;exact absurd (Prod.mk.inj h).1 (by decide)
   · rw[if_neg h2] at h
     by_cases h3:a0H ps<lg.toNat+lg.toNat
     · rw[if_pos h3] at h;exact absurd (Prod.mk.inj h).1 (by decide)
     · rw[if_neg h3] at h
       have hR:a0A lg one qs=true:=by
        cases hr:a0A lg one qs with
        | true=>rfl
        | false=>exact absurd (.inr (.inr hr)) h1
       have hB:=a9v ps;obtain⟨e0,hB0⟩:=a7h hB (n:=lg.toNat) (by omega);obtain⟨e1,hB1⟩:=a7h hB0 (n:=lg.toNat) (by omega);have e2:(2:Int)^lg.toNat=((2^lg.toNat:Nat):Int):=by simp
       have v0:=a2d ps (a0H ps) lg.toNat;have v1:=a2d ps (a0H ps-lg.toNat) lg.toNat;obtain⟨y,hy1,hy2,hy3,hy4⟩:=b4k hR n.toNat 0 0 _ _ _ [] z _ ⟨by omega,by rw[e2];omega⟩ ⟨by omega,by rw[e2];omega⟩ hB1 h;rw[List.nil_append] at hy1;subst hy1
       have hF0:fitT lg one qs (ctxI z 0) z:=by
        cases z with
        | nil=>trivial
        | cons c y=>rw[a5F _ (by simp)];exact hy3
       obtain⟨hf1,hf2⟩:=c2O hR hF0;refine⟨?_,hf2,by omega,?_⟩
       · unfold canM;rw[hf1,Bool.and_true,decide_eq_true_eq];omega
       · have hE:=a9w lg one qs z;rw[hy4] at hE;simp only[Int.toNat_natCast] at hE;rw[<- e1,<- e0] at hE;rw[hE];exact(c2N hps h2 hB).symm
def runB:Nat->List Bool
 | 0=>a0k 0 2
 | 1=>a0k 1 2
 | 2=>a0k 2 2
 | n+3=>a0k 3 2++runB n
def a0O (q:List Int) (s:Nat):Nat:=((q.drop s).takeWhile (λ x=>decide (x=0))).length
def hdrB (q:List Int):Nat->Nat->Nat->List Bool
 | 0,_,_=>[]
 | d+1,s,left=>if left=0 then [] else
  a0k (q.getD s 0).toNat (Lib.bitLen left)++(if q.getD s 0=0 then runB (a0O q (s+1))++hdrB q d (s+1+a0O q (s+1)) left else hdrB q d (s+1) (left-(q.getD s 0).toNat))
def takeF (ps:List Int) (at_ n:Nat):Nat:=byteL ((List.range n).map (λ i=>decide (bitI ps (at_+i)=1)))
def runT (ps:List Int) (T:Nat):Nat->Nat->Nat->Nat->Int×Nat×Nat
 | 0,_,_,_=>(3,0,0)
 | f+1,at_,n,most=>if T<at_+2 then (3,0,0) else if most<n+takeF ps at_ 2 then (13,0,0) else if takeF ps at_ 2=3 then runT ps T f (at_+2) (n+3) most else (0,n+takeF ps at_ 2,at_+2)
def hdrT (ps:List Int) (T:Nat):Nat->List Int->Nat->Nat->Bool->Nat->Int×List Int×Nat
 | 0,q,_,_,_,_=>(13,q,0)
 | d+1,q,s,left,again,at_=>if left=0 then (0,q,at_) else if s=256 then (13,q,0) else
  if T<at_+Lib.bitLen left then (3,q,0) else if left<takeF ps at_ (Lib.bitLen left) then (13,q,0) else if again=true/\takeF ps at_ (Lib.bitLen left)=0 then (13,q,0) else
  if takeF ps at_ (Lib.bitLen left)=0 then (if s+1=256 then (13,q,0) else if (runT ps T 100 (at_+Lib.bitLen left) 0 (254-s)).1≠0 then ((runT ps T 100 (at_+Lib.bitLen left) 0 (254-s)).1,q,0) else
   hdrT ps T d (q.set s 0) (s+1+(runT ps T 100 (at_+Lib.bitLen left) 0 (254-s)).2.1) left true (runT ps T 100 (at_+Lib.bitLen left) 0 (254-s)).2.2)
  else hdrT ps T d (q.set s (takeF ps at_ (Lib.bitLen left):Nat)) (s+1) (left-takeF ps at_ (Lib.bitLen left)) false (at_+Lib.bitLen left)
def BitsAt (ps:List Int) (at_:Nat) (bs:List Bool):Prop:=∀ i,i<bs.length->bitI ps (at_+i)=(bs.getD i false).toNat
theorem BitsAt.left {ps:List Int} {at_:Nat} {a b:List Bool} (h:BitsAt ps at_ (a++b)):BitsAt ps at_ a:=λ i hi=>by
 rw[h i (by rw[List.length_append];omega),List.getD_eq_getElem?_getD,List.getElem?_append_left hi,<- List.getD_eq_getElem?_getD]
theorem BitsAt.right {ps:List Int} {at_:Nat} {a b:List Bool} (h:BitsAt ps at_ (a++b)):BitsAt ps (at_+a.length) b:=λ i hi=>by
 rw[Nat.add_assoc,h (a.length+i) (by rw[List.length_append];omega),List.getD_eq_getElem?_getD,List.getElem?_append_right (by omega),<- List.getD_eq_getElem?_getD]
 congr 2;omega
theorem c2P {ps:List Int} {at_:Nat} {bs:List Bool} (h:BitsAt ps at_ bs):takeF ps at_ bs.length=byteL bs:=by
 unfold takeF
 congr 1
 refine List.ext_getElem (by simp) λ i h1 h2=>?_;simp only[List.getElem_map,List.getElem_range];rw[h i h2,List.getD_eq_getElem?_getD,List.getElem?_eq_getElem h2,Option.getD_some]
 cases bs[i] <;> decide
theorem a7j {ps:List Int} {at_ v n:Nat} (h:BitsAt ps at_ (a0k v n)) (hv:v<2^n):takeF ps at_ n=v:=by
 have:=c2P h;rw[a0J,a5E,Nat.mod_eq_of_lt hv] at this;exact this
theorem a5G (ps:List Int) (at_ n:Nat):takeF ps at_ n<2^n:=by
 have:=a3N ((List.range n).map (λ i=>decide (bitI ps (at_+i)=1)));rw[List.length_map,List.length_range] at this;exact this
theorem a7k {n:Nat} (h:n<3):runB n=a0k n 2:=by
 have:n=0\/n=1\/n=2:=by omega
 rcases this with rfl | rfl | rfl <;> rfl
theorem a7l {n:Nat} (h:3<=n):runB n=a0k 3 2++runB (n-3):=by
 obtain⟨m,rfl⟩:∃ m,n=m+3:=⟨n-3,by omega⟩;rw[Nat.add_sub_cancel];rfl
theorem a7m (n:Nat):(runB n).length=2*(n/3+1):=by
 induction n using Nat.strongRecOn with
 | _ n ih=>
  by_cases h:n<3
  · rw[a7k h,a0J];omega
  · rw[a7l (by omega),List.length_append,a0J,ih (n-3) (by omega)];omega
theorem a1G {c:List Int} {i:Nat} (h:i<c.length):c.getD i 0∈c:=by
 rw[List.getD_eq_getElem?_getD,List.getElem?_eq_getElem h];exact List.getElem_mem h
theorem a5H {q:List Int} {s:Nat} (h:s<q.length):(q.drop s).sum=q.getD s 0+(q.drop (s+1)).sum:=by
 rw[a4P q s h,List.sum_cons]
theorem a7n {q:List Int} (hq:∀ x∈q,0<=x) (s:Nat):0<=(q.drop s).sum:=a2S (λ x hx=>hq x (List.mem_of_mem_drop hx))
theorem a4Q (q:List Int) (t:Nat) (ht:t<=q.length):t+a0O q t<=q.length/\(∀ k,k<a0O q t->q.getD (t+k) 0=0)/\(t+a0O q t<q.length->q.getD (t+a0O q t) 0≠0):=by
 have key:∀ (d t:Nat),t+d=q.length->t+a0O q t<=q.length/\(∀ k,k<a0O q t->q.getD (t+k) 0=0)/\(t+a0O q t<q.length->q.getD (t+a0O q t) 0≠0):=by
  intro d
  induction d with
  | zero=>
   intro t h;have:a0O q t=0:=by unfold a0O;rw[List.drop_of_length_le (by omega)];rfl
   rw[this];exact⟨by omega,λ k hk=>by omega,λ h2=>by omega⟩
  | succ d ih=>
   intro t h;have hd:=a4P q t (by omega);obtain⟨h1,h2,h3⟩:=ih (t+1) (by omega)
   by_cases h0:q.getD t 0=0
   · have e:a0O q t=a0O q (t+1)+1:=by
       unfold a0O;rw[hd,List.takeWhile_cons,if_pos (decide_eq_true h0),List.length_cons]
     rw[e];refine⟨by omega,λ k hk=>?_,λ h4=>?_⟩
     · cases k with
       | zero=>exact h0
       | succ k=>have:=h2 k (by omega);rw[show t+(k+1)=t+1+k by omega];exact this
     · rw[show t+(a0O q (t+1)+1)=t+1+a0O q (t+1) by omega];exact h3 (by omega)
   · have e:a0O q t=0:=by
       unfold a0O;rw[hd,List.takeWhile_cons,if_neg (by simp only[decide_eq_true_eq];exact h0)];rfl
     rw[e];exact⟨by omega,λ k hk=>by omega,λ _=>h0⟩
 exact key (q.length-t) t (by omega)
theorem a7o {q:List Int} {t:Nat} (ht:t<=q.length):∀ z,z<=a0O q t->(q.drop t).sum=(q.drop (t+z)).sum:=by
 obtain⟨h1,h2,_⟩:=a4Q q t ht;intro z
 induction z with
 | zero=>intro _;rfl
 | succ z ih=>
  intro hz;rw[ih (by omega),a5H (by omega),h2 z (by omega),Int.zero_add];rfl
theorem a4R (l:List Int) (s k:Nat) (x:Int) (hs:s<l.length):(l.set s x).getD k 0=if k=s then x else l.getD k 0:=by
 rw[List.getD_eq_getElem?_getD,List.getElem?_set]
 by_cases h:s=k
 · subst h;rw[if_pos rfl,if_pos hs,if_pos rfl];rfl
 · rw[if_neg h,if_neg (λ e=>h e.symm),<- List.getD_eq_getElem?_getD]
open Go.IntWalk Go.Proofs.YtflfjpkmjnnodaaGreatW.PrintWords
def c4w (bs:List Bool) (w:World) (e:Ending) (w':World):Prop:=∃ v,e=.returned v/\(Kd.int .u8).R 5 w' w.heap.size (λ _=>True) v (packB bs)/\Below w.heap.size w w'
theorem a7J (base p:Nat) (v0:Value) (bs:List Bool) (w:World) (h:WrVal w base p v0 bs) (hl:bs.length<=900000) :
    Calls Tryz.prog 154 #[.pointer (some ⟨p,0,none⟩)] w (c4w bs w):=by
 have hc0:w.cell? ⟨p,0,none⟩=some v0:=(a0a h.blk 0).trans rfl;obtain⟨A,c,rfl⟩:=Kd.R_slice h.row;have HR:=Lib.hid (Kd.R_reads' h.row);have HNil:Hid (A=none->c=0):=λ e=>by subst e;exact b3J h.row
 have HL:Hid ((packB bs).length<=1000000):=by show _<=_;rw[a0B];omega
 clear h hl;go_enter Tryz.func154,Tryz.ntmps154;go_wp2_with fail;refine(a6W _ _ _ _ HR.out.2.2 HL.out HR.out.2.1 HNil.out).mono ?_;rintro e w' ⟨v,rfl,hv,hb⟩;have H:=Lib.hid (And.intro hv hb);clear hv hb;go_wp2_with fail;go_ret;exact⟨v,rfl,H.out.1,H.out.2⟩
theorem a5R (x a b:Int) (w:World):Calls Tryz.prog 209 #[.int .i64 x,.int .i64 a,.int .i64 b] w λ e w'=>e=.returned (.bool (decide (a<=x/\x<=b)))/\w=w':=by
 by_cases h:a<=x
 · have e:decide (a<=x/\x<=b)=decide (x<=b):=by simp[h]
   rw[e];go_enter Tryz.func209,Tryz.ntmps209;go_wp2_with fail;go_ret;exact⟨rfl,rfl⟩
 · have e:decide (a<=x/\x<=b)=false:=by simp[h]
   rw[e];go_enter Tryz.func209,Tryz.ntmps209;go_wp2_with fail;go_ret;exact⟨rfl,rfl⟩
theorem c4x (v left:Nat) (w:World) (h1:1<=left) (h2:left<=4096) (h3:v<=left):Calls Tryz.prog 238 #[.int .i64 v,.int .i64 left] w λ e w'=>e=.returned (.int .i64 (Lib.bitLen left))/\w=w':=by
 have d1:decide ((1:Int)<=(left:Int)/\(left:Int)<=4096)=true:=decide_eq_true (by omega);have d2:decide ((0:Int)<=(v:Int)/\(v:Int)<=(left:Int))=true:=decide_eq_true (by omega);have D:=Lib.hid (And.intro d1 d2);clear d1 d2;go_enter Tryz.func238,Tryz.ntmps238;go_wp2_with fail;refine(a5R _ _ _ _).mono ?_;rw[D.out.1];rintro e w' ⟨rfl,rfl⟩;go_wp2_with fail;refine(a5R _ _ _ _).mono ?_;rw[D.out.2];rintro e w' ⟨rfl,rfl⟩;go_wp2_with fail;refine(a5A _ _ (by omega)).mono ?_;rintro e w' ⟨rfl,rfl⟩;go_wp2_with fail;go_ret;exact⟨rfl,rfl⟩
theorem a9Q {left:Nat} (h1:1<=left) (h2:left<=4096):1<=Lib.bitLen left/\Lib.bitLen left<=13:=by
 have h:=a3m left (by omega) (by omega);refine⟨h.1,?_⟩;refine Classical.byContradiction λ hn=>?_;have:2^13<=2^(Lib.bitLen left-1):=Nat.pow_le_pow_right (by omega) (by omega);omega
theorem c4y (base p:Nat) (v0:Value) (bs:List Bool) (v left:Nat) (w:World) (h:WrVal w base p v0 bs) (hB:base<=w.heap.size) (hl:bs.length<=900000) (h1:1<=left) (h2:left<=4096) (h3:v<=left) :
    Calls Tryz.prog 205 #[.pointer (some ⟨p,0,none⟩),.int .i64 v,.int .i64 left] w λ e w'=>e=.returned (.bool true)/\PutRel base p v0 (bs++a0k v (Lib.bitLen left)) w w':=by
 have HH:=Lib.hid (And.intro h (And.intro hB hl));obtain⟨b1,b2⟩:=a9Q h1 h2;obtain⟨n,hn⟩:∃ n,n=Lib.bitLen left:=⟨_,rfl⟩;rw[<- hn] at b1 b2 ⊢;have HN:=Lib.hid hn;have hd:decide ((0:Int)<(n:Int))=true:=decide_eq_true (by omega);clear h hB hl hn;go_enter Tryz.func205,Tryz.ntmps205;go_wp2_with fail;refine(c4x v left _ h1 h2 h3).mono ?_;rw[<- HN.out];rintro e w' ⟨rfl,rfl⟩;go_wp2_with fail;refine(a2q base p v0 bs v n w HH.out.1 HH.out.2.1 HH.out.2.2 (by omega) (by omega)).mono ?_;rintro e w' ⟨rfl,hp⟩;have HP:=Lib.hid hp;clear hp;go_wp2_with fail;go_ret;exact⟨rfl,HP.out⟩
theorem c4z (n:Nat) (w:World) (h:n<=255):Calls Tryz.prog 239 #[.int .i64 n] w λ e w'=>e=.returned (.int .i64 ((2*(n/3+1):Nat):Int))/\w=w':=by
 have h0:¬ (n:Int)<0:=by omega
 have h1:¬ 255<(n:Int):=by omega
 obtain⟨m,hm⟩:∃ m,m=n/3:=⟨_,rfl⟩;have hm2:(n:Int)/3=(m:Int):=by omega
 have hm3:m<=85:=by omega
 rw[<- hm];clear hm;go_enter Tryz.func239,Tryz.ntmps239;go_wp2_with fail;go_ret;exact⟨a1J (by omega),rfl⟩
theorem c4A (base p:Nat) (v0:Value) (bs:List Bool) (n:Nat) (w:World) (h:WrVal w base p v0 bs) (hB:base<=w.heap.size) (hl:bs.length<=890000) (hn:n<=255) :
    Calls Tryz.prog 207 #[.pointer (some ⟨p,0,none⟩),.int .i64 n] w λ e w'=>e=.returned (.bool true)/\PutRel base p v0 (bs++runB n) w w':=by
 have HH:=Lib.hid (And.intro h (And.intro hB hl));have HRl:Hid ((runB n).length<=172):=by show _<=_;rw[a7m];omega
 have hc0:(((2*(n/3+1):Nat):Int)==0)=false:=beq_eq_false_iff_ne.2 (by omega);obtain⟨cst,hcst⟩:∃ c:Int,c=((2*(n/3+1):Nat):Int):=⟨_,rfl⟩;rw[<- hcst] at hc0;have HC:=Lib.hid hcst;clear h hB hl hcst;go_enter Tryz.func207,Tryz.ntmps207;go_wp2_with fail;refine(c4z n _ hn).mono ?_;rw[<- HC.out];rintro e w' ⟨rfl,rfl⟩;go_wp2_with fail;go_loopw [1] (λ mv wr=>∃ (m:Nat),mv=.int .i64 m/\m<=n/\Hid (∃ bs',PutRel base p v0 bs' w wr/\bs'++runB m=bs++runB n)) (λ mv _=>(intOf mv).toNat)
 case atStart=>exact⟨n,rfl,Nat.le_refl _,bs,⟨v0,HH.out.1,.inl rfl,Only.refl _ _⟩,rfl⟩
 case round=>
  obtain⟨m,rfl,hm,H⟩:=hrel;obtain⟨bs',⟨v1,k1,k2,k3⟩,hbs⟩:=H.out
  have hbl:bs'.length<=900000:=by
   have:=congrArg List.length hbs;rw[List.length_append,List.length_append] at this;have:=HRl.out;have:=HH.out.2.2;omega
  have HK:=Lib.hid (And.intro k1 (And.intro k2 k3));have HBS:=Lib.hid (And.intro hbs hbl);have HB1:Hid (base<=wr.heap.size):=Nat.le_trans HH.out.2.1 k3.size;clear k1 k2 k3 hbs hbl H
  by_cases h3:3<=m
  · go_wp2_with fail;refine(a2q base p v1 bs' 3 2 wr HK.out.1 HB1.out HBS.out.2 (by decide) (by decide)).mono ?_;rintro e w1 ⟨rfl,hp⟩
    have HP:Hid (∃ bs'',PutRel base p v0 bs'' w w1/\bs''++runB (m-3)=bs++runB n):=by
     refine⟨bs'++a0k 3 2,PutRel.trans HK.out hp,?_⟩;rw[List.append_assoc,<- a7l h3];exact HBS.out.1
    clear hp;obtain⟨m',hm'⟩:∃ m',m=m'+3:=⟨m-3,by omega⟩;subst hm';rw[Nat.add_sub_cancel] at HP;have hmm:((m'+3:Nat):Int)-3=(m':Int):=by omega
    go_wp2_with fail;go_roundw
    case rel=>exact⟨m',by first | rfl | (congr 1;omega),by omega,HP⟩
    case measure=>simp[intOf];omega
  · have hr:=a7k (n:=m) (by omega);have HR:=Lib.hid hr;clear hr;go_wp2_with fail;refine(a2q base p v1 bs' m 2 wr HK.out.1 HB1.out HBS.out.2 (by omega) (by decide)).mono ?_;rintro e w1 ⟨rfl,hp⟩
    have HP:Hid (PutRel base p v0 (bs++runB n) w w1):=by
     have:=PutRel.trans HK.out hp;rw[<- HR.out,HBS.out.1] at this;exact this
    clear hp;go_wp2_with fail;go_ret;exact⟨rfl,HP.out⟩
end Go.Proofs.YtflfjpkmjnnodaaGreat
namespace Go.Proofs.YtflfjpkmjnnodaaGreat
open Go.RowKit
def a0y:List Int:=List.replicate 256 0
def a0w (ps:List Int):Int×Nat×List Int×List Int:=
 if ps.length=0 then (3,0,[],[]) else if (ps.getD 0 0).toNat<5\/11<(ps.getD 0 0).toNat then (13,0,[],[]) else
 let h:=hdrT ps (8*ps.length) 257 a0y 0 (2^(ps.getD 0 0).toNat) false 8
 if h.1≠0 then (h.1,0,[],[]) else if h.2.2%8≠0/\(ps.getD (h.2.2/8) 0).toNat/2^(h.2.2%8)≠0 then (4,0,[],[]) else
 (0,(ps.getD 0 0).toNat,h.2.1,ps.drop ((h.2.2+7)/8))
def headB (r:Nat) (q:List Int):List Bool:=a0k r 8++hdrB q 257 0 (2^r)
theorem a9S {ps:List Int} {T:Nat}:∀ (f at_ n most:Nat),(runT ps T f at_ n most).1=0->(runT ps T f at_ n most).2.2<=T:=by
 intro f
 induction f with
 | zero=>intro _ _ _ h;simp[runT] at h
 | succ f ih=>
  intro at_ n most;simp only[runT]
  by_cases h1:T<at_+2
  · rw[if_pos h1];intro h;cases h
  · rw[if_neg h1]
    by_cases h2:most<n+takeF ps at_ 2
    · rw[if_pos h2];intro h;cases h
    · rw[if_neg h2]
      by_cases h3:takeF ps at_ 2=3
      · rw[if_pos h3];exact ih _ _ _
      · rw[if_neg h3];intro _;simp only[];omega
theorem a5b {ps:List Int} {T:Nat}:∀ (d:Nat) (q:List Int) (s left:Nat) (again:Bool) (at_:Nat),at_<=T->(hdrT ps T d q s left again at_).1=0->(hdrT ps T d q s left again at_).2.2<=T:=by
 intro d
 induction d with
 | zero=>intro _ _ _ _ _ _ h;simp[hdrT] at h
 | succ d ih=>
  intro q s left again at_ hat;simp only[hdrT]
  by_cases h0:left=0
  · rw[if_pos h0];intro _;exact hat
  · rw[if_neg h0]
    by_cases h00:s=256
    · rw[if_pos h00];intro h;cases h
    · rw[if_neg h00]
      by_cases h1:T<at_+Lib.bitLen left
      · rw[if_pos h1];intro h;cases h
      · rw[if_neg h1]
        by_cases h2:left<takeF ps at_ (Lib.bitLen left)
        · rw[if_pos h2];intro h;cases h
        · rw[if_neg h2]
          by_cases h3:again=true/\takeF ps at_ (Lib.bitLen left)=0
          · rw[if_pos h3];intro h;cases h
          · rw[if_neg h3]
            by_cases h4:takeF ps at_ (Lib.bitLen left)=0
            · rw[if_pos h4]
              by_cases h5:s+1=256
              · rw[if_pos h5];intro h;cases h
              · rw[if_neg h5]
                by_cases h8:(runT ps T 100 (at_+Lib.bitLen left) 0 (254-s)).1≠0
                · rw[if_pos h8];intro h;exact absurd h h8
                · rw[if_neg h8];exact ih _ _ _ _ _ (a9S _ _ _ _ (by omega))
            · rw[if_neg h4];exact ih _ _ _ _ _ (by omega)
theorem a3S {q:List Int} {r:Nat} (hr12:r<=12) (hq:q.length=256) (hn:∀ x∈q,0<=x):∀ (d s left:Nat),s<=256->(q.drop s).sum=left->left<2^(r+1)->(hdrB q d s left).length<=(256-s)*(r+3):=by
 intro d
 induction d with
 | zero=>intro s left _ _ _;simp[hdrB]
 | succ d ih=>
  intro s left h1 h2 h3;simp only[hdrB]
  by_cases h0:left=0
  · rw[if_pos h0];simp
  · rw[if_neg h0,List.length_append,a0J]
    have hs:s<256:=by
     by_cases e:s<256
     · exact e
     · exfalso;rw[List.drop_of_length_le (by omega)] at h2;simp at h2;omega
    have hsum:=a5H (q:=q) (s:=s) (by omega);have hrest:=a7n hn (s+1);have hv0:0<=q.getD s 0:=hn _ (a1G (by omega))
    have hw:Lib.bitLen left<=r+1:=by
     have hc:¬ r+2<=Lib.bitLen left:=λ e=>by
      have h64:left<2^64:=Nat.lt_of_lt_of_le h3 (Nat.pow_le_pow_right (by omega) (by omega));have h4:=(a3m left (by omega) h64).2.1;have h5:2^(r+1)<=2^(Lib.bitLen left-1):=Nat.pow_le_pow_right (by omega) (by omega)
      generalize 2^(r+1)=A at *
      generalize 2^(Lib.bitLen left-1)=B at *
      omega
     omega
    by_cases hv2:q.getD s 0=0
    · rw[if_pos hv2,List.length_append,a7m];have hs1:s+1<=q.length:=by omega
      obtain⟨z1,_,_⟩:=a4Q q (s+1) hs1;have zs:=a7o (q:=q) hs1 (a0O q (s+1)) (Nat.le_refl _);obtain⟨z,hz⟩:∃ z,z=a0O q (s+1):=⟨_,rfl⟩;rw[<- hz] at z1 zs ⊢;have:=ih (s+1+z) left (by omega) (by omega) h3;obtain⟨m,hm⟩:∃ m,m=256-(s+1+z):=⟨_,rfl⟩;rw[<- hm] at this;rw[show 256-s=m+(z+1) by omega,Nat.add_mul,Nat.add_mul,Nat.one_mul];have h7:z*3<=z*(r+3):=Nat.mul_le_mul_left z (by omega);omega
    · rw[if_neg hv2];have:=ih (s+1) (left-(q.getD s 0).toNat) (by omega) (by omega) (by omega);obtain⟨m,hm⟩:∃ m,m=256-(s+1):=⟨_,rfl⟩;rw[<- hm] at this;rw[show 256-s=m+1 by omega,Nat.add_mul,Nat.one_mul];omega
open Go.IntWalk Go.Proofs.YtflfjpkmjnnodaaGreatW.PrintWords
structure RfAt (w:World) (base p:Nat) (ps:List Int) (at_:Nat):Prop where
 ex:∃ A c,w.heap[p]?=some (.cells #[.slice A ps.length c,.int .i64 at_] 139 (0,0))/\(Kd.int .u8).R 5 w base (λ k=>k<p) (.slice A ps.length c) ps
theorem RfAt.drewN {w:World} {base p:Nat} {ps:List Int} {at_:Nat} (h:RfAt w base p ps at_) (m:Nat):RfAt (w.drewN m) base p ps at_:=by
 obtain⟨A,c,h1,h2⟩:=h.ex;exact⟨A,c,h1,Kd.R_below h2 (a0b (Below.refl _ _) m)⟩
theorem RfAt.store {w:World} {base p:Nat} {ps:List Int} {at_:Nat} (h:RfAt w base p ps at_) (m:Nat):RfAt (w.setCell ⟨p,1,none⟩ (.int .i64 (m:Int))) base p ps m:=by
 obtain⟨A,c,h1,h2⟩:=h.ex;refine⟨A,c,?_,Kd.R_far (p:=⟨p,1,none⟩) h2 (λ k hk=>Nat.ne_of_lt hk) _⟩;rw[a0x h1 1];rfl
theorem RfAt.below {w w1:World} {base p:Nat} {ps:List Int} {at_:Nat} (h:RfAt w base p ps at_) (hb:Below w.heap.size w w1):RfAt w1 base p ps at_:=by
 obtain⟨A,c,h1,h2⟩:=h.ex;exact⟨A,c,a0h h1 hb,Kd.R_below h2 hb⟩
theorem RfAt.far {w:World} {base p:Nat} {ps:List Int} {at_:Nat} (h:RfAt w base p ps at_) {g:Nat} (hg:p<g) (j:Nat) (u:Value):RfAt (w.setCell ⟨g,j,none⟩ u) base p ps at_:=by
 obtain⟨A,c,h1,h2⟩:=h.ex;exact⟨A,c,a1v h1 (p:=⟨g,j,none⟩) (by show p≠g;omega) u,Kd.R_far (p:=⟨g,j,none⟩) h2 (λ k hk=>by show k≠g;omega) u⟩
theorem c4F (y j:Nat) (hy:y<256):bits BinOp.and IntKind.u8 ((y:Int)/2^j) 1=((y/2^j%2:Nat):Int):=by
 have e1:(y:Int)/2^j=((y/2^j:Nat):Int):=by simp
 have h2:=Nat.div_le_self y (2^j);rw[e1];obtain⟨z,hz⟩:∃ z,z=y/2^j:=⟨_,rfl⟩;rw[<- hz] at h2 ⊢;have h:=bits_mask .u8 8 (by decide) (λ n h0 h1=>by rw[IntKind.wrap_u8];omega) 1 (by decide) (z:Int) (by omega) (by omega);have e:((2:Int)^1-1)=1:=by decide
 rw[e] at h;rw[h];omega
theorem c4G (a b j:Nat) (ha:a<2^j) (hb:b<=1) (hj:j<32):bits BinOp.or IntKind.u32 (a:Int) ((b*2^j:Nat):Int)=((a+b*2^j:Nat):Int):=by
 have h8:2^(j+1)<=2^32:=Nat.pow_le_pow_right (by omega) (by omega);rw[Nat.pow_succ] at h8;have hb2:b*2^j<=2^j:=by have:=Nat.mul_le_mul_right (2^j) hb;omega
 have h:=(bits_nat .u32 32 (by decide) (λ n h0 h1=>by rw[IntKind.wrap_u32];omega) a (b*2^j) (by omega) (by omega)).2;rw[h];have e:=Nat.two_pow_add_eq_or_of_lt ha b;rw[Nat.mul_comm b,Nat.or_comm,<- e,Nat.add_comm]
theorem c4H (V y j k:Nat) (hV:V<2^k) (hy:y<256) (hk:k<24):bits BinOp.or IntKind.u32 (V:Int) (bits BinOp.and IntKind.u8 ((y:Int)/2^j) 1%4294967296*2^k%4294967296)=((V+y/2^j%2*2^k:Nat):Int):=by
 rw[c4F y j hy];obtain⟨b,hb⟩:∃ b,b=y/2^j%2:=⟨_,rfl⟩;have hb1:b<=1:=by omega
 rw[<- hb];have hp:2^k<=2^23:=Nat.pow_le_pow_right (by omega) (by omega);have h2:=Nat.mul_le_mul_right (2^k) hb1;have e0:(b:Int)%4294967296=(b:Int):=by omega
 have e1:(b:Int)*2^k=((b*2^k:Nat):Int):=by simp
 rw[e0,e1];have e2:((b*2^k:Nat):Int)%4294967296=((b*2^k:Nat):Int):=by omega
 rw[e2];exact c4G V b k hV hb1 (by omega)
theorem a2X (ps:List Int) (at_ n:Nat):takeF ps at_ (n+1)=takeF ps at_ n+bitI ps (at_+n)*2^n:=by
 unfold takeF;rw[List.range_succ,List.map_append,List.map_singleton,a3o,List.length_map,List.length_range];have h:=a6X ps (at_+n)
 have:(decide (bitI ps (at_+n)=1)).toNat=bitI ps (at_+n):=by
  by_cases e:bitI ps (at_+n)=1
  · rw[decide_eq_true e,e];rfl
  · rw[decide_eq_false e];show 0=_;omega
 rw[this]
theorem b5p (base p:Nat) (ps:List Int) (at_:Nat) (w:World) (h:RfAt w base p ps at_) (hl:ps.length<=1000000) (ha:at_<=8*ps.length) :
    Calls Tryz.prog 208 #[.pointer (some ⟨p,0,none⟩)] w λ e w'=>e=.returned (.int .i64 ((8*ps.length-at_:Nat):Int))/\RfAt w' base p ps at_/\Only (λ k=>k=p) w w':=by
 obtain⟨A,c,hb,hr⟩:=h.ex;have hc0:w.cell? ⟨p,0,none⟩=some (.slice A ps.length c):=(a0a hb 0).trans rfl;have hc1:w.cell? ⟨p,1,none⟩=some (.int .i64 at_):=(a0a hb 1).trans rfl;have HH:=Lib.hid h;clear h hb hr;have hs:(8*(ps.length:Int))-(at_:Int)=((8*ps.length-at_:Nat):Int):=by omega
 go_enter Tryz.func208,Tryz.ntmps208;go_wp2_with fail;go_quiet (fail)
 all_goals
  go_wp2_with fail;go_ret;exact⟨a1J (by omega),HH.out.drewN _,(Only.refl _ _).drewN _⟩
def c4I (base p:Nat) (ps:List Int) (at_ n:Nat) (w:World) (e:Ending) (w':World):Prop:=
 (at_+n<=8*ps.length->e=.returned (.tuple #[.int .u32 (takeF ps at_ n),.bool true])/\RfAt w' base p ps (at_+n))/\(¬ at_+n<=8*ps.length->e=.returned (.tuple #[.int .u32 0,.bool false])/\RfAt w' base p ps at_)/\Only (λ k=>k=p) w w'
theorem a7K (base p:Nat) (ps:List Int) (at_ n:Nat) (w:World) (h:RfAt w base p ps at_) (hps:∀ x∈ps,0<=x/\x<256) (hl:ps.length<=1000000) (ha:at_<=8*ps.length) (hn:n<=24) :
    Calls Tryz.prog 157 #[.pointer (some ⟨p,0,none⟩),.int .i64 n] w (c4I base p ps at_ n w):=by
 have HH:=Lib.hid h;have HP:=Lib.hid (And.intro hps (And.intro hl ha));have hal:at_<=8000000:=by omega
 obtain⟨lf,hlf⟩:∃ lf,lf=8*ps.length-at_:=⟨_,rfl⟩;have HLF:=Lib.hid hlf;have hlfb:lf<=8000000:=by omega
 have hd1:decide ((n:Int)<0)=false:=decide_eq_false (by omega);have hd2:decide ((24:Int)<(n:Int))=false:=decide_eq_false (by omega);have hd2n:decide (24<n)=false:=decide_eq_false (by omega);clear h hps hl ha hlf
 by_cases hle:n<=lf
 · have hd3:decide ((lf:Int)<(n:Int))=false:=decide_eq_false (by omega);have hd3n:decide (lf<n)=false:=decide_eq_false (by omega);go_enter Tryz.func157,Tryz.ntmps157;go_wp2_with fail;refine(b5p base p ps at_ w HH.out HP.out.2.1 HP.out.2.2).mono ?_;rintro e w1 ⟨rfl,h1,ho1⟩;rw[<- HLF.out];have H1:=Lib.hid (And.intro h1 ho1);clear h1 ho1;go_wp2_with fail;go_loopw [6,21] (λ v kv wr=>∃ (k:Nat),kv=.int .i64 k/\k<=n/\v=.int .u32 (takeF ps at_ k)/\Hid (RfAt wr base p ps (at_+k)/\Only (λ k=>k=p) w wr)) (λ _ kv _=>n-(intOf kv).toNat)
   case atStart=>exact⟨0,rfl,by omega,rfl,H1.out.1,H1.out.2⟩
   case round=>
    obtain⟨k,rfl,hk,rfl,H⟩:=hrel
    by_cases hlt:k<n
    · obtain⟨A,c,hb,hr⟩:=H.out.1.ex;obtain⟨t,ht⟩:∃ t,t=at_+k:=⟨_,rfl⟩;have htl:t<8*ps.length:=by have:=HLF.out;omega
      have hc0:wr.cell? ⟨p,0,none⟩=some (.slice A ps.length c):=(a0a hb 0).trans rfl;have hc1:wr.cell? ⟨p,1,none⟩=some (.int .i64 t):=by rw[ht];exact(a0a hb 1).trans rfl
      have hf1:wr.frozen? ⟨p,1,none⟩=false:=a0e hb 1;obtain⟨ad,rfl,hcx⟩:=a0v (Kd.R_reads' hr).2.2 (t/8) (by omega);have hy0:=HP.out.1 _ (a1G (show t/8<ps.length by omega));obtain⟨y,hy⟩:∃ y:Nat,ps.getD (t/8) 0=y:=⟨(ps.getD (t/8) 0).toNat,by omega⟩;have hy2:y<256:=by omega
      rw[hy] at hcx;obtain⟨g,hg⟩:∃ g,g=t/8:=⟨_,rfl⟩;obtain⟨j,hj⟩:∃ j,j=t%8:=⟨_,rfl⟩;rw[<- hg] at hcx;have hgI:(t:Int)/8=(g:Int):=by omega
      have hjI:(t:Int)%8=(j:Int):=by omega
      have hgl:(g:Int)<(ps.length:Int):=by omega
      have hj8:j<8:=by omega
      have ht8:t<=8000000:=by have:=HP.out.2.1;omega
      have HZ:Hid (bitI ps t=y/2^j%2):=by show _=_;unfold bitI;rw[hy,<- hj];rfl
      obtain⟨V,hV⟩:∃ V,V=takeF ps at_ k:=⟨_,rfl⟩;have hVl:V<2^k:=by rw[hV];exact a5G _ _ _
      rw[<- hV];have HV:=Lib.hid (And.intro hV (And.intro hVl ht));clear hb hr hy hg hj hV hVl hy0 ht;go_wp2_with fail;go_quiet (fail)
      all_goals
       have hVn:((V+y/2^j%2*2^k:Nat):Int)=(takeF ps at_ (k+1):Nat):=by rw[a2X,<- HV.out.2.2,HZ.out,<- HV.out.1]
       rw[c4H V y j k HV.out.2.1 hy2 (by omega),hVn];have HR2:Hid (RfAt (wr.drewN nq) base p ps t/\Only (λ k=>k=p) w (wr.drewN nq)):=⟨by rw[HV.out.2.2];exact H.out.1.drewN nq,H.out.2.drewN nq⟩;obtain⟨w2,hw2⟩:∃ w2,w2=wr.drewN nq:=⟨_,rfl⟩;rw[<- hw2] at HR2 ⊢;clear hw2 hc0 hc1 hf1 hcx hVn;obtain⟨A2,c2,hb2,hr2⟩:=HR2.out.1.ex;have hc1:w2.cell? ⟨p,1,none⟩=some (.int .i64 t):=(a0a hb2 1).trans rfl;have hf1:w2.frozen? ⟨p,1,none⟩=false:=a0e hb2 1;clear hb2 hr2;go_wp2_with fail;go_roundw
       case rel=>
        refine⟨k+1,by go_num,by omega,rfl,?_,HR2.out.2.set1 _ _⟩;have:=HR2.out.1.store (t+1);rw[show at_+(k+1)=t+1 by have:=HV.out.2.2;omega];exact this
       case measure=>simp[intOf];omega
    · have hkn:k=n:=by omega
      subst hkn;go_wp2_with fail;go_ret2;exact⟨λ _=>⟨rfl,H.out.1⟩,λ h=>absurd (by have:=HLF.out;have:=HP.out.2.2;omega) h,H.out.2⟩
 · have hd3:decide ((lf:Int)<(n:Int))=true:=decide_eq_true (by omega);have hd3n:decide (lf<n)=true:=decide_eq_true (by omega);go_enter Tryz.func157,Tryz.ntmps157;go_wp2_with fail;refine(b5p base p ps at_ w HH.out HP.out.2.1 HP.out.2.2).mono ?_;rintro e w1 ⟨rfl,h1,ho1⟩;rw[<- HLF.out];have H1:=Lib.hid (And.intro h1 ho1);clear h1 ho1;go_wp2_with fail;go_ret2;exact⟨λ h=>absurd h (by have:=HLF.out;omega),λ _=>⟨rfl,H1.out.1⟩,H1.out.2⟩
def b5q (base p:Nat) (ps:List Int) (at_ left:Nat) (w:World) (e:Ending) (w':World):Prop:=
 (8*ps.length<at_+Lib.bitLen left->e=.returned (.tuple #[.int .i64 0,.int .i64 3])) /\
 (at_+Lib.bitLen left<=8*ps.length->left<takeF ps at_ (Lib.bitLen left)->e=.returned (.tuple #[.int .i64 0,.int .i64 13])) /\
 (at_+Lib.bitLen left<=8*ps.length->takeF ps at_ (Lib.bitLen left)<=left->e=.returned (.tuple #[.int .i64 (takeF ps at_ (Lib.bitLen left)),.int .i64 0])/\RfAt w' base p ps (at_+Lib.bitLen left))/\Only (λ k=>k=p) w w'
theorem c4J (base p:Nat) (ps:List Int) (at_ left:Nat) (w:World) (h:RfAt w base p ps at_) (hps:∀ x∈ps,0<=x/\x<256) (hl:ps.length<=1000000) (ha:at_<=8*ps.length) (h1:1<=left) (h2:left<=4096) :
    Calls Tryz.prog 160 #[.pointer (some ⟨p,0,none⟩),.int .i64 left] w (b5q base p ps at_ left w):=by
 have d1:decide ((1:Int)<=(left:Int)/\(left:Int)<=4096)=true:=decide_eq_true (by omega);have D:=Lib.hid d1;obtain⟨b1,b2⟩:=a9Q h1 h2;obtain⟨n,hn⟩:∃ n,n=Lib.bitLen left:=⟨_,rfl⟩;have HT:=Lib.hid (a7K base p ps at_ n w h hps hl ha (by omega));have HN:=Lib.hid hn;unfold b5q;rw[<- hn] at b1 b2 ⊢;have hvl:=a5G ps at_ n;have hp13:2^n<=2^13:=Nat.pow_le_pow_right (by omega) b2;obtain⟨V,hV⟩:∃ V,V=takeF ps at_ n:=⟨_,rfl⟩;rw[<- hV] at hvl ⊢;have hV8:V<8192:=by omega
 have HV:=Lib.hid hV;clear d1 hn hV hvl hp13 h hps hl ha;go_enter Tryz.func160,Tryz.ntmps160;go_wp2_with fail;refine(a5R _ _ _ _).mono ?_;rw[D.out];rintro e w' ⟨rfl,rfl⟩;go_wp2_with fail;refine(a5A _ _ (by omega)).mono ?_;have hwd:a2b (left:Int)=n:=by rw[HN.out];rfl
 rw[hwd];rintro e w' ⟨rfl,rfl⟩;clear hwd;go_wp2_with fail;refine HT.out.mono ?_;rintro e w1 ⟨t1,t2,t3⟩;have H3:=Lib.hid t3
 by_cases hle:at_+n<=8*ps.length
 · obtain⟨rfl,hr⟩:=t1 hle;have H1:=Lib.hid hr;have HLE:=Lib.hid hle;rw[<- HV.out];clear t1 t2 t3 hr hle
   by_cases hvl:V<=left
   · have d2:decide ((0:Int)<=(V:Int)/\(V:Int)<=(left:Int))=true:=decide_eq_true (by omega);have D2:=Lib.hid d2;clear d2;go_wp2_with fail;refine(a5R _ _ _ _).mono ?_;rw[D2.out];rintro e w' ⟨rfl,rfl⟩;go_wp2_with fail;go_ret2;exact⟨λ h=>absurd HLE.out (by omega),λ _ h=>absurd hvl (by omega),λ _ _=>⟨rfl,H1.out⟩,H3.out⟩
   · have d2:decide ((0:Int)<=(V:Int)/\(V:Int)<=(left:Int))=false:=decide_eq_false (by omega);have D2:=Lib.hid d2;clear d2;go_wp2_with fail;refine(a5R _ _ _ _).mono ?_;rw[D2.out];rintro e w' ⟨rfl,rfl⟩;go_wp2_with fail;go_ret2;exact⟨λ h=>absurd HLE.out (by omega),λ _ _=>rfl,λ _ h=>absurd h (by omega),H3.out⟩
 · obtain⟨rfl,hr⟩:=t2 hle;have HLE:=Lib.hid hle;clear t1 t2 t3 hr hle;go_wp2_with fail;go_ret2;exact⟨λ _=>rfl,λ h=>absurd h HLE.out,λ h=>absurd h HLE.out,H3.out⟩
def a9T:Value->Nat
 | .bool false=>1
 | _=>0
def a9U (base p:Nat) (ps:List Int) (at_ most:Nat) (w:World) (e:Ending) (w':World):Prop:=
 ((runT ps (8*ps.length) 100 at_ 0 most).1=0->e=.returned (.tuple #[.int .i64 (runT ps (8*ps.length) 100 at_ 0 most).2.1,.int .i64 0])/\RfAt w' base p ps (runT ps (8*ps.length) 100 at_ 0 most).2.2) /\
 ((runT ps (8*ps.length) 100 at_ 0 most).1≠0->e=.returned (.tuple #[.int .i64 0,.int .i64 (runT ps (8*ps.length) 100 at_ 0 most).1]))/\Only (λ k=>k=p) w w'
theorem c4K (base p:Nat) (ps:List Int) (at_ most:Nat) (w:World) (h:RfAt w base p ps at_) (hps:∀ x∈ps,0<=x/\x<256) (hl:ps.length<=1000000) (ha:at_<=8*ps.length) (hm:most<=255) :
    Calls Tryz.prog 161 #[.pointer (some ⟨p,0,none⟩),.int .i64 most] w (a9U base p ps at_ most w):=by
 obtain⟨R,hR⟩:∃ R,R=runT ps (8*ps.length) 100 at_ 0 most:=⟨_,rfl⟩;unfold a9U;rw[<- hR];have HP:=Lib.hid (And.intro hps (And.intro hl ha));have HI:Hid (∃ f at',RfAt w base p ps at'/\at'<=8*ps.length/\runT ps (8*ps.length) f at' 0 most=R/\300<=3*f+0/\Only (λ k=>k=p) w w):=⟨100,at_,h,ha,hR.symm,by omega,Only.refl _ _⟩;clear h hps hl ha hR;go_enter Tryz.func161,Tryz.ntmps161;go_wp2_with fail;go_loopw [6,7] (λ nv lv wr=>∃ m:Nat,nv=.int .i64 m/\m<=most/\((lv=.bool false/\Hid (∃ f at',RfAt wr base p ps at'/\at'<=8*ps.length/\runT ps (8*ps.length) f at' m most=R/\300<=3*f+m/\Only (λ k=>k=p) w wr))\/(lv=.bool true/\Hid (∃ at',RfAt wr base p ps at'/\R=(0,m,at')/\Only (λ k=>k=p) w wr)))) (λ nv lv _=>2*(600-(intOf nv).toNat)+a9T lv)
 case atStart=>exact⟨0,rfl,by omega,.inl ⟨rfl,HI⟩⟩
 case round=>
  obtain⟨m,rfl,hmm,⟨rfl,H⟩ | ⟨rfl,H⟩⟩:=hrel
  · obtain⟨f,at',h1,h2,h3,h4,h5⟩:=H.out;obtain⟨f,rfl⟩:∃ g,f=g+1:=⟨f-1,by omega⟩;have HT:=Lib.hid (a7K base p ps at' 2 wr h1 HP.out.1 HP.out.2.1 h2 (by decide));simp only[runT] at h3;have HH:=Lib.hid (And.intro h3 (And.intro h4 h5));clear h1 h2 h3 h4 h5 H;go_wp2_with fail;refine HT.out.mono ?_;rintro e w1 ⟨t1,t2,t3⟩;have HO:Hid (Only (λ k=>k=p) w w1):=HH.out.2.2.trans t3
    by_cases hle:at'+2<=8*ps.length
    · obtain⟨rfl,hr⟩:=t1 hle;have H1:=Lib.hid hr;have HLE:=Lib.hid hle;have hvl:=a5G ps at' 2;obtain⟨V,hV⟩:∃ V,V=takeF ps at' 2:=⟨_,rfl⟩;have hR:=HH.out.1;rw[if_neg (by omega)] at hR;rw[<- hV] at hvl hR ⊢;have HR:=Lib.hid hR;clear t1 t2 t3 hr hle hV hR;have hV4:V=0\/V=1\/V=2\/V=3:=by omega
      by_cases hmo:most<m+V
      · have HRE:Hid (R=(13,0,0)):=by have:=HR.out;rw[if_pos hmo] at this;exact this.symm
        rcases hV4 with rfl | rfl | rfl | rfl
        · exfalso;omega
        all_goals
         go_wp2_with fail;go_ret2;exact⟨λ h=>by rw[HRE.out] at h;exact absurd h (by decide),λ _=>(by rw[HRE.out];rfl),HO.out⟩
      · by_cases h3:V=3
        · have HRE:Hid (runT ps (8*ps.length) f (at'+2) (m+3) most=R):=by have:=HR.out;rw[if_neg hmo,if_pos h3] at this;exact this
          subst h3;go_wp2_with fail;go_roundw
          case rel=>exact⟨m+3,by go_num,by omega,.inl ⟨rfl,f,at'+2,H1.out,HLE.out,HRE.out,by have:=HH.out.2.1;omega,HO.out⟩⟩
          case measure=>simp[intOf,a9T];omega
        · have HRE:Hid (R=(0,m+V,at'+2)):=by have:=HR.out;rw[if_neg hmo,if_neg h3] at this;exact this.symm
          have hV3:V=0\/V=1\/V=2:=by omega
          rcases hV3 with rfl | rfl | rfl
          all_goals
           go_wp2_with fail;go_roundw
           case rel=>exact⟨_,by go_num,by omega,.inr ⟨rfl,at'+2,H1.out,HRE.out,HO.out⟩⟩
           case measure=>simp[intOf,a9T] <;> omega
    · obtain⟨rfl,hr⟩:=t2 hle;have HRE:Hid (R=(3,0,0)):=by have:=HH.out.1;rw[if_pos (by omega)] at this;exact this.symm
      clear t1 t2 t3 hr hle;go_wp2_with fail;go_ret2;exact⟨λ h=>by rw[HRE.out] at h;exact absurd h (by decide),λ _=>(by rw[HRE.out];rfl),HO.out⟩
  · obtain⟨at',h1,h2,h3⟩:=H.out;have HH:=Lib.hid (And.intro h1 (And.intro h2 h3));clear h1 h2 h3 H;go_wp2_with fail;go_ret2;exact⟨λ _=>by rw[HH.out.2.1];exact⟨rfl,HH.out.1⟩,λ h=>absurd (by rw[HH.out.2.1]) h,HH.out.2.2⟩
def c4U (ps:List Int) (w:World) (e:Ending) (w':World):Prop:=∃ p,e=.returned (.pointer (some ⟨p,0,none⟩))/\w.heap.size<=p/\RfAt w' w.heap.size p ps 0/\Below w.heap.size w w'
theorem a9X (A:Option Addr) (c:Nat) (ps:List Int) (w:World) (hr:(Kd.int .u8).C w A ps.length ps) (hl:ps.length<=1000000) (hc:ps.length<=c) (hnil:A=none->c=0) :
    Calls Tryz.prog 65 #[.slice A ps.length c] w (c4U ps w):=by
 have HR:=Lib.hid (And.intro hr (And.intro hl (And.intro hc hnil)));clear hr hl hc hnil;go_enter Tryz.func65,Tryz.ntmps65;go_wp2_with fail;refine(a6W _ _ _ _ HR.out.1 HR.out.2.1 HR.out.2.2.1 HR.out.2.2.2).mono ?_;rintro e w1 ⟨v,rfl,hv,hb⟩;obtain⟨A1,c1,rfl⟩:=Kd.R_slice hv;have H1:=Lib.hid (And.intro hv hb);clear hv hb;go_wp2_with fail;go_ret;refine⟨w1.heap.size,rfl,H1.out.2.size,⟨A1,c1,a0i _ _,?_⟩,H1.out.2.alloc H1.out.2.size _⟩;exact Kd.R_alloc (Kd.R_mono (Kd.R_bound H1.out.1) (λ k hk=>by have:=hk.2.2.1;omega)) _
theorem a9Y (base p:Nat) (ps:List Int) (at_:Nat) (w:World) (h:RfAt w base p ps at_) (ha:at_<=8000000) :
    Calls Tryz.prog 109 #[.pointer (some ⟨p,0,none⟩)] w λ e w'=>e=.returned (.int .i64 (((at_+7)/8:Nat):Int))/\w=w':=by
 obtain⟨A,c,hb,hr⟩:=h.ex;have hc1:w.cell? ⟨p,1,none⟩=some (.int .i64 at_):=(a0a hb 1).trans rfl;clear h hb hr;go_enter Tryz.func109,Tryz.ntmps109;go_wp2_with fail;go_ret;exact⟨a1J (by omega),rfl⟩
def padOk (ps:List Int) (at_:Nat):Bool:=decide (¬ (at_%8≠0/\(ps.getD (at_/8) 0).toNat/2^(at_%8)≠0))
def c4V (base p:Nat) (ps:List Int) (at_:Nat) (w:World) (e:Ending) (w':World):Prop:=
 e=.returned (.bool (padOk ps at_))/\(padOk ps at_=true->RfAt w' base p ps (8*((at_+7)/8)))/\Only (λ k=>k=p) w w'
theorem b5u (base p:Nat) (ps:List Int) (at_:Nat) (w:World) (h:RfAt w base p ps at_) (hps:∀ x∈ps,0<=x/\x<256) (hl:ps.length<=1000000) (ha:at_<=8*ps.length) :
    Calls Tryz.prog 69 #[.pointer (some ⟨p,0,none⟩)] w (c4V base p ps at_ w):=by
 obtain⟨A,c,hb,hr⟩:=h.ex;have hc0:w.cell? ⟨p,0,none⟩=some (.slice A ps.length c):=(a0a hb 0).trans rfl;have hc1:w.cell? ⟨p,1,none⟩=some (.int .i64 at_):=(a0a hb 1).trans rfl;have hat:at_<=8000000:=by omega
 have HH:=Lib.hid h
 have tail:∀ w2:World,RfAt w2 base p ps at_->Hid (w2.cell? ⟨p,1,none⟩=some (.int .i64 at_)/\w2.frozen? ⟨p,1,none⟩=false):=λ w2 h2=>by
  obtain⟨A2,c2,hb2,-⟩:=h2.ex;exact⟨(a0a hb2 1).trans rfl,a0e hb2 1⟩
 have HT:=Lib.hid tail;clear tail
 by_cases h8:at_%8=0
 · have HE:Hid (padOk ps at_=true):=by show _=_;unfold padOk;rw[decide_eq_true (by omega)]
   have hd:((at_:Int)%8==0)=true:=by simp;omega
   have hd2:(at_:Int)%8=0:=by omega
   clear h hb hr hps hl ha;go_enter Tryz.func69,Tryz.ntmps69;go_wp2_with fail;go_quiet (fail)
   all_goals
    have HR2:Hid (RfAt (w.drewN nq) base p ps at_/\Only (λ k=>k=p) w (w.drewN nq)):=⟨HH.out.drewN nq,(Only.refl _ _).drewN nq⟩;obtain⟨w2,hw2⟩:∃ w2,w2=w.drewN nq:=⟨_,rfl⟩;rw[<- hw2] at HR2 ⊢;clear hw2 hc0 hc1;go_wp2_with fail;refine(a9Y base p ps at_ w2 HR2.out.1 hat).mono ?_;rintro e w3 ⟨rfl,rfl⟩;obtain⟨hc1,hf1⟩:=(HT.out w2 HR2.out.1).out;obtain⟨m,hm⟩:∃ m,m=(at_+7)/8:=⟨_,rfl⟩;have hmb:m<=1000001:=by omega
    rw[<- hm];have HM:=Lib.hid hm;clear hm;go_wp2_with fail;go_ret;refine⟨a0W HE.out.symm,λ _=>?_,HR2.out.2.set1 _ _⟩;rw[<- HM.out];exact HR2.out.1.store (8*m)
 · obtain⟨ad,rfl,hcx⟩:=a0v (Kd.R_reads' hr).2.2 (at_/8) (by omega);have hy0:=hps _ (a1G (show at_/8<ps.length by omega));obtain⟨y,hy⟩:∃ y:Nat,ps.getD (at_/8) 0=y:=⟨(ps.getD (at_/8) 0).toNat,by omega⟩;have hy2:y<256:=by omega
   rw[hy] at hcx;obtain⟨g,hg⟩:∃ g,g=at_/8:=⟨_,rfl⟩;obtain⟨j,hj⟩:∃ j,j=at_%8:=⟨_,rfl⟩;obtain⟨z,hz⟩:∃ z,z=y/2^j:=⟨_,rfl⟩;have hzI:(y:Int)/2^j=(z:Int):=by rw[hz];simp
   have hPE:padOk ps at_=decide (z=0):=by
    unfold padOk;rw[hy,<- hj,hz]
    by_cases e:y/2^j=0
    · rw[decide_eq_true e,decide_eq_true (by intro h;exact h.2 (by simpa using e))]
    · rw[decide_eq_false e,decide_eq_false (by intro h;exact h ⟨by omega,by simpa using e⟩)]
   rw[<- hg] at hcx;have hgI:(at_:Int)/8=(g:Int):=by omega
   have hjI:(at_:Int)%8=(j:Int):=by omega
   have hgl:(g:Int)<(ps.length:Int):=by omega
   have hj8:j<8:=by omega
   have hj0:¬ j=0:=by omega
   have hjb:((at_:Int)%8==0)=false:=beq_eq_false_iff_ne.2 (by omega);have hjn:¬ (at_:Int)%8=0:=by omega
   have hg1:((at_:Int)%8 != 0)=true:=by simpa using hjn
   have htm:(at_:Int).tmod 8=(at_:Int)%8:=Int.tmod_eq_emod_of_nonneg (by omega);have hg3:((at_:Int).tmod 8 != 0)=true:=by rw[htm];exact hg1
   have htj:(at_:Int).tmod 8=(j:Int):=by rw[htm];exact hjI
   have hjn1:((j:Int)!=0)=true:=by rw[<- htj];exact hg3
   have hgw:IntKind.i64.wrap (g:Int)=(g:Int):=i64_in _ (by omega);clear htm;have hzl:z<256:=by rw[hz];exact Nat.lt_of_le_of_lt (Nat.div_le_self _ _) hy2
   have HG:=Lib.hid (And.intro hg hj);clear h hb hr hps hl ha hy hy0 hg hj hz
   by_cases hz0:z=0
   · have HE:Hid (padOk ps at_=true):=by show _=_;rw[hPE];exact decide_eq_true hz0
     have hzb:((z:Int)==0)=true:=by rw[hz0];rfl
     have hzn:((z:Int)!=0)=false:=by rw[hz0];rfl
     clear hPE;go_enter Tryz.func69,Tryz.ntmps69;go_wp2_with fail;go_quiet (fail);have HR2:Hid (RfAt (w.drewN nq) base p ps at_/\Only (λ k=>k=p) w (w.drewN nq)):=⟨HH.out.drewN nq,(Only.refl _ _).drewN nq⟩;obtain⟨w2,hw2⟩:∃ w2,w2=w.drewN nq:=⟨_,rfl⟩;rw[<- hw2] at HR2 ⊢;clear hw2 hc0 hc1;go_wp2_with fail;refine(a9Y base p ps at_ w2 HR2.out.1 hat).mono ?_;rintro e w3 ⟨rfl,rfl⟩;obtain⟨hc1,hf1⟩:=(HT.out w2 HR2.out.1).out;obtain⟨m,hm⟩:∃ m,m=(at_+7)/8:=⟨_,rfl⟩;have hmb:m<=1000001:=by omega
     rw[<- hm];have HM:=Lib.hid hm;clear hm;go_wp2_with fail;go_ret;refine⟨a0W HE.out.symm,λ _=>?_,HR2.out.2.set1 _ _⟩;rw[<- HM.out];exact HR2.out.1.store (8*m)
   · have HE:Hid (padOk ps at_=false):=by show _=_;rw[hPE];exact decide_eq_false hz0
     have hzb:((z:Int)==0)=false:=beq_eq_false_iff_ne.2 (by omega);have hzn:((z:Int)!=0)=true:=by simp;omega
     clear hPE;go_enter Tryz.func69,Tryz.ntmps69;go_wp2_with fail;go_quiet (fail);go_wp2_with fail;go_ret;exact⟨a0W HE.out.symm,(λ h=>by rw[HE.out] at h;cases h),(Only.refl _ _).drewN _⟩
theorem c4W (A:Option Addr) (n c k:Nat) (hk:k<=n) (hc:n<=c):∀ W:World,(Instr.slice 22 (.slice A n c) (some (.int .i64 (k:Int))) (some (.int .i64 (n:Int))) (some (.int .i64 (n:Int)))).run Tryz.prog W=.ok (.slice (if n=k then A else A.map (·.add (k*1))) (n-k) (n-k)) W:=by
 intro W;obtain⟨i0,hi,hsz⟩:=Option.map_eq_some_iff.1 a9j;have hel:Tryz.prog.elem 22=5:=by simp[Program.elem,Tryz.underlying22]
 have hu:Tryz.prog.underlying 22=some (.slice (Tryz.prog.elem 22)):=by rw[hel];exact Tryz.underlying22
 rw[run_slice_lhm W 22 A n c hu .i64 .i64 .i64 (k:Int) (n:Int) (n:Int) (by omega) (by omega) (by omega) (by omega),hel];simp[sizeOf,typeInfo,hi,hsz,sliced,Result.andThen]
def b5v (ps:List Int) (at_:Nat) (w:World) (e:Ending) (w':World):Prop:=∃ v,e=.returned v/\(Kd.int .u8).R 5 w' w.heap.size (λ _=>True) v (ps.drop ((at_+7)/8))/\Below w.heap.size w w'
theorem b5w (base p:Nat) (ps:List Int) (at_:Nat) (w:World) (h:RfAt w base p ps at_) (hl:ps.length<=1000000) (ha:at_<=8*ps.length) :
    Calls Tryz.prog 70 #[.pointer (some ⟨p,0,none⟩)] w (b5v ps at_ w):=by
 obtain⟨A,c,hb,hr⟩:=h.ex;have hc0:w.cell? ⟨p,0,none⟩=some (.slice A ps.length c):=(a0a hb 0).trans rfl;have HH:=Lib.hid h;have hrd:=Kd.R_reads' hr;have hcap:ps.length<=c:=hrd.2.1;obtain⟨k,hk⟩:∃ k,k=(at_+7)/8:=⟨_,rfl⟩;have hkn:k<=ps.length:=by omega
 obtain⟨A2,hA2⟩:∃ A2,A2=(if ps.length=k then A else A.map (·.add (k*1))):=⟨_,rfl⟩
 have hC:(Kd.int .u8).C w A2 (ps.drop k).length (ps.drop k):=by
  have h2:=Kd.C_drop (c:=ps.length) (m:=k) hrd.2.2 (by omega) (by omega);rw[hA2];exact h2
 have hnil:A2=none->(ps.drop k).length=0:=λ e=>by
  rcases Nat.eq_zero_or_pos (ps.drop k).length with h0 | h0
  · exact h0
  · obtain⟨ad,e2,_⟩:=a5v hC h0;rw[e] at e2;cases e2
 obtain⟨n,hn⟩:∃ n,n=ps.length:=⟨_,rfl⟩;have hcut:=c4W A ps.length c k hkn hcap;rw[<- hA2] at hcut;have hdl:(ps.drop k).length=ps.length-k:=by rw[List.length_drop]
 rw[<- hdl] at hcut;obtain⟨ds,hds⟩:∃ ds,ds=ps.drop k:=⟨_,rfl⟩;rw[<- hds] at hcut hC hnil hdl;rw[<- hn] at hc0 hcut;have hn6:n<=1000000:=by omega
 have HX:=Lib.hid (And.intro hk (And.intro hds (And.intro hC (And.intro hnil (And.intro hn hdl)))));have hat:at_<=8000000:=by omega
 clear h hb hr hrd hk hA2 hC hnil hn hds hdl;go_enter Tryz.func70,Tryz.ntmps70;go_wp2_with fail
 go_region_held3 (λ w'=>Below w.heap.size w w'/\w'.cell? ⟨p,0,none⟩=some (.slice A n c)) ((repeat' apply And.intro) <;> first | exact(Below.refl _ _).drew | assumption | exact a0p hb ‹_› | (refine a6f ?_ ?_ hb <;> first | assumption | exact Below.size (by assumption)) | exact⟨hb.os,hb.tape,hb.output,hb.size,hb.block⟩)
  (first | (go_at_call 109;refine(a9Y base p ps at_ _ (HH.out.below (by first | exact(Below.refl _ _).drew | exact And.left (by assumption))) hat).mono ?_;rw[<- HX.out.1];rintro e w' ⟨rfl,rfl⟩) | (go_at_call 106;refine(a6W _ _ ds _ (Kd.C_below HX.out.2.2.1 (by first | exact(Below.refl _ _).drew | exact And.left (by assumption))) (by have:=HX.out.2.2.2.2.2;have:=HX.out.2.2.2.2.1;omega) (Nat.le_refl _) HX.out.2.2.2.1).mono ?_;rintro e w' ⟨v,rfl,hv,hb⟩))
 all_goals
  rename_i hheld;have H1:Hid ((Kd.int .u8).R 5 w' w.heap.size (λ _=>True) v ds/\Below w.heap.size w w'):=⟨hv,hheld.1⟩;clear hv hb hheld;go_wp2_with fail;go_ret;refine⟨v,rfl,?_,H1.out.2⟩;rw[<- HX.out.1,<- HX.out.2.1];exact H1.out.1
end Go.Proofs.YtflfjpkmjnnodaaGreat
namespace Go.Proofs.YtflfjpkmjnnodaaGreat
open Go.RowKit Go.Proofs.YtflfjpkmjnnodaaGreatW.PrintWords
def lessC (x y:K3):Bool:=if x.2.1≠y.2.1 then decide (y.2.1<x.2.1) else if x.2.2≠y.2.2 then decide (y.2.2<x.2.2) else decide (x.1<y.1)
def GC (_:K3):Prop:=True
theorem b5x {x y:K3}:lessC x y=true↔y.2.1<x.2.1\/(y.2.1=x.2.1/\(y.2.2<x.2.2\/(y.2.2=x.2.2/\x.1<y.1))):=by
 unfold lessC
 by_cases h1:x.2.1=y.2.1
 · rw[if_neg (by omega)]
   by_cases h2:x.2.2=y.2.2
   · rw[if_neg (by omega),decide_eq_true_iff];omega
   · rw[if_pos h2,decide_eq_true_iff];omega
 · rw[if_pos h1,decide_eq_true_iff];omega
theorem a7M {x y:K3}:lessC x y=false↔¬ (y.2.1<x.2.1\/(y.2.1=x.2.1/\(y.2.2<x.2.2\/(y.2.2=x.2.2/\x.1<y.1)))):=by
 rw[<- Bool.not_eq_true,b5x]
open HeapL in
theorem ordC:Ord lessC GC where
 asym a b _ _ h:=by
  rw[b5x] at h;rw[a7M];omega
 trans a b c _ _ _ h1 h2:=by
  rw[a7M] at h1 h2 ⊢;omega
theorem b5y (A:Option Addr) (n c:Nat) (xs:List K3) (i j:Nat) (hi:i<n) (hj:j<n) (w:World) (h:k3.C w A n xs) :
    Calls Tryz.prog 293 #[.slice A n c,.int .i64 i,.int .i64 j] w (Ret (.bool (lessC (xs.getD i z3) (xs.getD j z3))) w):=by
 obtain⟨ad,rfl,ci⟩:=k3_at h i hi;obtain⟨ad',e,cj⟩:=k3_at h j hj;obtain rfl:=Option.some.inj e;have hn:=h.2.1;obtain⟨x,hx⟩:∃ x,x=xs.getD i z3:=⟨_,rfl⟩;obtain⟨y,hy⟩:∃ x,x=xs.getD j z3:=⟨_,rfl⟩;rw[<- hx] at ci ⊢;rw[<- hy] at cj ⊢;clear hx hy h e;obtain⟨a1,a2,a3⟩:=ci;obtain⟨b1,b2,b3⟩:=cj;obtain⟨s1,p1,q1⟩:=x;obtain⟨s2,p2,q2⟩:=y;simp only[] at a1 a2 a3 b1 b2 b3;have up1:∀ {a v} (o:Obj),w.cell? a=some v->(w.alloc o).cell? a=some v:=λ o h=>a0p ((Below.refl _ _).alloc (Nat.le_refl _) _) h;have up2:∀ {a v} (o o':Obj),w.cell? a=some v->((w.alloc o).alloc o').cell? a=some v:=λ o o' h=>a0p (((Below.refl _ _).alloc (Nat.le_refl _) _).alloc (by simp) _) h;have u0:=up1 (.cells #[.int .i64 0,.int .i64 0,.int .i64 0] 253) a1;have u1:=up1 (.cells #[.int .i64 0,.int .i64 0,.int .i64 0] 253) a2;have u2:=up1 (.cells #[.int .i64 0,.int .i64 0,.int .i64 0] 253) a3;have u3:=up1 (.cells #[.int .i64 0,.int .i64 0,.int .i64 0] 253) b1;have u4:=up1 (.cells #[.int .i64 0,.int .i64 0,.int .i64 0] 253) b2;have u5:=up1 (.cells #[.int .i64 0,.int .i64 0,.int .i64 0] 253) b3;have u6:=up1 (.cells #[.int .i64 s1,.int .i64 p1,.int .i64 q1] 253) a1;have u7:=up1 (.cells #[.int .i64 s1,.int .i64 p1,.int .i64 q1] 253) a2;have u8:=up1 (.cells #[.int .i64 s1,.int .i64 p1,.int .i64 q1] 253) a3;have u9:=up1 (.cells #[.int .i64 s1,.int .i64 p1,.int .i64 q1] 253) b1;have u10:=up1 (.cells #[.int .i64 s1,.int .i64 p1,.int .i64 q1] 253) b2;have u11:=up1 (.cells #[.int .i64 s1,.int .i64 p1,.int .i64 q1] 253) b3;have u12:=up1 (.cells #[.int .i64 s2,.int .i64 p2,.int .i64 q2] 253) a1
 have u13:=up1 (.cells #[.int .i64 s2,.int .i64 p2,.int .i64 q2] 253) a2;have u14:=up1 (.cells #[.int .i64 s2,.int .i64 p2,.int .i64 q2] 253) a3;have u15:=up1 (.cells #[.int .i64 s2,.int .i64 p2,.int .i64 q2] 253) b1;have u16:=up1 (.cells #[.int .i64 s2,.int .i64 p2,.int .i64 q2] 253) b2;have u17:=up1 (.cells #[.int .i64 s2,.int .i64 p2,.int .i64 q2] 253) b3;have u18:=up2 (.cells #[.int .i64 0,.int .i64 0,.int .i64 0] 253) (.cells #[.int .i64 0,.int .i64 0,.int .i64 0] 253) a1;have u19:=up2 (.cells #[.int .i64 0,.int .i64 0,.int .i64 0] 253) (.cells #[.int .i64 0,.int .i64 0,.int .i64 0] 253) a2;have u20:=up2 (.cells #[.int .i64 0,.int .i64 0,.int .i64 0] 253) (.cells #[.int .i64 0,.int .i64 0,.int .i64 0] 253) a3;have u21:=up2 (.cells #[.int .i64 0,.int .i64 0,.int .i64 0] 253) (.cells #[.int .i64 0,.int .i64 0,.int .i64 0] 253) b1;have u22:=up2 (.cells #[.int .i64 0,.int .i64 0,.int .i64 0] 253) (.cells #[.int .i64 0,.int .i64 0,.int .i64 0] 253) b2;have u23:=up2 (.cells #[.int .i64 0,.int .i64 0,.int .i64 0] 253) (.cells #[.int .i64 0,.int .i64 0,.int .i64 0] 253) b3;have u24:=up2 (.cells #[.int .i64 s1,.int .i64 p1,.int .i64 q1] 253) (.cells #[.int .i64 0,.int .i64 0,.int .i64 0] 253) a1;have u25:=up2 (.cells #[.int .i64 s1,.int .i64 p1,.int .i64 q1] 253) (.cells #[.int .i64 0,.int .i64 0,.int .i64 0] 253) a2;have u26:=up2 (.cells #[.int .i64 s1,.int .i64 p1,.int .i64 q1] 253) (.cells #[.int .i64 0,.int .i64 0,.int .i64 0] 253) a3;have u27:=up2 (.cells #[.int .i64 s1,.int .i64 p1,.int .i64 q1] 253) (.cells #[.int .i64 0,.int .i64 0,.int .i64 0] 253) b1
 have u28:=up2 (.cells #[.int .i64 s1,.int .i64 p1,.int .i64 q1] 253) (.cells #[.int .i64 0,.int .i64 0,.int .i64 0] 253) b2;have u29:=up2 (.cells #[.int .i64 s1,.int .i64 p1,.int .i64 q1] 253) (.cells #[.int .i64 0,.int .i64 0,.int .i64 0] 253) b3;have u30:=up2 (.cells #[.int .i64 0,.int .i64 0,.int .i64 0] 253) (.cells #[.int .i64 s1,.int .i64 p1,.int .i64 q1] 253) a1;have u31:=up2 (.cells #[.int .i64 0,.int .i64 0,.int .i64 0] 253) (.cells #[.int .i64 s1,.int .i64 p1,.int .i64 q1] 253) a2;have u32:=up2 (.cells #[.int .i64 0,.int .i64 0,.int .i64 0] 253) (.cells #[.int .i64 s1,.int .i64 p1,.int .i64 q1] 253) a3;have u33:=up2 (.cells #[.int .i64 0,.int .i64 0,.int .i64 0] 253) (.cells #[.int .i64 s1,.int .i64 p1,.int .i64 q1] 253) b1;have u34:=up2 (.cells #[.int .i64 0,.int .i64 0,.int .i64 0] 253) (.cells #[.int .i64 s1,.int .i64 p1,.int .i64 q1] 253) b2;have u35:=up2 (.cells #[.int .i64 0,.int .i64 0,.int .i64 0] 253) (.cells #[.int .i64 s1,.int .i64 p1,.int .i64 q1] 253) b3;have u36:=up2 (.cells #[.int .i64 s2,.int .i64 p2,.int .i64 q2] 253) (.cells #[.int .i64 0,.int .i64 0,.int .i64 0] 253) a1;have u37:=up2 (.cells #[.int .i64 s2,.int .i64 p2,.int .i64 q2] 253) (.cells #[.int .i64 0,.int .i64 0,.int .i64 0] 253) a2;have u38:=up2 (.cells #[.int .i64 s2,.int .i64 p2,.int .i64 q2] 253) (.cells #[.int .i64 0,.int .i64 0,.int .i64 0] 253) a3;have u39:=up2 (.cells #[.int .i64 s2,.int .i64 p2,.int .i64 q2] 253) (.cells #[.int .i64 0,.int .i64 0,.int .i64 0] 253) b1;have u40:=up2 (.cells #[.int .i64 s2,.int .i64 p2,.int .i64 q2] 253) (.cells #[.int .i64 0,.int .i64 0,.int .i64 0] 253) b2
 have u41:=up2 (.cells #[.int .i64 s2,.int .i64 p2,.int .i64 q2] 253) (.cells #[.int .i64 0,.int .i64 0,.int .i64 0] 253) b3;have u42:=up2 (.cells #[.int .i64 0,.int .i64 0,.int .i64 0] 253) (.cells #[.int .i64 s2,.int .i64 p2,.int .i64 q2] 253) a1;have u43:=up2 (.cells #[.int .i64 0,.int .i64 0,.int .i64 0] 253) (.cells #[.int .i64 s2,.int .i64 p2,.int .i64 q2] 253) a2;have u44:=up2 (.cells #[.int .i64 0,.int .i64 0,.int .i64 0] 253) (.cells #[.int .i64 s2,.int .i64 p2,.int .i64 q2] 253) a3;have u45:=up2 (.cells #[.int .i64 0,.int .i64 0,.int .i64 0] 253) (.cells #[.int .i64 s2,.int .i64 p2,.int .i64 q2] 253) b1;have u46:=up2 (.cells #[.int .i64 0,.int .i64 0,.int .i64 0] 253) (.cells #[.int .i64 s2,.int .i64 p2,.int .i64 q2] 253) b2;have u47:=up2 (.cells #[.int .i64 0,.int .i64 0,.int .i64 0] 253) (.cells #[.int .i64 s2,.int .i64 p2,.int .i64 q2] 253) b3;clear up1 up2
 by_cases h1:p1=p2
 · subst h1
   by_cases h2:q1=q2
   · subst h2;have e:lessC (s1,p1,q1) (s2,p1,q1)=decide (s1<s2):=by simp[lessC]
     rw[e];go_enter Tryz.func293,Tryz.ntmps293;go_wp2_with fail;go_region
     all_goals
      go_wp2;go_ret;exact⟨rfl,(((Below.refl _ _).alloc (Nat.le_refl _) _).alloc (by simp) _).drew⟩
   · have hb:(q1==q2)=false:=by simpa using h2
     have e:lessC (s1,p1,q1) (s2,p1,q2)=decide (q2<q1):=by simp[lessC,h2]
     rw[e];go_enter Tryz.func293,Tryz.ntmps293;go_wp2_with fail;go_region
     all_goals
      go_wp2;go_ret;exact⟨rfl,(((Below.refl _ _).alloc (Nat.le_refl _) _).alloc (by simp) _).drew⟩
 · have hb:(p1==p2)=false:=by simpa using h1
   have e:lessC (s1,p1,q1) (s2,p2,q2)=decide (p2<p1):=by simp[lessC,h1]
   rw[e];go_enter Tryz.func293,Tryz.ntmps293;go_wp2_with fail;go_region
   all_goals
    go_wp2;go_ret;exact⟨rfl,(((Below.refl _ _).alloc (Nat.le_refl _) _).alloc (by simp) _).drew⟩
theorem c4X {e0:TypeId} {base:Nat} {ok:Nat->Prop} {g n cap:Nat} {xs:List K3} (i j:Nat) (hi:i<n) (hj:j<n) (hne:i≠j) (w:World) (h:k3.R e0 w base ok (.slice (some ⟨g,0,none⟩) n cap) xs) :
    Calls Tryz.prog 294 #[.slice (some ⟨g,0,none⟩) n cap,.int .i64 i,.int .i64 j] w λ e w'=>e=.returned (.tuple #[])/\k3.R e0 w' base ok (.slice (some ⟨g,0,none⟩) n cap) (swapL xs i j)/\Only (λ k=>k=g) w w':=by
 obtain⟨⟨a1,a2,a3⟩,f1,f2,f3⟩:=a3F h i hi;obtain⟨⟨b1,b2,b3⟩,g1,g2,g3⟩:=a3F h j hj;have hr:=Kd.R_reads' h;have hn:n<=9223372036854775807:=by rw[hr.1];exact hr.2.2.2.1
 clear hr;obtain⟨x,hx⟩:∃ x,x=xs.getD i z3:=⟨_,rfl⟩;obtain⟨y,hy⟩:∃ x,x=xs.getD j z3:=⟨_,rfl⟩;rw[<- hx] at a1 a2 a3;rw[<- hy] at b1 b2 b3
 have HF:Hid (k3.R e0 ((((((w.setCell ⟨g,i*3,none⟩ (.int .i64 y.1)).setCell ⟨g,i*3+1,none⟩ (.int .i64 y.2.1)).setCell ⟨g,i*3+2,none⟩ (.int .i64 y.2.2)).setCell ⟨g,j*3,none⟩ (.int .i64 x.1)).setCell ⟨g,j*3+1,none⟩ (.int .i64 x.2.1)).setCell ⟨g,j*3+2,none⟩ (.int .i64 x.2.2)) base ok (.slice (some ⟨g,0,none⟩) n cap) (swapL xs i j)):=by
  have:=a3G (a3G h i hi y) j hj x;rw[hx,hy] at this ⊢;exact this
 clear h;have n00a:¬ i*3=j*3:=by omega
 have n01a:¬ i*3=j*3+1:=by omega
 have n02a:¬ i*3=j*3+2:=by omega
 have n10a:¬ i*3+1=j*3:=by omega
 have n11a:¬ i*3+1=j*3+1:=by omega
 have n12a:¬ i*3+1=j*3+2:=by omega
 have n20a:¬ i*3+2=j*3:=by omega
 have n21a:¬ i*3+2=j*3+1:=by omega
 have n22a:¬ i*3+2=j*3+2:=by omega
 have n00b:¬ j*3=i*3:=by omega
 have n01b:¬ j*3=i*3+1:=by omega
 have n02b:¬ j*3=i*3+2:=by omega
 have n10b:¬ j*3+1=i*3:=by omega
 have n11b:¬ j*3+1=i*3+1:=by omega
 have n12b:¬ j*3+1=i*3+2:=by omega
 have n20b:¬ j*3+2=i*3:=by omega
 have n21b:¬ j*3+2=i*3+1:=by omega
 have n22b:¬ j*3+2=i*3+2:=by omega
 clear hx hy hne;go_enter Tryz.func294,Tryz.ntmps294;go_wp2_with fail;go_region;go_wp2
 all_goals go_end0
 exact⟨rfl,Kd.R_drew HF.out,by refine Only.drew ?_;(repeat (refine Only.set1 ?_ _ _));exact Only.refl _ _⟩
theorem c4Y {e0:TypeId} {base:Nat} {ok:Nat->Prop} {g n cap:Nat} {xs:List K3} (i:Nat) (hi:i<n) (w:World) (h:k3.R e0 w base ok (.slice (some ⟨g,0,none⟩) n cap) xs) :
    Calls Tryz.prog 294 #[.slice (some ⟨g,0,none⟩) n cap,.int .i64 i,.int .i64 i] w λ e w'=>e=.returned (.tuple #[])/\k3.R e0 w' base ok (.slice (some ⟨g,0,none⟩) n cap) (swapL xs i i)/\Only (λ k=>k=g) w w':=by
 obtain⟨⟨a1,a2,a3⟩,f1,f2,f3⟩:=a3F h i hi;have hr:=Kd.R_reads' h;have hn:n<=9223372036854775807:=by rw[hr.1];exact hr.2.2.2.1
 clear hr;obtain⟨x,hx⟩:∃ x,x=xs.getD i z3:=⟨_,rfl⟩;rw[<- hx] at a1 a2 a3
 have HF:Hid (k3.R e0 ((((((w.setCell ⟨g,i*3,none⟩ (.int .i64 x.1)).setCell ⟨g,i*3+1,none⟩ (.int .i64 x.2.1)).setCell ⟨g,i*3+2,none⟩ (.int .i64 x.2.2)).setCell ⟨g,i*3,none⟩ (.int .i64 x.1)).setCell ⟨g,i*3+1,none⟩ (.int .i64 x.2.1)).setCell ⟨g,i*3+2,none⟩ (.int .i64 x.2.2)) base ok (.slice (some ⟨g,0,none⟩) n cap) (swapL xs i i)):=by
  have:=a3G (a3G h i hi x) i hi x;rw[hx] at this ⊢;exact this
 clear h;clear hx;go_enter Tryz.func294,Tryz.ntmps294;go_wp2_with fail;go_region;go_wp2
 all_goals go_end0
 exact⟨rfl,Kd.R_drew HF.out,by refine Only.drew ?_;(repeat (refine Only.set1 ?_ _ _));exact Only.refl _ _⟩
theorem b5z {e0:TypeId} {base:Nat} {ok:Nat->Prop} {g n cap:Nat} {xs:List K3} (i j:Nat) (hi:i<n) (hj:j<n) (w:World) (h:k3.R e0 w base ok (.slice (some ⟨g,0,none⟩) n cap) xs) :
    Calls Tryz.prog 294 #[.slice (some ⟨g,0,none⟩) n cap,.int .i64 i,.int .i64 j] w λ e w'=>e=.returned (.tuple #[])/\k3.R e0 w' base ok (.slice (some ⟨g,0,none⟩) n cap) (swapL xs i j)/\Only (λ k=>k=g) w w':=by
 by_cases hne:i=j
 · subst hne;exact c4Y i hi w h
 · exact c4X i j hi hj hne w h
theorem a9Z (A:Option Addr) (n c:Nat) (w:World):Calls Tryz.prog 292 #[.slice A n c] w λ e w'=>e=.returned (.int .i64 n)/\w=w':=by
 go_enter Tryz.func292,Tryz.ntmps292;go_wp2;go_ret;exact⟨rfl,rfl⟩
theorem b0a:(Tryz.prog.info? 253).map (λ i=>(i.zero,i.size,i.bytes))=some (some (.agg #[.int .i64 0,.int .i64 0,.int .i64 0]),k3.sz,24):=by kernel_rfl
theorem b0b (v:Value) (w:World):(Instr.typeAssert (.iface 253 v) 20 253 false).run Tryz.prog w=.ok v w:=by kernel_rfl
theorem c4Z {base p:Nat} {v:Value} {xs:List K3} (x:K3) (w:World) (hb:w.heap[p]?=some (.cells #[v] 251 (0,0))) (hr:k3.R 253 w base (λ k=>k≠p) v xs) (hB:base<=w.heap.size) (hl:xs.length<=1000000) :
    Calls Tryz.prog 297 #[.pointer (some ⟨p,0,none⟩),.iface 253 (.agg #[.int .i64 x.1,.int .i64 x.2.1,.int .i64 x.2.2])] w λ e w'=>e=.returned (.tuple #[])/\∃ v',w'.heap[p]?=some (.cells #[v'] 251 (0,0))/\k3.R 253 w' base (λ k=>k≠p) v' (xs++[x])/\(v'.ownBlock=v.ownBlock\/∃ b,v'.ownBlock=some b/\w.heap.size<=b)/\Only (λ k=>k=p\/v.ownBlock=some k) w w':=by
 have hc:w.cell? ⟨p,0,none⟩=some v:=(a0a hb 0).trans rfl;have hf:=a0e hb 0;have ta:=b0b;have hlt:p<w.heap.size:=a0g hb;have hpn:¬ p=w.heap.size:=by omega
 have hpn':¬ w.heap.size=p:=by omega
 go_enter Tryz.func297,Tryz.ntmps297;go_wp2_with fail;have hfr:∀ k,w.heap.size<=k->k≠p:=λ k hk e=>by have:=a0g hb;omega
 have hl':(xs.length+1)*24<=140737488355328:=by omega
 have hne:some p≠v.ownBlock:=λ e=>hr.1 p e.symm rfl;have HN:=Lib.hid hne;have HR:=Lib.hid hr;have HB:=Lib.hid hB;have HF:=Lib.hid hfr;have HL:=Lib.hid hl';clear hr hfr hl' hB hne;go_region_law (first | (refine a5r k3 (w0:=w) base rfl (.tmp 7) (.tmp 10) 251 253 _ 24 rfl Tryz.underlying251 b0a rfl (by decide) (by decide) v xs x [.int .i64 x.1,.int .i64 x.2.1,.int .i64 x.2.2] (λ k=>k≠p) (λ _=>False) rfl rfl (a5w _ _ _ x) (λ _ h=>h.elim) HF.out HR.out (Below.refl _ _) HB.out HL.out ?_;intro v1 w1 hr1 hb1 hg1 hat1;obtain⟨A1,c1,rfl⟩:=Kd.R_slice hr1;simp only[List.length_append,List.length_singleton] at hr1 hat1;have hb2:=a1g hb hg1 HN.out;have hc2:w1.cell? ⟨p,0,none⟩=some v:=(a0a hb2 0).trans rfl;have hf2:=a0e hb2 0) | fail)
 all_goals
  go_wp2;go_end0;refine⟨rfl,_,a0x hb2 0 _,Kd.R_far (p:=⟨p,0,none⟩) hr1 (λ k hk=>hk) _,hat1,?_⟩;exact(Only.of_grown hg1 (λ k hk=>.inr hk)).setCell (p:=⟨p,0,none⟩) (.inl rfl) _
theorem c5a {base p g n cap:Nat} {xs:List K3} (w:World) (hb:w.heap[p]?=some (.cells #[.slice (some ⟨g,0,none⟩) (n+1) cap] 251 (0,0))) (hr:k3.R 253 w base (λ k=>k≠p) (.slice (some ⟨g,0,none⟩) (n+1) cap) xs) :
    Calls Tryz.prog 296 #[.pointer (some ⟨p,0,none⟩)] w λ e w'=>e=.returned (.iface 253 (.agg #[.int .i64 (xs.getD n z3).1,.int .i64 (xs.getD n z3).2.1,.int .i64 (xs.getD n z3).2.2]))/\w'.heap[p]?=some (.cells #[.slice (some ⟨g,0,none⟩) n cap] 251 (0,0))/\k3.R 253 w' base (λ k=>k≠p) (.slice (some ⟨g,0,none⟩) n cap) (xs.take n)/\Only (λ k=>k=p) w w':=by
 have hc:w.cell? ⟨p,0,none⟩=some (.slice (some ⟨g,0,none⟩) (n+1) cap):=(a0a hb 0).trans rfl;have hf:=a0e hb 0;have hlt:p<w.heap.size:=a0g hb;have hpn:¬ p=w.heap.size:=by omega
 have hpn':¬ w.heap.size=p:=by omega
 have hrd:=Kd.R_reads' hr;have hn:n+1<=9223372036854775807:=by rw[hrd.1];exact hrd.2.2.2.1
 have hcap:n+1<=cap:=hrd.2.1;obtain⟨⟨a1,a2,a3⟩,-⟩:=a3F hr n (by omega);have hgl:g<w.heap.size:=Kd.R_lt hr g rfl;have hgn:¬ g=w.heap.size:=by omega
 have hgn':¬ w.heap.size=g:=by omega
 obtain⟨x,hx⟩:∃ x,x=xs.getD n z3:=⟨_,rfl⟩;rw[<- hx] at a1 a2 a3 ⊢;have hr2:=Kd.R_take hr (m:=n) (by rw[<- hrd.1];omega);have HR:=Lib.hid hr2;clear hx hr hrd hr2;go_enter Tryz.func296,Tryz.ntmps296;go_wp2;go_ret;exact⟨rfl,a0o (a0x hb 0 _) _,Kd.R_alloc (Kd.R_far (p:=⟨p,0,none⟩) HR.out (λ k hk=>hk) _) _,((Only.refl _ _).set1 _ _).alloc _⟩
end Go.Proofs.YtflfjpkmjnnodaaGreat
namespace Go.Proofs.YtflfjpkmjnnodaaGreat
open Go.RowKit Go.Proofs.YtflfjpkmjnnodaaGreatW.PrintWords
section
variable (f:Nat) (a:Addr) (v:Value) (w:World)
theorem b0c (h : w.cell? a = some v) : (method (f + 1) 273 (.pointer (some a)) "Len").run Tryz.prog w = .ok (292, v) w :=
 a4I (elem:=251) (by kernel_rfl) (by kernel_rfl) (by kernel_rfl) h
theorem b5A (h : w.cell? a = some v) : (method (f + 1) 273 (.pointer (some a)) "Less").run Tryz.prog w = .ok (293, v) w :=
 a4I (elem:=251) (by kernel_rfl) (by kernel_rfl) (by kernel_rfl) h
theorem b0d (h : w.cell? a = some v) : (method (f + 1) 273 (.pointer (some a)) "Swap").run Tryz.prog w = .ok (294, v) w :=
 a4I (elem:=251) (by kernel_rfl) (by kernel_rfl) (by kernel_rfl) h
theorem c5b : (method (f + 1) 273 v "Push").run Tryz.prog w = .ok (297, v) w :=
 a6A (elem:=251) (by kernel_rfl) (by kernel_rfl)
theorem c5c : (method (f + 1) 273 v "Pop").run Tryz.prog w = .ok (296, v) w :=
 a6A (elem:=251) (by kernel_rfl) (by kernel_rfl)
end
structure CKp (p base:Nat) (w:World) (v:Value) (xs:List K3):Prop where
 blk:w.heap[p]?=some (.cells #[v] 251 (0,0))
 row:k3.R 253 w base (λ k=>k≠p) v xs
theorem CKp.cell {p base:Nat} {w:World} {v:Value} {xs:List K3} (h:CKp p base w v xs):w.cell? ⟨p,0,none⟩=some v:=(a0a h.blk 0).trans rfl
theorem CKp.below {p base:Nat} {w w1:World} {v:Value} {xs:List K3} (h:CKp p base w v xs) (hb:Below w.heap.size w w1):CKp p base w1 v xs:=⟨a0h h.blk hb,Kd.R_below h.row hb⟩
open HeapL
theorem c5d {p base g n cap:Nat} {xs:List K3} (o:Ord lessC GC) (j:Nat) (hj:j<n) (w:World) (hk:CKp p base w (.slice (some ⟨g,0,none⟩) n cap) xs) (hg:All GC xs) (hu:Up lessC z3 xs j) :
    Calls Tryz.prog 272 #[.iface 273 (.pointer (some ⟨p,0,none⟩)),.int .i64 j] w λ e w'=>e=.returned (.tuple #[])/\∃ ys:List K3,CKp p base w' (.slice (some ⟨g,0,none⟩) n cap) ys/\ys.Perm xs/\From lessC z3 ys 0 n/\Only (λ k=>k=g) w w':=by
 have hn:n=xs.length:=(Kd.R_reads' hk.row).1;have hn2:n<=9223372036854775807:=by rw[hn];exact(Kd.R_reads' hk.row).2.2.2.1
 have ml:=b5A;have HN:=Lib.hid hn;clear hn;go_enter Tryz.func272,Tryz.ntmps272;go_wp2_with fail;go_loopw [1] (λ jv wr=>∃ (jn:Nat) (ys:List K3),jv=.int .i64 jn/\jn<n/\Hid (CKp p base wr (.slice (some ⟨g,0,none⟩) n cap) ys/\ys.Perm xs/\Up lessC z3 ys jn/\Only (λ k=>k=g) w wr)) (λ jv _=>(intOf jv).toNat)
 case atStart=>exact⟨j,xs,rfl,hj,hk,.refl _,hu,Only.refl _ _⟩
 case round=>
  obtain⟨jn,ys,rfl,hjn,H⟩:=hrel;have hc:=H.out.1.cell
  by_cases h0:jn=0
  · subst h0;go_wp2_with fail;go_end0;obtain⟨h1,h2,h3,h4⟩:=H.out;exact⟨rfl,ys,h1,h2,by rw[(Kd.R_reads' h1.row).1];exact h3.stop (.inl rfl),h4⟩
  · have ep:((jn:Int)-1)/2=(((jn-1)/2:Nat):Int):=by omega
    have hpl:(jn-1)/2<n:=by omega
    have hne:¬ (jn-1)/2=jn:=by omega
    go_wp2_with fail;have hC:=(Kd.R_reads' H.out.1.row);refine(b5y (some ⟨g,0,none⟩) n cap ys jn ((jn-1)/2) hjn hpl _ (by rw[hC.1];exact hC.2.2)).mono ?_;rintro e w1 ⟨rfl,hb⟩;have HB:=Lib.hid hb;clear hC hb;have hc1:=(H.out.1.below HB.out).cell;have ms:=b0d
    cases hls:lessC (ys.getD jn z3) (ys.getD ((jn-1)/2) z3) with
    | false=>
     have HL:=Lib.hid hls;clear hls;go_wp2_with fail;go_end0;obtain⟨h1,h2,h3,h4⟩:=H.out;exact⟨rfl,ys,h1.below HB.out,h2,by rw[(Kd.R_reads' h1.row).1];exact h3.stop (.inr HL.out),h4.trans (Only.of_below HB.out)⟩
    | true=>
     have HL:=Lib.hid hls;clear hls;go_wp2_with fail;refine(b5z ((jn-1)/2) jn hpl hjn _ (H.out.1.below HB.out).row).mono ?_;rintro e w2 ⟨rfl,hr2,ho2⟩;have HR:=Lib.hid hr2;have HO:=Lib.hid ho2;clear hr2 ho2;go_wp2_with fail;go_roundw
     case rel=>
      obtain⟨h1,h2,h3,h4⟩:=H.out;have hl:n=ys.length:=(Kd.R_reads' h1.row).1;have hG:All GC ys:=λ x hx=>hg x (h2.subset hx);refine⟨(jn-1)/2,_,rfl,hpl,⟨?_,HR.out⟩,(a4l _ _ _ (by omega) (by omega)).trans h2,h3.step o hG (by omega) (by omega) HL.out,(h4.trans (Only.of_below HB.out)).trans HO.out⟩;exact(HO.out.block p (a0g (a0h h1.blk HB.out)) (λ e=>Kd.R_away h1.row (λ _ hk=>hk) (by rw[e];rfl))).trans (a0h h1.blk HB.out)
     case measure=>simp[intOf];omega
end Go.Proofs.YtflfjpkmjnnodaaGreat
namespace Go.Proofs.YtflfjpkmjnnodaaGreat
open Go.RowKit Go.Proofs.YtflfjpkmjnnodaaGreatW.PrintWords HeapL
def c5e (Q:World->Prop) (e:Ending) (w:World):Prop:=(∃ b,e=.returned (.bool b))/\Q w
def b5B (p base g n cap:Nat) (xs:List K3) (i0 n0:Nat) (w w':World):Prop:=
 ∃ ys:List K3,CKp p base w' (.slice (some ⟨g,0,none⟩) n cap) ys/\ys.Perm xs/\From lessC z3 ys i0 n0/\(∀ k,n0<=k->ys.getD k z3=xs.getD k z3)/\Only (λ k=>k=g) w w'
theorem CKp.len {p base g n cap:Nat} {w:World} {xs:List K3} (h:CKp p base w (.slice (some ⟨g,0,none⟩) n cap) xs):n=xs.length:=(Kd.R_reads' h.row).1
theorem CKp.read {p base g n cap:Nat} {w:World} {xs:List K3} (h:CKp p base w (.slice (some ⟨g,0,none⟩) n cap) xs):k3.C w (some ⟨g,0,none⟩) n xs:=by
 have:=Kd.R_reads' h.row;rw[this.1];exact this.2.2
theorem CKp.swapped {p base g n cap:Nat} {w w1:World} {xs ys:List K3} (h:CKp p base w (.slice (some ⟨g,0,none⟩) n cap) xs) (hr:k3.R 253 w1 base (λ k=>k≠p) (.slice (some ⟨g,0,none⟩) n cap) ys) (ho:Only (λ k=>k=g) w w1):CKp p base w1 (.slice (some ⟨g,0,none⟩) n cap) ys:=
 ⟨(ho.block p (a0g h.blk) (λ e=>Kd.R_away h.row (λ _ hk=>hk) (by rw[e];rfl))).trans h.blk,hr⟩
def CDownInv (p base g n cap:Nat) (xs:List K3) (i0 n0:Nat) (w:World) (i:Nat) (ys:List K3) (wr:World):Prop:=
 CKp p base wr (.slice (some ⟨g,0,none⟩) n cap) ys/\ys.Perm xs/\Down lessC z3 ys i0 i n0/\(∀ k,n0<=k->ys.getD k z3=xs.getD k z3)/\Only (λ k=>k=g) w wr
theorem CDownInv.below {p base g n cap:Nat} {xs:List K3} {i0 n0:Nat} {w:World} {i:Nat} {ys:List K3} {wr w1:World} (h:CDownInv p base g n cap xs i0 n0 w i ys wr) (hb:Below wr.heap.size wr w1):CDownInv p base g n cap xs i0 n0 w i ys w1:=
 ⟨h.1.below hb,h.2.1,h.2.2.1,h.2.2.2.1,h.2.2.2.2.trans (Only.of_below hb)⟩
theorem CDownInv.done {p base g n cap:Nat} {xs:List K3} {i0 n0:Nat} {w:World} {i:Nat} {ys:List K3} {wr:World} (h:CDownInv p base g n cap xs i0 n0 w i ys wr) (hs:∀ k,0<k->k<n0->(k-1)/2=i->okAt lessC z3 ys k):b5B p base g n cap xs i0 n0 w wr:=
 ⟨ys,h.1,h.2.1,h.2.2.1.stop hs,h.2.2.2.1,h.2.2.2.2⟩
theorem CDownInv.step {p base g n cap:Nat} {xs:List K3} {i0 n0:Nat} {w:World} {i j:Nat} {ys:List K3} {wr w1:World} (o:Ord lessC GC) (hG:All GC xs) (hn:n0<=n) (h:CDownInv p base g n cap xs i0 n0 w i ys wr) (hi:i0<=i) (hj:j<n0) (hji:(j-1)/2=i) (hj0:0<j)
    (hm:∀ k,0<k->k<n0->(k-1)/2=i->lessC (ys.getD k z3) (ys.getD j z3)=false) (hs:lessC (ys.getD j z3) (ys.getD i z3)=true)
    (hr:k3.R 253 w1 base (λ k=>k≠p) (.slice (some ⟨g,0,none⟩) n cap) (swapL ys i j)) (ho:Only (λ k=>k=g) wr w1):CDownInv p base g n cap xs i0 n0 w j (swapL ys i j) w1:=by
 obtain⟨h1,h2,h3,h4,h5⟩:=h;have hl:=h1.len;have hGy:All GC ys:=λ x hx=>hG x (h2.subset hx);refine⟨h1.swapped hr ho,(a4l _ _ _ (by omega) (by omega)).trans h2,h3.step o hGy (by omega) hi hj hji hj0 hm hs,λ k hk=>?_,h5.trans ho⟩
 show(swap z3 ys i j).getD k z3=_
 rw[a3j _ _ _ _ (by omega) (by omega),if_neg (by omega),if_neg (by omega)];exact h4 k hk
theorem a7N {i j:Int} (a b:Nat) (ea:i=a) (eb:j=b) (A:Option Addr) (n c:Nat) (xs:List K3) (hi:a<n) (hj:b<n) (w:World) (h:k3.C w A n xs) :
    Calls Tryz.prog 293 #[.slice A n c,.int .i64 i,.int .i64 j] w (Ret (.bool (lessC (xs.getD a z3) (xs.getD b z3))) w):=by
 subst ea eb;exact b5y A n c xs a b hi hj w h
theorem a7O {i j:Int} (a b:Nat) (ea:i=a) (eb:j=b) {e0:TypeId} {base:Nat} {ok:Nat->Prop} {g n cap:Nat} {xs:List K3} (hi:a<n) (hj:b<n) (w:World) (h:k3.R e0 w base ok (.slice (some ⟨g,0,none⟩) n cap) xs) :
    Calls Tryz.prog 294 #[.slice (some ⟨g,0,none⟩) n cap,.int .i64 i,.int .i64 j] w λ e w'=>e=.returned (.tuple #[])/\k3.R e0 w' base ok (.slice (some ⟨g,0,none⟩) n cap) (swapL xs a b)/\Only (λ k=>k=g) w w':=by
 subst ea eb;exact b5z a b hi hj w h
theorem b5C {p base g n cap:Nat} {xs:List K3} (o:Ord lessC GC) (i0 n0:Nat) (hn0:n0<=n) (hi0:i0<=n0) (hbd:n<=1000000) (w:World) (hk:CKp p base w (.slice (some ⟨g,0,none⟩) n cap) xs) (hg:All GC xs) (hu:From lessC z3 xs (i0+1) n0) :
    Calls Tryz.prog 271 #[.iface 273 (.pointer (some ⟨p,0,none⟩)),.int .i64 i0,.int .i64 n0] w (c5e (b5B p base g n cap xs i0 n0 w)):=by
 have HI:Hid (CDownInv p base g n cap xs i0 n0 w i0 xs w):=⟨hk,.refl _,Down.start hu,λ _ _=>rfl,Only.refl _ _⟩;have ml:=b5A;have ms:=b0d;clear hk hu;go_enter Tryz.func271,Tryz.ntmps271;go_wp2_with fail;go_loopw [7] (λ iv wr=>∃ (i:Nat) (ys:List K3),iv=.int .i64 i/\i0<=i/\i<=n0/\Hid (CDownInv p base g n cap xs i0 n0 w i ys wr)) (λ iv _=>n0-(intOf iv).toNat)
 case atStart=>exact⟨i0,xs,rfl,Nat.le_refl _,hi0,HI⟩
 case round=>
  obtain⟨i,ys,rfl,hi1,hi2,H⟩:=hrel;have hc:=H.out.1.cell
  by_cases hj1:2*i+1<n0
  · by_cases hj2:2*i+2<n0
    · go_wp2_with fail;refine(a7N (2*i+2) (2*i+1) (by omega) (by omega) (some ⟨g,0,none⟩) n cap ys (by omega) (by omega) _ H.out.1.read).mono ?_;rintro e w1 ⟨rfl,hb⟩;have H1:=Lib.hid (H.out.below hb);clear hb hc;have hc:=H1.out.1.cell
      cases hl1:lessC (ys.getD (2*i+2) z3) (ys.getD (2*i+1) z3) with
      | true=>
       have HL:=Lib.hid hl1;clear hl1;go_wp2_with fail;refine(a7N (2*i+2) i (by omega) rfl (some ⟨g,0,none⟩) n cap ys (by omega) (by omega) _ H1.out.1.read).mono ?_;rintro e w2 ⟨rfl,hb⟩;have H2:=Lib.hid (H1.out.below hb);clear hb hc;have hc:=H2.out.1.cell
       cases hl2:lessC (ys.getD (2*i+2) z3) (ys.getD i z3) with
       | true=>
        have HM:=Lib.hid hl2;clear hl2;go_wp2_with fail;refine(a7O i (2*i+2) rfl (by omega) (by omega) (by omega) _ H2.out.1.row).mono ?_;rintro e w3 ⟨rfl,hr3,ho3⟩
        have H3:Hid (CDownInv p base g n cap xs i0 n0 w (2*i+2) (swapL ys i (2*i+2)) w3):=by
         refine H2.out.step o hg hn0 hi1 hj2 (by omega) (by omega) (λ k h1 h2 h3=>?_) HM.out hr3 ho3;have hGy:All GC ys:=λ x hx=>hg x (H2.out.2.1.subset hx);have hl:=H2.out.1.len;rcases (by omega:k=2*i+1\/k=2*i+2) with rfl | rfl
         · exact o.asym _ _ (hGy.get _ (by omega)) (hGy.get _ (by omega)) HL.out
         · cases e:lessC (ys.getD (2*i+2) z3) (ys.getD (2*i+2) z3) with
           | false=>rfl
           | true=>have:=o.asym _ _ (hGy.get _ (by omega)) (hGy.get _ (by omega)) e;rw[e] at this;cases this
        clear hr3 ho3;go_wp2_with fail;go_roundw
        case rel=>exact⟨2*i+2,_,by first | rfl | (congr 1;omega),by omega,by omega,H3⟩
        case measure=>simp[intOf];omega
       | false=>
        have HM:=Lib.hid hl2;clear hl2;go_wp2_with fail;go_ret;refine⟨⟨_,rfl⟩,H2.out.done λ k h1 h2 h3=>?_⟩;have hGy:All GC ys:=λ x hx=>hg x (H2.out.2.1.subset hx);have hl:=H2.out.1.len;unfold okAt;rw[h3];rcases (by omega:k=2*i+1\/k=2*i+2) with rfl | rfl
        · exact o.trans _ _ _ (hGy.get _ (by omega)) (hGy.get _ (by omega)) (hGy.get _ (by omega)) HM.out (o.asym _ _ (hGy.get _ (by omega)) (hGy.get _ (by omega)) HL.out)
        · exact HM.out
      | false=>
       have HL:=Lib.hid hl1;clear hl1;go_wp2_with fail;refine(a7N (2*i+1) i (by omega) rfl (some ⟨g,0,none⟩) n cap ys (by omega) (by omega) _ H1.out.1.read).mono ?_;rintro e w2 ⟨rfl,hb⟩;have H2:=Lib.hid (H1.out.below hb);clear hb hc;have hc:=H2.out.1.cell
       cases hl2:lessC (ys.getD (2*i+1) z3) (ys.getD i z3) with
       | true=>
        have HM:=Lib.hid hl2;clear hl2;go_wp2_with fail;refine(a7O i (2*i+1) rfl (by omega) (by omega) (by omega) _ H2.out.1.row).mono ?_;rintro e w3 ⟨rfl,hr3,ho3⟩
        have H3:Hid (CDownInv p base g n cap xs i0 n0 w (2*i+1) (swapL ys i (2*i+1)) w3):=by
         refine H2.out.step o hg hn0 hi1 hj1 (by omega) (by omega) (λ k h1 h2 h3=>?_) HM.out hr3 ho3;have hGy:All GC ys:=λ x hx=>hg x (H2.out.2.1.subset hx);have hl:=H2.out.1.len;rcases (by omega:k=2*i+1\/k=2*i+2) with rfl | rfl
         · cases e:lessC (ys.getD (2*i+1) z3) (ys.getD (2*i+1) z3) with
           | false=>rfl
           | true=>have:=o.asym _ _ (hGy.get _ (by omega)) (hGy.get _ (by omega)) e;rw[e] at this;cases this
         · exact HL.out
        clear hr3 ho3;go_wp2_with fail;go_roundw
        case rel=>exact⟨2*i+1,_,by first | rfl | (congr 1;omega),by omega,by omega,H3⟩
        case measure=>simp[intOf];omega
       | false=>
        have HM:=Lib.hid hl2;clear hl2;go_wp2_with fail;go_ret;refine⟨⟨_,rfl⟩,H2.out.done λ k h1 h2 h3=>?_⟩;have hGy:All GC ys:=λ x hx=>hg x (H2.out.2.1.subset hx);have hl:=H2.out.1.len;unfold okAt;rw[h3];rcases (by omega:k=2*i+1\/k=2*i+2) with rfl | rfl
        · exact HM.out
        · exact o.trans _ _ _ (hGy.get _ (by omega)) (hGy.get _ (by omega)) (hGy.get _ (by omega)) HM.out HL.out
    · go_wp2_with fail;refine(a7N (2*i+1) i (by omega) rfl (some ⟨g,0,none⟩) n cap ys (by omega) (by omega) _ H.out.1.read).mono ?_;rintro e w1 ⟨rfl,hb⟩;have H1:=Lib.hid (H.out.below hb);clear hb hc;have hc:=H1.out.1.cell
      cases hl2:lessC (ys.getD (2*i+1) z3) (ys.getD i z3) with
      | true=>
       have HM:=Lib.hid hl2;clear hl2;go_wp2_with fail;refine(a7O i (2*i+1) rfl (by omega) (by omega) (by omega) _ H1.out.1.row).mono ?_;rintro e w3 ⟨rfl,hr3,ho3⟩
       have H3:Hid (CDownInv p base g n cap xs i0 n0 w (2*i+1) (swapL ys i (2*i+1)) w3):=by
        refine H1.out.step o hg hn0 hi1 hj1 (by omega) (by omega) (λ k h1 h2 h3=>?_) HM.out hr3 ho3;have hGy:All GC ys:=λ x hx=>hg x (H1.out.2.1.subset hx);have hl:=H1.out.1.len;obtain rfl:k=2*i+1:=by omega
        cases e:lessC (ys.getD (2*i+1) z3) (ys.getD (2*i+1) z3) with
        | false=>rfl
        | true=>have:=o.asym _ _ (hGy.get _ (by omega)) (hGy.get _ (by omega)) e;rw[e] at this;cases this
       clear hr3 ho3;go_wp2_with fail;go_roundw
       case rel=>exact⟨2*i+1,_,by first | rfl | (congr 1;omega),by omega,by omega,H3⟩
       case measure=>simp[intOf];omega
      | false=>
       have HM:=Lib.hid hl2;clear hl2;go_wp2_with fail;go_ret;refine⟨⟨_,rfl⟩,H1.out.done λ k h1 h2 h3=>?_⟩;have hGy:All GC ys:=λ x hx=>hg x (H1.out.2.1.subset hx);have hl:=H1.out.1.len;unfold okAt;rw[h3];obtain rfl:k=2*i+1:=by omega
       exact HM.out
  · go_wp2_with fail;go_ret;exact⟨⟨_,rfl⟩,H.out.done λ k h1 h2 h3=>by omega⟩
def b5D (p base:Nat) (v:Value) (xs:List K3) (x:K3) (w:World) (e:Ending) (w':World):Prop:=
 e=.returned (.tuple #[])/\∃ v' ys,CKp p base w' v' ys/\ys.Perm (x :: xs)/\From lessC z3 ys 0 ys.length/\(v'.ownBlock=v.ownBlock\/∃ b,v'.ownBlock=some b/\w.heap.size<=b)/\Only (λ k=>k=p\/v.ownBlock=some k) w w'
theorem c5f {p base:Nat} {v:Value} {xs:List K3} (o:Ord lessC GC) (x:K3) (w:World) (hk:CKp p base w v xs) (hB:base<=w.heap.size) (hl:xs.length<=100000) (hg:All GC xs) (hx:GC x) (hf:From lessC z3 xs 0 xs.length) :
    Calls Tryz.prog 259 #[.iface 273 (.pointer (some ⟨p,0,none⟩)),.iface 253 (.agg #[.int .i64 x.1,.int .i64 x.2.1,.int .i64 x.2.2])] w (b5D p base v xs x w):=by
 have mp:=c5b;have ml:=b0c;have HK:=Lib.hid hk;have HX:=Lib.hid hx;have HG:=Lib.hid hg;have HF:=Lib.hid hf;clear hk hx hg hf;go_enter Tryz.func259,Tryz.ntmps259;go_wp2_with fail;refine(c4Z x w HK.out.blk HK.out.row hB (by omega)).mono ?_;rintro e w1 ⟨rfl,v1,hb1,hr1,hat,ho⟩;obtain⟨g,cap,rfl,-⟩:=Kd.R_form hr1 (by simp);have hlen:(xs++[x]).length=xs.length+1:=by simp
 rw[hlen] at hb1 hr1 hat;have H1:Hid (CKp p base w1 (.slice (some ⟨g,0,none⟩) (xs.length+1) cap) (xs++[x])):=⟨hb1,hr1⟩;have HA:=Lib.hid hat;have HO:=Lib.hid ho;clear hb1 hr1 hat ho hlen;have hc:=H1.out.cell;go_wp2_with fail;refine(a9Z _ _ _ _).mono ?_;rintro e w2 ⟨rfl,rfl⟩;go_wp2_with fail;refine(c5d o xs.length (Nat.lt_succ_self _) _ H1.out ?hG ?hU).mono ?_
 case hG=>
  intro y hy;rcases List.mem_append.1 hy with h | h
  · exact HG.out y h
  · rw[List.mem_singleton.1 h];exact HX.out
 case hU=>exact Up.snoc HF.out
 rintro e w3 ⟨rfl,ys,h1,h2,h3,h4⟩
 have HP:Hid (b5D p base v xs x w (.returned (.tuple #[])) w3):=by
  refine⟨rfl,_,ys,h1,h2.trans (List.perm_append_singleton _ _),by rw[<- h1.len];exact h3,HA.out,HO.out.trans2 h4 λ k hk e=>?_⟩;rcases HA.out with ha | ⟨b,hb,hle⟩
  · exact .inr (by rw[<- ha,e];rfl)
  · have:g=b:=by simpa [Value.ownBlock] using hb
    omega
 clear h1 h2 h3 h4;go_wp2_with fail;go_end0;exact HP.out
def b5E (p base g n cap:Nat) (xs:List K3) (w:World) (e:Ending) (w':World):Prop:=
 e=.returned (.iface 253 (.agg #[.int .i64 (xs.getD 0 z3).1,.int .i64 (xs.getD 0 z3).2.1,.int .i64 (xs.getD 0 z3).2.2]))/\∃ ys,CKp p base w' (.slice (some ⟨g,0,none⟩) n cap) ys/\(xs.getD 0 z3 :: ys).Perm xs/\From lessC z3 ys 0 n/\Only (λ k=>k=p\/k=g) w w'
theorem b5F {p base g n cap:Nat} {xs:List K3} (o:Ord lessC GC) (w:World) (hk:CKp p base w (.slice (some ⟨g,0,none⟩) (n+1) cap) xs) (hl:n<=100000) (hg:All GC xs) (hf:From lessC z3 xs 0 (n+1)) :
    Calls Tryz.prog 258 #[.iface 273 (.pointer (some ⟨p,0,none⟩))] w (b5E p base g n cap xs w):=by
 have mp:=c5c;have ml:=b0c;have ms:=b0d;have HK:=Lib.hid hk;have HG:=Lib.hid hg;have HF:=Lib.hid hf;clear hk hg hf;have hc:=HK.out.cell;have HN:=Lib.hid HK.out.len;go_enter Tryz.func258,Tryz.ntmps258;go_wp2_with fail;refine(a9Z _ _ _ _).mono ?_;rintro e w2 ⟨rfl,rfl⟩;go_wp2_with fail;refine(a7O 0 n (by omega) (by omega) (by omega) (by omega) _ HK.out.row).mono ?_;rintro e w1 ⟨rfl,hr1,ho1⟩;have H1:=Lib.hid (HK.out.swapped hr1 ho1);have HO:=Lib.hid ho1;clear hr1 ho1 hc;have hc:=H1.out.cell;go_wp2_with fail;refine(b5C o 0 n (by omega) (by omega) (by omega) _ H1.out ?hG ?hU).mono ?_
 case hG=>exact λ y hy=>HG.out y ((a4l _ _ _ (by rw[<- HN.out];omega) (by rw[<- HN.out];omega)).subset hy)
 case hU=>exact From.swapped (by rw[<- HN.out];omega) HF.out
 rintro e w2 ⟨⟨b,rfl⟩,ys,h1,h2,h3,h4,h5⟩;have H2:=Lib.hid h1;have HP:=Lib.hid h2;have HF2:=Lib.hid h3;have HE:=Lib.hid (h4 n (Nat.le_refl _));have HO2:=Lib.hid h5;clear h1 h2 h3 h4 h5 hc;have hc:=H2.out.cell;go_wp2_with fail;refine(c5a _ H2.out.blk H2.out.row).mono ?_;rintro e w3 ⟨rfl,hb3,hr3,ho3⟩
 have HQ:Hid (b5E p base g n cap xs w (.returned (.iface 253 (.agg #[.int .i64 (ys.getD n z3).1,.int .i64 (ys.getD n z3).2.1,.int .i64 (ys.getD n z3).2.2]))) w3):=by
  have e1:ys.getD n z3=xs.getD 0 z3:=by
   rw[HE.out]
   show(swap z3 xs 0 n).getD n z3=_
   rw[a3j _ _ _ _ (by rw[<- HN.out];omega) (by rw[<- HN.out];omega),if_pos rfl]
  refine⟨by rw[e1],ys.take n,⟨hb3,hr3⟩,popped HN.out.symm HP.out HE.out,HF2.out.taken,?_⟩;exact((HO.out.trans HO2.out).mono (S':=λ k=>k=p\/k=g) (λ _ _ h=>.inr h)).trans (ho3.mono (λ _ _ h=>.inl h))
 clear hb3 hr3 ho3;go_wp2_with fail;go_ret;exact HQ.out
def c5g (p base:Nat) (v:Value) (xs:List K3) (w:World) (e:Ending) (w':World):Prop:=
 e=.returned (.tuple #[])/\∃ ys,CKp p base w' v ys/\ys.Perm xs/\From lessC z3 ys 0 ys.length/\Only (λ k=>v.ownBlock=some k) w w'
theorem b5G {p base:Nat} {v:Value} {xs:List K3} (w:World) (hk:CKp p base w v xs) (hl:xs.length<=100000) :
    Calls Tryz.prog 257 #[.iface 273 (.pointer (some ⟨p,0,none⟩))] w (c5g p base v xs w):=by
 have ml:=b0c;obtain⟨A,c,rfl⟩:=Kd.R_slice hk.row;obtain⟨n,hn⟩:∃ n,n=xs.length:=⟨_,rfl⟩;rw[<- hn] at hk hl ⊢;have hc:=hk.cell;have HI:Hid (CKp p base w (.slice A n c) xs/\xs.Perm xs/\From lessC z3 xs (n/2) n/\Only (λ k=>(Value.slice A n c).ownBlock=some k) w w):=⟨hk,.refl _,λ k h1 h2 h3=>by omega,Only.refl _ _⟩;have HN:=Lib.hid hn;clear hk hn;go_enter Tryz.func257,Tryz.ntmps257;go_wp2_with fail;refine(a9Z _ _ _ _).mono ?_;rintro e w2 ⟨rfl,rfl⟩;go_wp2_with fail;go_loopw [3] (λ iv wr=>∃ (j:Nat) (ys:List K3),iv=.int .i64 ((j:Int)-1)/\j<=n/2/\Hid (CKp p base wr (.slice A n c) ys/\ys.Perm xs/\From lessC z3 ys j n/\Only (λ k=>(Value.slice A n c).ownBlock=some k) w wr)) (λ iv _=>(intOf iv+1).toNat)
 case atStart=>exact⟨n/2,xs,by go_num,Nat.le_refl _,HI⟩
 case round=>
  obtain⟨j,ys,rfl,hj,H⟩:=hrel
  by_cases h0:j=0
  · subst h0;go_wp2_with fail;go_end0;have hlen:=(Kd.R_reads' H.out.1.row).1;exact⟨rfl,ys,H.out.1,H.out.2.1,by rw[<- hlen];exact H.out.2.2.1,H.out.2.2.2⟩
  · obtain⟨m,rfl⟩:∃ m,j=m+1:=⟨j-1,by omega⟩;have em:(((m+1:Nat):Int)-1)=(m:Int):=by omega
    rw[em];have hlen:=(Kd.R_reads' H.out.1.row).1;obtain⟨g,cap,hf,-⟩:=Kd.R_form H.out.1.row (by omega);have e1:A=some ⟨g,0,none⟩:=by injection hf
    have e2:c=cap:=by injection hf
    subst e1 e2;have HL:=Lib.hid hlen;clear hlen hf em h0;go_wp2_with fail;refine(b5C ordC m n (Nat.le_refl _) (by omega) (by omega) _ H.out.1 (λ _ _=>trivial) H.out.2.2.1).mono ?_;rintro e w3 ⟨⟨b,rfl⟩,zs,h1,h2,h3,-,h5⟩
    have H3:Hid (CKp p base w3 (.slice (some ⟨g,0,none⟩) n c) zs/\zs.Perm xs/\From lessC z3 zs m n/\Only (λ k=>(Value.slice (some ⟨g,0,none⟩) n c).ownBlock=some k) w w3):=
     ⟨h1,h2.trans H.out.2.1,h3,H.out.2.2.2.trans (h5.mono λ k _ e=>by rw[e];rfl)⟩
    clear h1 h2 h3 h5;go_wp2_with fail;go_roundw
    case rel=>exact⟨m,zs,by first | rfl | (congr 1;omega),by omega,H3⟩
    case measure=>simp[intOf]
end Go.Proofs.YtflfjpkmjnnodaaGreat
namespace Go.Proofs.YtflfjpkmjnnodaaGreat
open Go.RowKit Go.IntWalk Go.Proofs.YtflfjpkmjnnodaaGreatW.PrintWords
theorem c5G (A:Option Addr) (cp:Nat) (q:List Int) (s:Nat) (w:World) (hr:(Kd.int .i64).C w A 256 q) (hq:q.length=256) (hs:s<=256) :
    Calls Tryz.prog 206 #[.slice A 256 cp,.int .i64 s] w λ e w'=>e=.returned (.int .i64 (a0O q s))/\w=w':=by
 obtain⟨z1,z2,z3⟩:=a4Q q s (by omega);rw[hq] at z1 z3;have HR:=Lib.hid (And.intro hr (And.intro hq (And.intro z2 z3)));obtain⟨z,hz⟩:∃ z,z=a0O q s:=⟨_,rfl⟩;rw[<- hz] at z1 HR ⊢;clear hr hq z2 z3 hz;go_enter Tryz.func206,Tryz.ntmps206;go_wp2_with fail;go_loop [5] (λ kv=>∃ (k:Nat),kv=.int .i64 k/\k<=z) (λ kv=>256-(intOf kv).toNat)
 case atStart=>exact⟨0,rfl,by omega⟩
 case round=>
  obtain⟨k,rfl,hk⟩:=hrel
  by_cases hlt:s+k<256
  · obtain⟨ad,rfl,hcell⟩:=a0v HR.out.1 (s+k) hlt;obtain⟨x,hx⟩:∃ x,x=q.getD (s+k) 0:=⟨_,rfl⟩;rw[<- hx] at hcell;obtain⟨t,ht⟩:∃ t,t=s+k:=⟨_,rfl⟩;have htI:(s:Int)+(k:Int)=(t:Int):=by omega
    rw[<- ht] at hcell hlt
    by_cases hkz:k<z
    · have hx0:x=0:=by rw[hx];exact HR.out.2.2.1 k hkz
      have hb:(x==0)=true:=by rw[hx0];rfl
      have HX:=Lib.hid (And.intro hx (And.intro hx0 ht));clear hx hx0 ht;go_wp2_with fail;go_round
      case rel=>exact⟨k+1,by go_num,by omega⟩
      case measure=>have:=HX.out.2.2;simp[intOf];omega
    · obtain rfl:k=z:=by omega
      have hx0:¬ x=0:=by rw[hx];exact HR.out.2.2.2 (by omega)
      have hb:(x==0)=false:=by simpa using hx0
      clear hx ht;go_wp2_with fail;go_ret;exact⟨rfl,rfl⟩
  · obtain rfl:k=z:=by omega
    go_wp2_with fail;go_ret;exact⟨rfl,rfl⟩
structure Nrm (q:List Int) (r:Nat):Prop where
 len:q.length=256
 nn:∀ x∈q,0<=x
 sum:q.sum=2^r
 r1:1<=r
 r12:r<=12
theorem Nrm.log {q:List Int} {r:Nat} (h:Nrm q r):logC q=r:=by
 have hp:=a1K h.r12;have hR:a0S q=true:=rightC_iff.2 ⟨h.len,h.nn,by rw[h.sum];omega⟩;unfold logC a1d;rw[if_pos hR];exact a6E h.r1 h.r12 h.sum
theorem b5Z (base p cp r:Nat) (A:Option Addr) (v0:Value) (bs:List Bool) (q:List Int) (w0 w:World) (h:WrVal w base p v0 bs) (hB:base<=w.heap.size) (hl:bs.length<=800000) (hr:(Kd.int .i64).C w0 A 256 q) (hb0:Below w0.heap.size w0 w) (hb1:w0.heap.size<=base) (hb2:w0.heap.size<=p) (hn:Nrm q r) :
    Calls Tryz.prog 153 #[.pointer (some ⟨p,0,none⟩),.slice A 256 cp] w λ e w'=>e=.returned (.bool true)/\PutRel base p v0 (bs++hdrB q 257 0 (2^r)) w w':=by
 have hp12:2^r<=2^12:=Nat.pow_le_pow_right (by omega) hn.r12
 have HLen:Hid ((bs++hdrB q 257 0 (2^r)).length<=880000):=by
  show _<=_
  have e2:(2:Int)^r=((2^r:Nat):Int):=by simp
  have h1:=a3S hn.r12 hn.len hn.nn 257 0 (2^r) (by omega) (by rw[List.drop_zero,hn.sum,e2]) (by rw[Nat.pow_succ];have:=Nat.two_pow_pos r;omega);have h2:(256-0)*(r+3)<=256*15:=Nat.mul_le_mul (by omega) (by have:=hn.r12;omega);rw[List.length_append];omega
 obtain⟨P,hP⟩:∃ P:Nat,P=2^r:=⟨_,rfl⟩;have hPI:(2:Int)^r=(P:Int):=by rw[hP];simp
 have hPb:1<=P/\P<=4096:=by have:=Nat.two_pow_pos r;omega
 have hlog:=a5x A cp q w (by rw[hn.len];exact Kd.C_below hr hb0);rw[hn.len] at hlog;unfold a6F at hlog;rw[hn.log] at hlog;have HLog:=Lib.hid hlog;have hd:decide (r≠0)=true:=decide_eq_true (by have:=hn.r1;omega);have hr12:(r:Int)<=12:=by have:=hn.r12;omega
 have hr0:(0:Int)<=r:=by omega
 have hw1:IntKind.i64.wrap (2^r)=(P:Int):=by rw[hPI];exact i64_in _ (by omega)
 have HH:=Lib.hid (And.intro h (And.intro hB (And.intro hl (And.intro hr (And.intro hb0 (And.intro hb1 hb2))))));have HN:=Lib.hid hn;have hsum:(q.drop 0).sum=(P:Int):=by rw[List.drop_zero,hn.sum,hPI]
 have HI:Hid (∃ bs' d,PutRel base p v0 bs' w w/\bs'++hdrB q d 0 P=bs++hdrB q 257 0 P/\(q.drop 0).sum=(P:Int)/\257<=0+d):=⟨bs,257,⟨v0,h,.inl rfl,Only.refl _ _⟩,rfl,hsum,by omega⟩;rw[<- hP] at HLen ⊢;clear hp12 hP hPI hlog h hB hl hr hb0 hb1 hb2 hn hsum;go_enter Tryz.func153,Tryz.ntmps153;go_wp2_with fail;refine HLog.out.mono ?_;rintro e w1 ⟨rfl,rfl⟩;rw[hd];go_wp2_with fail;have HW:=Lib.hid hw1;clear hw1;go_loopw [7,8] (λ lv sv wr=>∃ (left s:Nat),lv=.int .i64 left/\sv=.int .i64 s/\left<=4096/\s<=256/\Hid (∃ bs' d,PutRel base p v0 bs' w wr/\bs'++hdrB q d s left=bs++hdrB q 257 0 P/\(q.drop s).sum=(left:Int)/\257<=s+d)) (λ _ sv _=>257-(intOf sv).toNat)
 case atStart=>exact⟨P,0,rfl,rfl,by omega,by omega,HI⟩
 case round=>
  obtain⟨left,s,rfl,rfl,hl4,hs,H⟩:=hrel;obtain⟨bs',d,hpr,hbs,hsm,hd2⟩:=H.out;clear H
  by_cases h0:left=0
  · have HE:Hid (PutRel base p v0 (bs++hdrB q 257 0 P) w wr):=by
      have:hdrB q d s left=[]:=by
       cases d with
       | zero=>rfl
       | succ d=>simp only[hdrB];rw[if_pos h0]
      rw[this,List.append_nil] at hbs;rw[<- hbs];exact hpr
    clear hpr hbs hsm hd2;subst h0;go_wp2_with fail;go_ret;exact⟨rfl,HE.out⟩
  · have hs256:s<256:=by
      by_cases e:s<256
      · exact e
      · exfalso;rw[List.drop_of_length_le (by have:=HN.out.len;omega)] at hsm;simp at hsm;omega
    obtain⟨d',rfl⟩:∃ d',d=d'+1:=⟨d-1,by omega⟩;have hds:=a5H (q:=q) (s:=s) (by have:=HN.out.len;omega);have hdn:=a7n HN.out.nn (s+1);have hx0:=HN.out.nn _ (a1G (show s<q.length by have:=HN.out.len;omega));obtain⟨x,hx⟩:∃ x:Nat,q.getD s 0=x:=⟨(q.getD s 0).toNat,by omega⟩;have hxl:x<=left:=by omega
    obtain⟨v1,k1,k2,k3⟩:=hpr
    have hC:(Kd.int .i64).C wr A 256 q:=Kd.C_below HH.out.2.2.2.1 (HH.out.2.2.2.2.1.trans (k3.below HH.out.2.2.2.2.1.size (λ k hk=>by
     rcases hk with hk | hk
     · exact hk ▸ HH.out.2.2.2.2.2.2
     · exact Nat.le_trans HH.out.2.2.2.2.2.1 (Kd.R_base HH.out.1.row k hk))))
    obtain⟨ad,rfl,hcell⟩:=a0v hC s hs256;rw[hx] at hcell
    have hunf:hdrB q (d'+1) s left=a0k x (Lib.bitLen left)++(if x=0 then runB (a0O q (s+1))++hdrB q d' (s+1+a0O q (s+1)) left else hdrB q d' (s+1) (left-x)):=by
     simp only[hdrB];rw[if_neg h0,hx,Int.toNat_natCast]
     by_cases e:x=0
     · rw[if_pos (by omega),if_pos e]
     · rw[if_neg (by omega),if_neg e]
    rw[hunf] at hbs
    have hbl:bs'.length<=880000:=by
     have:=congrArg List.length hbs;rw[List.length_append] at this;have:=HLen.out;omega
    have HK:=Lib.hid (And.intro k1 (And.intro k2 k3));have HS:=Lib.hid (And.intro hbs (And.intro hbl (And.intro hsm (And.intro hd2 (And.intro hds (And.intro hx hC))))));have HB1:Hid (base<=wr.heap.size):=Nat.le_trans HH.out.2.1 k3.size;clear k1 k2 k3 hbs hbl hsm hd2 hds hdn hx0 hunf hx hC;have hs256I:(s:Int)<256:=by omega
    go_wp2_with fail;refine(c4y base p v1 bs' x left wr HK.out.1 HB1.out (by have:=HS.out.2.1;omega) (by omega) hl4 hxl).mono ?_;rintro e w1 ⟨rfl,hp⟩;have HP:=Lib.hid (PutRel.trans HK.out hp);clear hp;obtain⟨v2,m1,m2,m3⟩:=HP.out
    have hC1:(Kd.int .i64).C w1 (some ad) 256 q:=Kd.C_below HH.out.2.2.2.1 (HH.out.2.2.2.2.1.trans (m3.below HH.out.2.2.2.2.1.size (λ k hk=>by
     rcases hk with hk | hk
     · exact hk ▸ HH.out.2.2.2.2.2.2
     · exact Nat.le_trans HH.out.2.2.2.2.2.1 (Kd.R_base HH.out.1.row k hk))))
    obtain⟨ad',e',hcell1⟩:=a0v hC1 s hs256;obtain rfl:=Option.some.inj e';rw[HS.out.2.2.2.2.2.1] at hcell1;have HM:=Lib.hid (And.intro m1 (And.intro m2 (And.intro m3 hC1)));have HB2:Hid (base<=w1.heap.size):=Nat.le_trans HH.out.2.1 m3.size;clear m1 m2 m3 hC1 e' hcell
    by_cases hx0:x=0
    · subst hx0;have hzs:=a4Q q (s+1) (by have:=HN.out.len;omega);have hzm:=a7o (q:=q) (t:=s+1) (by have:=HN.out.len;omega) (a0O q (s+1)) (Nat.le_refl _);have hza:=c5G (some ad) cp q (s+1) w1 HM.out.2.2.2 HN.out.len (by omega);have hbs:=HS.out.1;rw[if_pos rfl] at hbs;obtain⟨z,hz⟩:∃ z,z=a0O q (s+1):=⟨_,rfl⟩;rw[<- hz] at hzs hzm hza hbs;have hz255:s+1+z<=256:=by have:=hzs.1;have:=HN.out.len;omega
      have HZ:=Lib.hid (And.intro hzm (And.intro hza hbs));clear hzs hzm hza hz hbs;go_wp2_with fail;refine HZ.out.2.1.mono ?_;rintro e w2 ⟨rfl,rfl⟩;go_wp2_with fail;refine(c4A base p v2 (bs'++a0k 0 (Lib.bitLen left)) z w1 HM.out.1 HB2.out (by rw[List.length_append,a0J];have:=HS.out.2.1;have:=(a9Q (left:=left) (by omega) hl4).2;omega) (by omega)).mono ?_;rintro e w3 ⟨rfl,hp3⟩
      have H3:Hid (∃ bs' d,PutRel base p v0 bs' w w3/\bs'++hdrB q d (s+z+1) left=bs++hdrB q 257 0 P/\(q.drop (s+z+1)).sum=(left:Int)/\257<=s+z+1+d):=by
       refine⟨_,d',PutRel.trans ⟨HM.out.1,HM.out.2.1,HM.out.2.2.1⟩ hp3,?_,?_,?_⟩
       · rw[<- HZ.out.2.2];simp only[List.append_assoc];rw[show s+1+z=s+z+1 by omega]
       · have h1:=HZ.out.1;have h2:=HS.out.2.2.2.2.1;have h3:=HS.out.2.2.1;rw[HS.out.2.2.2.2.2.1] at h2;rw[show s+z+1=s+1+z by omega,<- h1];omega
       · have:=HS.out.2.2.2.1;omega
      clear hp3;go_wp2_with fail;go_roundw
      case rel=>exact⟨left,s+z+1,by first | rfl | go_num,by go_num,by omega,by omega,H3⟩
      case measure=>simp[intOf];omega
    · have hxb:((x:Int)==0)=false:=beq_eq_false_iff_ne.2 (by omega);have hls:(left:Int)-(x:Int)=((left-x:Nat):Int):=by omega
      have H3:Hid (∃ bs' d,PutRel base p v0 bs' w w1/\bs'++hdrB q d (s+1) (left-x)=bs++hdrB q 257 0 P/\(q.drop (s+1)).sum=((left-x:Nat):Int)/\257<=s+1+d):=by
       refine⟨_,d',HP.out,?_,?_,?_⟩
       · have hbs:=HS.out.1;rw[if_neg hx0] at hbs;rw[<- hbs,List.append_assoc]
       · have h2:=HS.out.2.2.2.2.1;have h3:=HS.out.2.2.1;rw[HS.out.2.2.2.2.2.1] at h2;omega
       · have:=HS.out.2.2.2.1;omega
      go_wp2_with fail;go_roundw
      case rel=>exact⟨left-x,s+1,by first | rfl | go_num,by go_num,by omega,by omega,H3⟩
      case measure=>simp[intOf];omega
end Go.Proofs.YtflfjpkmjnnodaaGreat
namespace Go.Proofs.YtflfjpkmjnnodaaGreat
open Go.RowKit Go.Proofs.YtflfjpkmjnnodaaGreatW.PrintWords
theorem a1P (ad:Addr) (k:Nat):(ad.add k).block=ad.block:=by
 unfold Addr.add
 first | rfl | (split <;> rfl)
end Go.Proofs.YtflfjpkmjnnodaaGreat
namespace Go.Proofs.YtflfjpkmjnnodaaGreat
theorem b1i:(Tryz.prog.mayEnter&&(Tryz.prog.liftsFinal==false)&&(Tryz.prog.make==some Make.cut))=true:=by kernel_rfl
theorem d0C:Tryz.prog.mayEnter=true:=by
 have h:=b1i;simp only[Bool.and_eq_true] at h;exact h.1.1
theorem d0D:Tryz.prog.liftsFinal=false:=by
 have h:=b1i;simp only[Bool.and_eq_true,beq_iff_eq] at h;exact h.1.2
theorem jMake:Tryz.prog.make=some Make.cut:=by
 have h:=b1i;simp only[Bool.and_eq_true,beq_iff_eq] at h;exact h.2
end Go.Proofs.YtflfjpkmjnnodaaGreat
