/- The walks of the reference's layer 3: a reader of bits. -/
import Derived.Test.YtflfjpkmjnnodaaGreatNM4
import Derived.Test.YtflfjpkmjnnodaaGreatNS1
import Derived.Test.YtflfjpkmjnnodaaGreatNM2
import Derived.Test.YtflfjpkmjnnodaaGreatNR1
import Derived.Test.YtflfjpkmjnnodaaGreatNM5
import Derived.Test.YtflfjpkmjnnodaaGreatNM1
import Derived.Test.YtflfjpkmjnnodaaGreatNM0
import Derived.RegionTactic
import Derived.ChangeAlike
import Derived.BigRegion
set_option maxRecDepth 100000
set_option maxHeartbeats 4000000
namespace Go.Proofs.YtflfjpkmjnnodaaGreat
open Go.RowKit Go.IntWalk Go.Proofs.YtflfjpkmjnnodaaGreatW.PrintWords Go.Proofs.YtflfjpkmjnnodaaGreat.PRef
structure R3At (w:World) (base p:Nat) (xs:List Bool) (at_:Nat):Prop where
 ex:∃ A c,w.heap[p]?=some (.cells #[.slice A xs.length c,.int .i64 at_] 145 (0,0))/\Kd.bool.R 4 w base (λ k=>k<p) (.slice A xs.length c) xs
theorem R3At.drewN {w:World} {base p:Nat} {xs:List Bool} {at_:Nat} (h:R3At w base p xs at_) (m:Nat):R3At (w.drewN m) base p xs at_:=by
 obtain⟨A,c,h1,h2⟩:=h.ex;exact⟨A,c,h1,Kd.R_below h2 (a0b (Below.refl _ _) m)⟩
theorem R3At.store {w:World} {base p:Nat} {xs:List Bool} {at_:Nat} (h:R3At w base p xs at_) (m:Nat):R3At (w.setCell ⟨p,1,none⟩ (.int .i64 (m:Int))) base p xs m:=by
 obtain⟨A,c,h1,h2⟩:=h.ex;refine⟨A,c,?_,Kd.R_far (p:=⟨p,1,none⟩) h2 (λ k hk=>Nat.ne_of_lt hk) _⟩;rw[a0x h1 1];rfl
theorem R3At.below {w w1:World} {base p:Nat} {xs:List Bool} {at_:Nat} (h:R3At w base p xs at_) (hb:Below w.heap.size w w1):R3At w1 base p xs at_:=by
 obtain⟨A,c,h1,h2⟩:=h.ex;exact⟨A,c,a0h h1 hb,Kd.R_below h2 hb⟩
theorem R3At.far {w:World} {base p:Nat} {xs:List Bool} {at_:Nat} (h:R3At w base p xs at_) {g:Nat} (hg:p<g) (j:Nat) (u:Value):R3At (w.setCell ⟨g,j,none⟩ u) base p xs at_:=by
 obtain⟨A,c,h1,h2⟩:=h.ex;exact⟨A,c,a1v h1 (p:=⟨g,j,none⟩) (by show p≠g;omega) u,Kd.R_far (p:=⟨g,j,none⟩) h2 (λ k hk=>by show k≠g;omega) u⟩
theorem b7E (ps:List Int) {at_ n:Nat} (h:at_+n<=8*ps.length):byteL (((a0K ps (8*ps.length)).drop at_).take n)=takeF ps at_ n:=by
 unfold takeF
 congr 1
 refine List.ext_getElem (by rw[List.length_take,List.length_drop,a1F];simp;omega) λ i h1 h2=>?_;simp[a0K]
theorem b7F (ps:List Int) (hps:Bytes ps):packB (a0K ps (8*ps.length))=ps:=by
 refine List.ext_getElem (by rw[a0B,a1F];omega) λ j h1 h2=>?_;rw[a1S];have hj:=b7E ps (at_:=8*j) (n:=8) (by omega);rw[hj];have hb:=hps.get j;rw[List.getD_eq_getElem?_getD,List.getElem?_eq_getElem h2,Option.getD_some] at hb;obtain⟨y,hy⟩:∃ y:Nat,ps[j]=y:=⟨ps[j].toNat,by omega⟩;rw[hy] at hb ⊢
 have hbit:∀ i,i<8->bitI ps (8*j+i)=y/2^i%2:=by
  intro i hi;unfold bitI;rw[show(8*j+i)/8=j by omega,show(8*j+i)%8=i by omega,List.getD_eq_getElem?_getD,List.getElem?_eq_getElem h2,Option.getD_some,hy,Int.toNat_natCast]
 have e0:takeF ps (8*j) 0=0:=rfl;rw[a2X,a2X,a2X,a2X,a2X,a2X,a2X,a2X,e0,hbit 0 (by omega),hbit 1 (by omega),hbit 2 (by omega),hbit 3 (by omega),hbit 4 (by omega),hbit 5 (by omega),hbit 6 (by omega),hbit 7 (by omega)];simp only[Nat.pow_zero,Nat.pow_succ,Nat.div_one,Nat.one_mul];omega
theorem b7G (ps:List Int) {j:Nat} (hj:j<=ps.length):(a0K ps (8*ps.length)).drop (8*j)=a0K (ps.drop j) (8*(ps.drop j).length):=by
 refine List.ext_getElem (by rw[List.length_drop,a1F,a1F,List.length_drop];omega) λ i h1 h2=>?_;simp only[a0K,List.getElem_drop,List.getElem_map,List.getElem_range]
 congr 2
 unfold bitI;rw[show(8*j+i)/8=j+i/8 by omega,show(8*j+i)%8=i%8 by omega,List.getD_eq_getElem?_getD,List.getD_eq_getElem?_getD,List.getElem?_drop]
theorem c9L (ps:List Int) (i:Nat):bitI (ps.drop 1) i=bitI ps (i+8):=by
 unfold bitI;rw[show(i+8)/8=1+i/8 by omega,show(i+8)%8=i%8 by omega,List.getD_eq_getElem?_getD,List.getD_eq_getElem?_getD,List.getElem?_drop]
theorem b7H (ps:List Int) (at_ n:Nat):takeF (ps.drop 1) at_ n=takeF ps (at_+8) n:=by
 unfold takeF
 congr 1
 refine List.map_congr_left λ i _=>?_;rw[c9L,show at_+i+8=at_+8+i by omega]
def c9M (w:World) (xs:List Bool) (e:Ending) (w':World):Prop:=∃ p,e=.returned (.pointer (some ⟨p,0,none⟩))/\w.heap.size<=p/\R3At w' w.heap.size p xs 0/\Below w.heap.size w w'
theorem b7I (A:Option Addr) (c:Nat) (ps:List Int) (w:World) (hr:(Kd.int .u8).C w A ps.length ps) (hc:ps.length<=c) (hps:Bytes ps) (hl:ps.length<=1000000) :
    Calls Tryz.prog 72 #[.slice A ps.length c] w (c9M w (a0K ps (8*ps.length))):=by
 have HB:=Lib.hid (show Calls Tryz.prog 111 #[.slice A ps.length c] w (MadeB (a0K ps (8*ps.length)) w) from by
  obtain⟨k,hk⟩:=(b7z ps hps hl).rounds;exact puncheonref01_Bits.calls k A c ps _ w hr hc hk)
 obtain⟨xs,hxs⟩:∃ x,x=a0K ps (8*ps.length):=⟨_,rfl⟩;rw[<- hxs] at HB ⊢;clear hr hc hps hl hxs;go_enter Tryz.func72,Tryz.ntmps72;go_wp2_with fail;refine HB.out.mono ?_;rintro e w1 ⟨v,rfl,hv,hb⟩;obtain⟨A1,c1,rfl⟩:=Kd.R_slice hv;have HV:=Lib.hid (And.intro hv hb);clear hv hb;go_wp2_with fail;go_ret;refine⟨w1.heap.size,rfl,HV.out.2.size,⟨A1,c1,a0i _ _,Kd.R_mono (Kd.R_alloc (Kd.R_bound HV.out.1) _) (λ k hk=>hk.2.2.1)⟩,HV.out.2.alloc HV.out.2.size _⟩
theorem c9N (base p:Nat) (xs:List Bool) (at_:Nat) (w:World) (h:R3At w base p xs at_) (hl:xs.length<=8000000) (ha:at_<=xs.length) :
    Calls Tryz.prog 211 #[.pointer (some ⟨p,0,none⟩)] w λ e w'=>e=.returned (.int .i64 ((xs.length-at_:Nat):Int))/\R3At w' base p xs at_/\Only (λ k=>k=p) w w':=by
 obtain⟨A,c,hb,hr⟩:=h.ex;have hc0:w.cell? ⟨p,0,none⟩=some (.slice A xs.length c):=(a0a hb 0).trans rfl;have hc1:w.cell? ⟨p,1,none⟩=some (.int .i64 at_):=(a0a hb 1).trans rfl;have HH:=Lib.hid h;clear h hb hr;have hs:(xs.length:Int)-(at_:Int)=((xs.length-at_:Nat):Int):=by omega
 go_enter Tryz.func211,Tryz.ntmps211;go_wp2_with fail;go_quiet (fail)
 all_goals
  go_wp2_with fail;go_ret;exact⟨a1J (by omega),HH.out.drewN _,(Only.refl _ _).drewN _⟩
def c9O (base p:Nat) (xs:List Bool) (at_ n:Nat) (w:World) (e:Ending) (w':World):Prop:=
 (at_+n<=xs.length->e=.returned (.tuple #[.int .u32 (byteL ((xs.drop at_).take n)),.bool true])/\R3At w' base p xs (at_+n))/\(¬ at_+n<=xs.length->e=.returned (.tuple #[.int .u32 0,.bool false])/\R3At w' base p xs at_)/\Only (λ k=>k=p) w w'
theorem c9P (base p:Nat) (xs:List Bool) (at_ n:Nat) (w:World) (h:R3At w base p xs at_) (hl:xs.length<=8000000) (ha:at_<=xs.length) (hn:n<=24) :
    Calls Tryz.prog 162 #[.pointer (some ⟨p,0,none⟩),.int .i64 n] w (c9O base p xs at_ n w):=by
 have HL:=Lib.hid (c9N base p xs at_ w h hl ha);obtain⟨lf,hlf⟩:∃ lf,lf=xs.length-at_:=⟨_,rfl⟩;rw[<- hlf] at HL;have HP:=Lib.hid (And.intro hl (And.intro ha hlf));have hd1:decide ((n:Int)<0)=false:=decide_eq_false (by omega);have hd2:decide ((24:Int)<(n:Int))=false:=decide_eq_false (by omega);have hd2n:decide (24<n)=false:=decide_eq_false (by omega)
 by_cases hle:n<=lf
 · have hd3:decide ((lf:Int)<(n:Int))=false:=decide_eq_false (by omega);have hd3n:decide (lf<n)=false:=decide_eq_false (by omega);clear h hl ha hlf;go_enter Tryz.func162,Tryz.ntmps162;go_wp2_with fail;refine HL.out.mono ?_;rintro e w1 ⟨rfl,h1,ho1⟩;obtain⟨A,c,hb,hr⟩:=h1.ex;have hc0:w1.cell? ⟨p,0,none⟩=some (.slice A xs.length c):=(a0a hb 0).trans rfl;have hc1:w1.cell? ⟨p,1,none⟩=some (.int .i64 at_):=(a0a hb 1).trans rfl;have hcap:=(Kd.R_reads' hr).2.1;have hC:=(Kd.R_reads' hr).2.2;obtain⟨i0,hi0,hsz⟩:=Option.map_eq_some_iff.1 b1c;obtain⟨A2,hA2⟩:∃ A2,A2=(if c=at_ then A else A.map (·.add (at_*1))):=⟨_,rfl⟩;obtain⟨t,ht⟩:∃ t,t=at_+n:=⟨_,rfl⟩;have htl:t<=xs.length:=by have:=HP.out;omega
   have hcut:∀ W:World,(Instr.slice 142 (.slice A xs.length c) (some (.int .i64 (at_:Int))) (some (.int .i64 (t:Int))) none).run Tryz.prog W=.ok (.slice A2 n (c-at_)) W:=by
    have:=b1L (P:=Tryz.prog) 142 4 .i64 .i64 Tryz.underlying142 hi0 1 hsz A xs.length c (at_:Int) (t:Int) (by omega) (by omega) (by omega) hcap;simp only[Int.toNat_natCast] at this;rw[<- hA2,show t-at_=n by omega] at this;exact this
   have hCm:Kd.bool.C w1 A2 n ((xs.drop at_).take n):=by
    have h2:=Kd.C_mid (c:=c) (lo:=at_) (hi:=t) hC (by omega) htl hcap;have e:(xs.take t).drop at_=(xs.drop at_).take n:=by rw[List.drop_take,show t-at_=n by omega]
    rw[e] at h2;have e2:((xs.drop at_).take n).length=n:=by rw[List.length_take,List.length_drop];omega
    rw[e2] at h2;rw[hA2];exact h2
   have hln:((xs.drop at_).take n).length=n:=by rw[List.length_take,List.length_drop];omega
   have HN:=Lib.hid (λ W (hB:Below w1.heap.size w1 W)=>b7D A2 n (c-at_) ((xs.drop at_).take n) W hln.symm (Kd.C_below hCm hB) (by omega));have hsum:(at_:Int)+(n:Int)=(t:Int):=by omega
   have hsw:IntKind.i64.wrap (t:Int)=(t:Int):=i64_in _ (by have:=HP.out.1;omega);have htn:at_<=t:=by omega
   have H1:=Lib.hid (And.intro h1 (And.intro ho1 (And.intro ht htl)));obtain⟨V,hV⟩:∃ V,V=byteL ((xs.drop at_).take n):=⟨_,rfl⟩;have HV:=Lib.hid hV;rw[<- hV] at HN;clear h1 ho1 hb hr hC hCm hln hA2 ht hV;go_wp2_with fail;go_quiet ((go_at_call 173;refine Calls.quiet_of_same ((HN.out _ (a0b (Below.refl _ _) _)).mono λ e w' h=>⟨h.1,h.2.symm⟩)))
   all_goals
    have HR2:Hid (R3At (w1.drewN nq) base p xs at_/\Only (λ k=>k=p) w (w1.drewN nq)):=⟨H1.out.1.drewN nq,H1.out.2.1.drewN nq⟩;obtain⟨w2,hw2⟩:∃ w2,w2=w1.drewN nq:=⟨_,rfl⟩;rw[<- hw2] at HR2 ⊢;clear hw2 hc0 hc1;obtain⟨A3,c3,hb3,hr3⟩:=HR2.out.1.ex;have hc1:w2.cell? ⟨p,1,none⟩=some (.int .i64 at_):=(a0a hb3 1).trans rfl;have hf1:w2.frozen? ⟨p,1,none⟩=false:=a0e hb3 1;clear hb3 hr3;go_wp2_with fail;go_ret2;refine⟨λ _=>⟨by rw[<- HV.out];rfl,?_⟩,λ h=>absurd h (by have:=H1.out.2.2;omega),HR2.out.2.set1 _ _⟩;rw[<- H1.out.2.2.1];exact HR2.out.1.store t
 · have hd3:decide ((lf:Int)<(n:Int))=true:=decide_eq_true (by omega);have hd3n:decide (lf<n)=true:=decide_eq_true (by omega);clear h hl ha hlf;go_enter Tryz.func162,Tryz.ntmps162;go_wp2_with fail;refine HL.out.mono ?_;rintro e w1 ⟨rfl,h1,ho1⟩;have H1:=Lib.hid (And.intro h1 ho1);clear h1 ho1;go_wp2_with fail;go_ret2;exact⟨λ h=>absurd h (by have:=HP.out;omega),λ _=>⟨rfl,H1.out.1⟩,H1.out.2⟩
def PadP (xs:List Bool) (at_:Nat):Prop:=∀ i,at_<=i->i<8*((at_+7)/8)->xs.getD i false=false
theorem c9Q:∀ j,j<8->∀ y,y<256->(y/2^j=0↔∀ i,i<8->j<=i->y/2^i%2=0):=by decide +kernel
theorem b7J (ps:List Int) {n i:Nat} (h:i<n):(a0K ps n).getD i false=decide (bitI ps i=1):=by
 unfold a0K;rw[List.getD_eq_getElem?_getD,List.getElem?_map,List.getElem?_range h];rfl
theorem b7K (ps:List Int) (hps:Bytes ps) {at_:Nat} (ha:at_<=8*ps.length):PadP (a0K ps (8*ps.length)) at_↔padOk ps at_=true:=by
 unfold padOk;rw[decide_eq_true_eq]
 by_cases h8:at_%8=0
 · exact⟨λ _ h=>h.1 h8,λ _ i h1 h2=>by omega⟩
 · have hb:=hps.get (at_/8);obtain⟨y,hy⟩:∃ y:Nat,ps.getD (at_/8) 0=y:=⟨(ps.getD (at_/8) 0).toNat,by omega⟩;rw[hy] at hb ⊢;rw[Int.toNat_natCast]
   have hbit:∀ i,i<8->bitI ps (8*(at_/8)+i)=y/2^i%2:=by
    intro i hi;unfold bitI;rw[show(8*(at_/8)+i)/8=at_/8 by omega,show(8*(at_/8)+i)%8=i by omega,hy,Int.toNat_natCast]
   have hp:=c9Q (at_%8) (by omega) y (by omega)
   constructor
   · rintro h ⟨-,h2⟩;refine h2 (hp.2 λ i hi hj=>?_);have:=h (8*(at_/8)+i) (by omega) (by omega);rw[b7J ps (by omega),hbit i hi] at this;have:=of_decide_eq_false this;omega
   · intro h i h1 h2;have h0:y/2^(at_%8)=0:=Decidable.byContradiction λ hn=>h ⟨h8,hn⟩;have:=hp.1 h0 (i-8*(at_/8)) (by omega) (by omega);rw[b7J ps (by omega)];have hb2:=hbit (i-8*(at_/8)) (by omega);rw[show 8*(at_/8)+(i-8*(at_/8))=i by omega] at hb2;rw[hb2,this];decide
def c9R (base p:Nat) (xs:List Bool) (at_:Nat) (w:World) (e:Ending) (w':World):Prop:=
 (PadP xs at_->e=.returned (.bool true)/\R3At w' base p xs (8*((at_+7)/8)))/\(¬ PadP xs at_->e=.returned (.bool false))/\Only (λ k=>k=p) w w'
theorem b7L (base p:Nat) (xs:List Bool) (at_ m:Nat) (w:World) (h:R3At w base p xs at_) (hm:xs.length=8*m) (hl:xs.length<=8000000) (ha:at_<=xs.length) :
    Calls Tryz.prog 74 #[.pointer (some ⟨p,0,none⟩)] w (c9R base p xs at_ w):=by
 obtain⟨A,c,hb,hr⟩:=h.ex;have hc0:w.cell? ⟨p,0,none⟩=some (.slice A xs.length c):=(a0a hb 0).trans rfl;have hc1:w.cell? ⟨p,1,none⟩=some (.int .i64 at_):=(a0a hb 1).trans rfl;have hf1:w.frozen? ⟨p,1,none⟩=false:=a0e hb 1;have HC:=Lib.hid (Kd.R_reads' hr).2.2;have HH:=Lib.hid (And.intro h (And.intro hm (And.intro hl ha)));clear h hb hr hm hl ha;go_enter Tryz.func74,Tryz.ntmps74;go_wp2_with fail;go_loop [3] (λ kv=>∃ t:Nat,kv=.int .i64 t/\at_<=t/\t<=8*((at_+7)/8)/\Hid (∀ i,at_<=i->i<t->xs.getD i false=false)) (λ kv=>8*((at_+7)/8)-(intOf kv).toNat)
 case atStart=>exact⟨at_,rfl,Nat.le_refl _,by omega,Lib.hid λ i h1 h2=>by omega⟩
 case round=>
  obtain⟨t,rfl,h1,h2,H⟩:=hrel;have ht8:t<=8000000:=by have:=HH.out.2;omega
  have htm:(t:Int).tmod 8=((t%8:Nat):Int):=by rw[Int.tmod_eq_emod_of_nonneg (by omega)];omega
  by_cases h8:t%8=0
  · have hg:((t:Int).tmod 8 != 0)=false:=by rw[htm,h8];rfl
    have hgE:((t:Int)%8 != 0)=false:=by simp;omega
    have hte:t=8*((at_+7)/8):=by omega
    have HE:=Lib.hid (And.intro hte H.out);clear htm h2 hte;go_wp2_with fail;go_ret;refine⟨λ _=>⟨rfl,?_⟩,λ hn=>absurd (λ i a b=>HE.out.2 i a (by rw[HE.out.1];exact b)) hn,(Only.refl _ _).set1 _ _⟩;rw[<- HE.out.1];exact HH.out.1.store t
  · have hg:((t:Int).tmod 8 != 0)=true:=by rw[htm];simp;omega
    have hgE:((t:Int)%8 != 0)=true:=by simp;omega
    have htl:t<xs.length:=by have:=HH.out.2;omega
    obtain⟨ad,hA,hcx⟩:=b7C HC.out t htl;subst hA;obtain⟨b,hbx⟩:∃ b,b=xs.getD t false:=⟨_,rfl⟩;rw[<- hbx] at hcx;have HBX:=Lib.hid hbx;have htI:(t:Int)<(xs.length:Int):=by omega
    have hlt:t<8*((at_+7)/8):=by omega
    clear hbx htm
    cases b with
    | true=>
     go_wp2_with fail;go_ret;exact⟨λ hp=>(by have h9:=hp t h1 hlt;rw[<- HBX.out] at h9;cases h9),λ _=>rfl,Only.refl _ _⟩
    | false=>
     go_wp2_with fail;go_round
     case rel=>
      refine⟨t+1,by go_num,by omega,by omega,Lib.hid (λ i a b=>?_)⟩
      by_cases e:i=t
      · rw[e];exact HBX.out.symm
      · exact H.out i a (by omega)
     case measure=>simp[intOf];omega
theorem b7M (base p:Nat) (xs:List Bool) (m n:Nat) (w:World) (h:R3At w base p xs (8*m)) (hm:xs.length=8*n) (hl:xs.length<=1000000) (ha:m<=n) :
    Calls Tryz.prog 75 #[.pointer (some ⟨p,0,none⟩)] w (MadeU (packB (xs.drop (8*m))) w):=by
 obtain⟨A,c,hb,hr⟩:=h.ex;obtain⟨t,ht⟩:∃ t,t=8*m:=⟨_,rfl⟩;rw[<- ht] at hb ⊢;have hc0:w.cell? ⟨p,0,none⟩=some (.slice A xs.length c):=(a0a hb 0).trans rfl;have hc1:w.cell? ⟨p,1,none⟩=some (.int .i64 t):=(a0a hb 1).trans rfl;have hcap:=(Kd.R_reads' hr).2.1;have hC:=(Kd.R_reads' hr).2.2;obtain⟨i0,hi0,hsz⟩:=Option.map_eq_some_iff.1 b1c;obtain⟨A2,hA2⟩:∃ A2,A2=(if c=t then A else A.map (·.add (t*1))):=⟨_,rfl⟩;have htl:t<=xs.length:=by omega
 obtain⟨k,hk⟩:∃ k,k=xs.length-t:=⟨_,rfl⟩
 have hcut:∀ W:World,(Instr.slice 142 (.slice A xs.length c) (some (.int .i64 (t:Int))) none none).run Tryz.prog W=.ok (.slice A2 k (c-t)) W:=by
  have:=a6j (P:=Tryz.prog) 142 4 .i64 Tryz.underlying142 hi0 1 hsz A xs.length c (t:Int) (by omega) (by omega);simp only[Int.toNat_natCast] at this;rw[<- hA2,<- hk] at this;exact this
 have hCd:Kd.bool.C w A2 k (xs.drop t):=by
  have h2:=Kd.C_drop (c:=c) (m:=t) hC htl hcap;have e:(xs.drop t).length=k:=by rw[List.length_drop,hk]
  rw[e] at h2;rw[hA2];exact h2
 have HBy:=Lib.hid (b1a A2 (c-t) k (xs.drop t) w hCd (by rw[List.length_drop,hk]) (by rw[List.length_drop];omega) (by rw[List.length_drop];omega));have ht8:t<=8000000:=by omega
 have hg:((t:Int).tmod 8 != 0)=false:=by rw[Int.tmod_eq_emod_of_nonneg (by omega)];simp;omega
 have hgE:((t:Int)%8 != 0)=false:=by simp;omega
 clear h hb hr hC hCd hA2 hk hm ht hl;go_enter Tryz.func75,Tryz.ntmps75;go_wp2_with fail;go_loop [3] (λ kv=>kv=.int .i64 t) (λ kv=>0)
 case atStart=>rfl
 case round=>
  obtain rfl:=hrel;go_wp2_with fail;refine HBy.out.mono ?_;rintro e w1 ⟨v,rfl,hv,hb⟩;have HV:=Lib.hid (And.intro hv hb);clear hv hb;go_wp2_with fail;go_ret;exact⟨v,rfl,HV.out.1,HV.out.2⟩
end Go.Proofs.YtflfjpkmjnnodaaGreat
namespace Go.Proofs.YtflfjpkmjnnodaaGreat
open Go.RowKit Go.IntWalk Go.Proofs.YtflfjpkmjnnodaaGreatW.PrintWords
theorem c9S (A:Option Addr) (cp:Nat) (b:List Int) (c:Nat) (w:World) (hr:(Kd.int .u8).C w A b.length b) (hb:Bytes b) (hl:32<=b.length) (hl2:b.length<=1000000) (hc:c<256) :
    Calls Tryz.prog 110 #[.slice A b.length cp,.int .i64 c] w (λ e w'=>e=.returned (.bool (decide (bitI b c=1)))/\w=w'):=by
 obtain⟨q,hq⟩:∃ q,q=c/8:=⟨_,rfl⟩;obtain⟨j,hj⟩:∃ j,j=c%8:=⟨_,rfl⟩;obtain⟨ad,hA,hx⟩:=a0v hr q (by omega);subst hA;have hbq:=hb.get q;obtain⟨y,hy⟩:∃ y:Nat,b.getD q 0=y:=⟨(b.getD q 0).toNat,by omega⟩;rw[hy] at hx hbq;have HB:Hid (bitI b c=y/2^j%2):=Lib.hid (by unfold bitI;rw[<- hq,<- hj,hy];rfl);have d1:decide ((b.length:Int)<32)=false:=decide_eq_false (by omega);have d2:decide ((c:Int)<0)=false:=decide_eq_false (by omega);have d3:decide ((255:Int)<(c:Int))=false:=decide_eq_false (by omega);have hqT:(c:Int).tdiv 8=(q:Int):=by rw[Int.tdiv_eq_ediv_of_nonneg (by omega)];omega
 have hjT:(c:Int).tmod 8=(j:Int):=by rw[Int.tmod_eq_emod_of_nonneg (by omega)];omega
 have hqE:(c:Int)/8=(q:Int):=by omega
 have hjE:(c:Int)%8=(j:Int):=by omega
 have hqw:IntKind.i64.wrap (q:Int)=(q:Int):=i64_in _ (by omega);have hql:(q:Int)<(b.length:Int):=by omega
 have hj0:¬ (j:Int)<0:=by omega
 have hj8:j<8:=by omega
 have HV:Hid (decide (bitI b c=1)=(((y:Int)/2^j).tmod 2==1)):=Lib.hid (by
  rw[HB.out];have e2:((y:Int)/2^j)=((y/2^j:Nat):Int):=by simp
  rw[e2]
  generalize y/2^j=v
  rw[Int.tmod_eq_emod_of_nonneg (by omega)]
  by_cases h:v%2=1
  · rw[decide_eq_true h];symm;rw[beq_iff_eq];omega
  · rw[decide_eq_false h];symm;rw[beq_eq_false_iff_ne];omega)
 have hy8:y<256:=by omega
 clear hr hb hl hbq hq hj hy hc;go_enter Tryz.func110,Tryz.ntmps110;go_wp2_with fail;go_ret;refine⟨?_,rfl⟩;rw[HV.out];rfl
theorem c9T (b:List Int):(onesN b 256).getD 0 1=0↔bitI b 0=1:=by
 have h1:∀ k,0<k->bitI b 0=1->(onesN b k).getD 0 1=0:=by
  intro k
  induction k with
  | zero=>intro h;omega
  | succ k ih=>
   intro _ hb;rw[a4s];rcases Nat.eq_zero_or_pos k with h0 | h0
   · subst h0;rw[if_pos hb];rfl
   · have:=ih h0 hb
     have hne:0<(onesN b k).length:=by
      rcases Nat.eq_zero_or_pos (onesN b k).length with e | e
      · rw[List.eq_nil_of_length_eq_zero e] at this;cases this
      · exact e
     split
     · rw[List.getD_eq_getElem?_getD,List.getElem?_append_left hne,<- List.getD_eq_getElem?_getD];exact this
     · exact this
 constructor
 · intro h
   have hne:0<(onesN b 256).length:=by
    rcases Nat.eq_zero_or_pos (onesN b 256).length with e | e
    · rw[List.eq_nil_of_length_eq_zero e] at h;cases h
    · exact e
   have hm:(onesN b 256).getD 0 1∈onesN b 256:=by
    rw[List.getD_eq_getElem?_getD,List.getElem?_eq_getElem hne];exact List.getElem_mem hne
   rw[h] at hm;obtain⟨c,e,_,h3⟩:=a7U hm;obtain rfl:c=0:=by omega
   exact h3
 · exact h1 256 (by decide)
theorem c9U (A:Option Addr) (cp:Nat) (b:List Int) (w:World) (hr:(Kd.int .u8).C w A b.length b) (hb:Bytes b) (hl2:b.length<=1000000) :
    Calls Tryz.prog 71 #[.slice A b.length cp] w (a2u b w):=by
 by_cases hl:b.length<32
 · have e:dirT b=(3,[]):=by unfold dirT;rw[if_pos hl]
   have HE:=Lib.hid e;have d1:decide ((b.length:Int)<32)=true:=decide_eq_true (by omega);clear hr hb e;go_enter Tryz.func71,Tryz.ntmps71;go_wp2_with fail;go_ret2;unfold a2u;rw[HE.out];exact⟨_,rfl,Kd.R_nil _ _ _ _ _,Below.refl _ _⟩
 · have d1:decide ((b.length:Int)<32)=false:=decide_eq_false (by omega);have HH:=Lib.hid (λ (W:World) (h:Below w.heap.size w W) (c:Nat) (hc:c<256)=>c9S A cp b c W (Kd.C_below hr h) hb (by omega) hl2 hc);have HZ:=Lib.hid (HH.out w (Below.refl _ _) 0 (by decide));have HO:=Lib.hid (c9T b);have HL:=Lib.hid hl
   by_cases h0:bitI b 0=1
   · have HE:=Lib.hid (b6z (show 32<=b.length by omega) (HO.out.2 h0));rw[decide_eq_true h0] at HZ;clear hr hb hl h0;go_enter Tryz.func71,Tryz.ntmps71;go_wp2_with fail;refine HZ.out.mono ?_;rintro e w1 ⟨rfl,rfl⟩;go_wp2_with fail;go_loopw [5,6] (λ v kv wr=>∃ i:Nat,i<=256/\kv=.int .i64 i/\Hid ((Kd.int .i64).R 3 wr w.heap.size (λ _=>True) v (onesN b i)/\Below w.heap.size w wr)) (λ _ kv _=>256-(intOf kv).toNat)
     case atStart=>exact⟨0,by omega,rfl,Lib.hid ⟨Kd.R_nil _ _ _ _ _,Below.refl _ _⟩⟩
     case round=>
      obtain⟨i,hi,rfl,H⟩:=hrel
      by_cases hlt:i<256
      · have hI:(i:Int)<256:=by omega
        have HHas:=Lib.hid (HH.out wr H.out.2 i hlt);have hs:=a4s b i;have hll:=a7T b i;obtain⟨Av,cv,rfl⟩:=Kd.R_slice H.out.1;obtain⟨L,hL⟩:∃ L,L=onesN b i:=⟨_,rfl⟩;rw[<- hL] at H hs hll ⊢;have HLn:Hid ((L.length+1)*8<=140737488355328):=Lib.hid (by omega)
        by_cases hx:bitI b i=1
        · rw[decide_eq_true hx] at HHas;rw[if_pos hx] at hs;have HS:=Lib.hid hs;clear hs hx hL hll;go_wp2_with fail;refine HHas.out.mono ?_;rintro e w2 ⟨rfl,rfl⟩;go_wp2_with (at_builtin;refine a6s .i64 (w0:=w) (W:=wr) rfl (.tmp 23) (.tmp 25) 84 3 8 rfl Tryz.underlying84 a4h (by decide) _ _ _ rfl rfl H.out.1 H.out.2 HLn.out ?_;intro v1 w3 hr3 hb3 hg3 hat3;have HA:=Lib.hid (And.intro hr3 hb3);clear hr3 hb3 hg3 hat3);go_roundw
          case rel=>exact⟨i+1,by omega,by go_num,Lib.hid (by rw[HS.out];exact HA.out)⟩
          case measure=>simp[intOf];omega
        · rw[decide_eq_false hx] at HHas;rw[if_neg hx] at hs;have HS:=Lib.hid hs;clear hs hx hL hll;go_wp2_with fail;refine HHas.out.mono ?_;rintro e w2 ⟨rfl,rfl⟩;go_wp2_with fail;go_roundw
          case rel=>exact⟨i+1,by omega,by go_num,Lib.hid (by rw[HS.out];exact H.out)⟩
          case measure=>simp[intOf];omega
      · obtain rfl:i=256:=by omega
        go_wp2_with fail;go_ret2;unfold a2u;rw[HE.out];exact⟨_,rfl,H.out.1,H.out.2⟩
   · have HE:=Lib.hid (b0A (show 32<=b.length by omega) (λ h=>h0 (HO.out.1 h)));rw[decide_eq_false h0] at HZ;clear hr hb hl h0;go_enter Tryz.func71,Tryz.ntmps71;go_wp2_with fail;refine HZ.out.mono ?_;rintro e w1 ⟨rfl,rfl⟩;go_wp2_with fail;go_ret2;unfold a2u;rw[HE.out];exact⟨_,rfl,Kd.R_nil _ _ _ _ _,Below.refl _ _⟩
open Go.Proofs.YtflfjpkmjnnodaaGreat.PRef
def R3P (w:World) (base p:Nat) (ps:List Int) (at_:Nat):Prop:=R3At w base p (a0K ps (8*ps.length)) at_
theorem b7N (base p:Nat) (ps:List Int) (at_ n:Nat) (w:World) (h:R3P w base p ps at_) (hl:ps.length<=1000000) (ha:at_<=8*ps.length) (hn:n<=24) :
    Calls Tryz.prog 162 #[.pointer (some ⟨p,0,none⟩),.int .i64 n] w (λ e w'=>(at_+n<=8*ps.length->e=.returned (.tuple #[.int .u32 (takeF ps at_ n),.bool true])/\R3P w' base p ps (at_+n))/\(¬ at_+n<=8*ps.length->e=.returned (.tuple #[.int .u32 0,.bool false])/\R3P w' base p ps at_)/\Only (λ k=>k=p) w w'):=by
 refine(c9P base p _ at_ n w h (by rw[a1F];omega) (by rw[a1F];omega) hn).mono ?_;rintro e w' ⟨h1,h2,h3⟩;rw[a1F] at h1 h2;refine⟨λ hle=>?_,h2,h3⟩;rw[<- b7E ps hle];exact h1 hle
def b7O (base p:Nat) (ps:List Int) (at_ left:Nat) (w:World) (e:Ending) (w':World):Prop:=
 (¬ at_+Lib.bitLen left<=8*ps.length->e=.returned (.tuple #[.int .i64 0,.int .i64 3])) /\
 (at_+Lib.bitLen left<=8*ps.length->left<takeF ps at_ (Lib.bitLen left)->e=.returned (.tuple #[.int .i64 0,.int .i64 13])) /\
 (at_+Lib.bitLen left<=8*ps.length->¬ left<takeF ps at_ (Lib.bitLen left)->e=.returned (.tuple #[.int .i64 (takeF ps at_ (Lib.bitLen left)),.int .i64 0])/\R3P w' base p ps (at_+Lib.bitLen left))/\Only (λ k=>k=p) w w'
theorem c9V (base p:Nat) (ps:List Int) (at_ left:Nat) (w:World) (h:R3P w base p ps at_) (hl:ps.length<=1000000) (ha:at_<=8*ps.length) (h1:1<=left) (h2:left<=4096) :
    Calls Tryz.prog 112 #[.pointer (some ⟨p,0,none⟩),.int .i64 left] w (b7O base p ps at_ left w):=by
 have hbl:Lib.bitLen left<=24:=by
  have:=Lib.bitLen_le left 13 (by omega) (by omega);omega
 have HT:=Lib.hid (b7N base p ps at_ (Lib.bitLen left) w h hl ha hbl);have hvl:=a5G ps at_ (Lib.bitLen left);have HW:=Lib.hid (b7v left w h2);have hv2:2^Lib.bitLen left<=2^24:=Nat.pow_le_pow_right (by decide) hbl;unfold b7O;obtain⟨b,hb⟩:∃ b,b=Lib.bitLen left:=⟨_,rfl⟩;rw[<- hb] at HT hvl HW hv2 hbl ⊢;obtain⟨V,hV⟩:∃ V,V=takeF ps at_ b:=⟨_,rfl⟩;rw[<- hV] at HT hvl ⊢;have hV8:V<16777216:=by omega
 have hVw:IntKind.i64.wrap (V:Int)=(V:Int):=i64_in _ (by omega);have a1:decide ((left:Int)<1)=false:=decide_eq_false (by omega);have a2:decide ((4096:Int)<(left:Int))=false:=decide_eq_false (by omega);clear h hl ha hb hV hvl hv2;go_enter Tryz.func112,Tryz.ntmps112;go_wp2_with fail;refine HW.out.mono ?_;rintro e w1 ⟨rfl,rfl⟩;go_wp2_with fail;refine HT.out.mono ?_;rintro e w2 ⟨t1,t2,t3⟩
 by_cases hle:at_+b<=8*ps.length
 · obtain⟨rfl,hr⟩:=t1 hle;have HR:=Lib.hid (And.intro hr (And.intro t3 hle));clear t1 t2 t3 hr hle
   by_cases hc:left<V
   · have d:decide (left<V)=true:=decide_eq_true hc;have dI:decide ((left:Int)<(V:Int))=true:=decide_eq_true (by omega);go_wp2_with fail;go_ret2;exact⟨λ h=>absurd HR.out.2.2 h,λ _ _=>rfl,λ _ h=>absurd hc h,HR.out.2.1⟩
   · have d:decide (left<V)=false:=decide_eq_false hc;have dI:decide ((left:Int)<(V:Int))=false:=decide_eq_false (by omega);go_wp2_with fail;go_ret2;exact⟨λ h=>absurd HR.out.2.2 h,λ _ h=>absurd h hc,λ _ _=>⟨rfl,HR.out.1⟩,HR.out.2.1⟩
 · obtain⟨rfl,hr⟩:=t2 hle;have HR:=Lib.hid (And.intro t3 hle);clear t1 t2 t3 hr hle;go_wp2_with fail;go_ret2;exact⟨λ _=>rfl,λ h=>absurd h HR.out.2,λ h=>absurd h HR.out.2,HR.out.1⟩
def b1e (base p:Nat) (ps:List Int) (at_ most:Nat) (w:World) (e:Ending) (w':World):Prop:=
 ((runT ps (8*ps.length) 100 at_ 0 most).1=0->e=.returned (.tuple #[.int .i64 ((runT ps (8*ps.length) 100 at_ 0 most).2.1:Nat),.int .i64 0])/\R3P w' base p ps (runT ps (8*ps.length) 100 at_ 0 most).2.2) /\
 ((runT ps (8*ps.length) 100 at_ 0 most).1≠0->e=.returned (.tuple #[.int .i64 0,.int .i64 (runT ps (8*ps.length) 100 at_ 0 most).1]))/\Only (λ k=>k=p) w w'
theorem c9W (base p:Nat) (ps:List Int) (at_ most:Nat) (w:World) (h:R3P w base p ps at_) (hl:ps.length<=1000000) (ha:at_<=8*ps.length) (hm:most<=255) :
    Calls Tryz.prog 113 #[.pointer (some ⟨p,0,none⟩),.int .i64 most] w (b1e base p ps at_ most w):=by
 obtain⟨R,hR⟩:∃ R,R=runT ps (8*ps.length) 100 at_ 0 most:=⟨_,rfl⟩;unfold b1e;rw[<- hR];have HP:=Lib.hid (And.intro hl ha);have HI:Hid (∃ f at',R3P w base p ps at'/\at'<=8*ps.length/\runT ps (8*ps.length) f at' 0 most=R/\300<=3*f+0/\Only (λ k=>k=p) w w):=⟨100,at_,h,ha,hR.symm,by omega,Only.refl _ _⟩;have a1:decide ((most:Int)<0)=false:=decide_eq_false (by omega);have a2:decide ((255:Int)<(most:Int))=false:=decide_eq_false (by omega);clear h hl ha hR;go_enter Tryz.func113,Tryz.ntmps113;go_wp2_with fail;go_loopw [6] (λ nv wr=>∃ m:Nat,nv=.int .i64 m/\m<=most/\Hid (∃ f at',R3P wr base p ps at'/\at'<=8*ps.length/\runT ps (8*ps.length) f at' m most=R/\300<=3*f+m/\Only (λ k=>k=p) w wr)) (λ nv _=>600-(intOf nv).toNat)
 case atStart=>exact⟨0,rfl,by omega,HI⟩
 case round=>
  obtain⟨m,rfl,hmm,H⟩:=hrel;obtain⟨f,at',h1,h2,h3,h4,h5⟩:=H.out;obtain⟨f,rfl⟩:∃ g,f=g+1:=⟨f-1,by omega⟩;have HT:=Lib.hid (b7N base p ps at' 2 wr h1 HP.out.1 h2 (by decide));simp only[runT] at h3;have HH:=Lib.hid (And.intro h3 (And.intro h4 h5));clear h1 h2 h3 h4 h5 H;go_wp2_with fail;refine HT.out.mono ?_;rintro e w1 ⟨t1,t2,t3⟩;have HO:Hid (Only (λ k=>k=p) w w1):=HH.out.2.2.trans t3
  by_cases hle:at'+2<=8*ps.length
  · obtain⟨rfl,hr⟩:=t1 hle;have H1:=Lib.hid hr;have HLE:=Lib.hid hle;have hvl:=a5G ps at' 2;obtain⟨V,hV⟩:∃ V,V=takeF ps at' 2:=⟨_,rfl⟩;have hR:=HH.out.1;rw[if_neg (by omega)] at hR;rw[<- hV] at hvl hR ⊢;have HR:=Lib.hid hR;clear t1 t2 t3 hr hle hV hR;have hV4:V=0\/V=1\/V=2\/V=3:=by omega
    by_cases hmo:most<m+V
    · have HRE:Hid (R=(13,0,0)):=by have:=HR.out;rw[if_pos hmo] at this;exact this.symm
      rcases hV4 with rfl | rfl | rfl | rfl
      · exfalso;omega
      all_goals
       go_wp2_with fail;go_ret2;exact⟨λ h=>by rw[HRE.out] at h;exact absurd h (by decide),λ _=>(by rw[HRE.out];rfl),HO.out⟩
    · by_cases h3:V=3
      · have HRE:Hid (runT ps (8*ps.length) f (at'+2) (m+3) most=R):=by have:=HR.out;rw[if_neg hmo,if_pos h3] at this;exact this
        subst h3;go_wp2_with fail;go_roundw
        case rel=>exact⟨m+3,by go_num,by omega,Lib.hid ⟨f,at'+2,H1.out,HLE.out,HRE.out,by have:=HH.out.2.1;omega,HO.out⟩⟩
        case measure=>simp[intOf];omega
      · have HRE:Hid (R=(0,m+V,at'+2)):=by have:=HR.out;rw[if_neg hmo,if_neg h3] at this;exact this.symm
        have hV3:V=0\/V=1\/V=2:=by omega
        rcases hV3 with rfl | rfl | rfl
        all_goals
         go_wp2_with fail;go_ret2;exact⟨λ _=>by rw[HRE.out];exact⟨rfl,H1.out⟩,λ h=>absurd (by rw[HRE.out]) h,HO.out⟩
  · obtain⟨rfl,hr⟩:=t2 hle;have HRE:Hid (R=(3,0,0)):=by have:=HH.out.1;rw[if_pos (by omega)] at this;exact this.symm
    clear t1 t2 t3 hr hle;go_wp2_with fail;go_ret2;exact⟨λ h=>by rw[HRE.out] at h;exact absurd h (by decide),λ _=>(by rw[HRE.out];rfl),HO.out⟩
structure R15Rel (base p g:Nat) (ps:List Int) (H:Int×List Int×Nat) (w:World) (left s:Nat) (again:Bool) (q:List Int) (at_ d:Nat) (wr:World):Prop where
 rd:R3P wr base p ps at_
 row:(Kd.int .i64).R 3 wr w.heap.size (λ _=>True) (.slice (some ⟨g,0,none⟩) 256 256) q
 ql:q.length=256
 at_le:at_<=8*ps.length
 eq:hdrT ps (8*ps.length) d q s left again at_=H
 fuel:257<=s+d
 only:Only (λ k=>k=p) w wr
 gt:p<g/\w.heap.size<=g
def c9X (base p:Nat) (ps:List Int) (H:Int×List Int×Nat) (w:World) (e:Ending) (w':World):Prop:=
 (H.1=0->∃ A c,e=.returned (.tuple #[.slice A 256 c,.int .i64 0])/\(Kd.int .i64).R 3 w' w.heap.size (λ _=>True) (.slice A 256 c) H.2.1/\H.2.1.length=256/\R3P w' base p ps H.2.2) /\
 (H.1≠0->e=.returned (.tuple #[.slice none 0 0,.int .i64 H.1]))/\Only (λ k=>k=p) w w'
theorem R15Rel.put {base p g:Nat} {ps:List Int} {H:Int×List Int×Nat} {w wr w1:World} {left s:Nat} {again:Bool} {q:List Int} {at_ d:Nat} (h:R15Rel base p g ps H w left s again q at_ d wr) {at2:Nat} (hr:R3P w1 base p ps at2) (ho:Only (λ k=>k=p) wr w1) (x:Int) :
    R3P (w1.setCell ⟨g,s,none⟩ (.int .i64 x)) base p ps at2/\(Kd.int .i64).R 3 (w1.setCell ⟨g,s,none⟩ (.int .i64 x)) w.heap.size (λ _=>True) (.slice (some ⟨g,0,none⟩) 256 256) (q.set s x)/\Only (λ k=>k=p) w (w1.setCell ⟨g,s,none⟩ (.int .i64 x)) /\
     (Kd.int .i64).R 3 w1 w.heap.size (λ _=>True) (.slice (some ⟨g,0,none⟩) 256 256) q:=by
 have hgp:=h.gt
 have h1:(Kd.int .i64).R 3 w1 w.heap.size (λ _=>True) (.slice (some ⟨g,0,none⟩) 256 256) q:=a2G rfl h.row ho (λ k hk e=>by
  have:g=k:=by simpa [Value.ownBlock] using hk
  omega)
 have h2:=Kd.R_putn h1 (s:Int) x;rw[Int.toNat_natCast] at h2;refine⟨hr.far hgp.1 s _,h2,?_,h1⟩;have h3:=h.only.trans ho;exact⟨h3.os,h3.tape,h3.output,by simp;exact h3.size,λ k hk hs=>by rw[Below.heap_setCell _ _ _ _ (by show k≠g;omega)];exact h3.block k hk hs⟩
theorem b7P (base p:Nat) (ps:List Int) (at_ log:Nat) (w:World) (h:R3P w base p ps at_) (hl:ps.length<=1000000) (ha:at_<=8*ps.length) (h1:1<=log) (h2:log<=12) (hp:p<w.heap.size) :
    Calls Tryz.prog 73 #[.pointer (some ⟨p,0,none⟩),.int .i64 log] w (c9X base p ps (hdrT ps (8*ps.length) 257 a0y 0 (2^log) false at_) w):=by
 obtain⟨H,hH⟩:∃ H,H=hdrT ps (8*ps.length) 257 a0y 0 (2^log) false at_:=⟨_,rfl⟩;rw[<- hH];obtain⟨W,hW⟩:∃ W,W=w.alloc (.cells (madeCells #[.int .i64 0] 256) 3):=⟨_,rfl⟩
 have HI:Hid (R15Rel base p w.heap.size ps H w (2^log) 0 false a0y at_ 257 W):=by
  refine⟨?_,?_,by unfold a0y;exact List.length_replicate,ha,hH.symm,by omega,?_,hp,Nat.le_refl _⟩
  · rw[hW];exact h.below ((Below.refl _ _).alloc (Nat.le_refl _) _)
  · rw[hW];exact a7L 256 3 w _ trivial _ (Nat.le_refl _) (by omega)
  · rw[hW];exact(Only.refl _ _).alloc _
 have hmi:∀ w:World,(Instr.makeSlice 84 (.int .i64 256) (.int .i64 256)).run Tryz.prog w=.ok (.slice (some ⟨w.heap.size,0,none⟩) 256 256) (w.alloc (.cells (madeCells #[.int .i64 0] 256) 3)):=λ w=>a7A 256 (by omega) w;have HP:=Lib.hid (And.intro hl ha);have hpw:2^log<=2^12:=Nat.pow_le_pow_right (by decide) h2;obtain⟨left0,hleft0⟩:∃ l,l=2^log:=⟨_,rfl⟩;rw[<- hleft0] at HI hpw;have hleft:left0<=4096:=hpw;have hshl:((2:Int)^log)=(left0:Int):=by rw[hleft0];simp
 have hshl2:IntKind.i64.wrap (left0:Int)=(left0:Int):=i64_in _ (by omega);have a1:decide ((log:Int)<1)=false:=decide_eq_false (by omega);have a2:decide ((12:Int)<(log:Int))=false:=decide_eq_false (by omega);have a3:¬ (log:Int)<0:=by omega
 clear h hl ha hH hleft0 hpw;go_enter Tryz.func73,Tryz.ntmps73;go_wp2_with fail;rw[<- hW];obtain⟨g,hg⟩:∃ g,g=w.heap.size:=⟨_,rfl⟩;rw[<- hg] at HI ⊢;clear hW hg hmi;go_wp2_with fail;go_loopw [7,8,9] (λ lv sv av wr=>∃ (left s:Nat) (again:Bool),lv=.int .i64 left/\av=.bool again/\sv=.int .i64 s/\left<=4096/\s<=256/\Hid (∃ q at' d,R15Rel base p g ps H w left s again q at' d wr)) (λ _ sv _ _=>257-(intOf sv).toNat)
 case atStart=>exact⟨left0,0,false,rfl,rfl,rfl,hleft,by omega,a0y,at_,257,HI⟩
 case round=>
  obtain⟨left,s,again,rfl,rfl,rfl,hl4,hs,HR⟩:=hrel;obtain⟨q,at',d,hr⟩:=HR.out;obtain⟨d,rfl⟩:∃ d',d=d'+1:=⟨d-1,by have:=hr.fuel;omega⟩;have heq:=hr.eq;simp only[hdrT] at heq;have HH:=Lib.hid hr;clear hr HR
  by_cases h0:left=0
  · rw[if_pos h0] at heq;have HE:=Lib.hid heq;subst h0;clear heq;go_wp2_with fail;go_ret2;exact⟨λ _=>⟨_,_,rfl,by rw[<- HE.out];exact HH.out.row,by rw[<- HE.out];exact HH.out.ql,by rw[<- HE.out];exact HH.out.rd⟩,λ h=>by rw[<- HE.out] at h;exact absurd rfl h,HH.out.only⟩
  · rw[if_neg h0] at heq;have dl:decide ((0:Int)<(left:Int))=true:=decide_eq_true (by omega)
    by_cases h256:s=256
    · rw[if_pos h256] at heq;have HE:=Lib.hid heq;subst h256;clear heq;go_wp2_with fail;go_ret2;exact⟨(λ h=>by rw[<- HE.out] at h;cases h),(λ _=>by rw[<- HE.out];rfl),HH.out.only⟩
    · rw[if_neg h256] at heq;have hsb:decide ((255:Int)<(s:Int))=false:=decide_eq_false (by omega);have hs256:(s:Int)<256:=by omega
      have HEQ:=Lib.hid heq;have HT:=Lib.hid (c9V base p ps at' left wr HH.out.rd HP.out.1 HH.out.at_le (by omega) hl4);clear heq;go_wp2_with fail;refine HT.out.mono ?_;rintro e w1 ⟨t1,t2,t3,t4⟩;have HO:=Lib.hid t4
      by_cases hT:8*ps.length<at'+Lib.bitLen left
      · obtain rfl:=t1 (by omega);have HE:Hid ((3,q,0)=H):=by have:=HEQ.out;rw[if_pos hT] at this;exact this
        clear t1 t2 t3 t4;go_wp2_with fail;go_ret2;exact⟨(λ h=>by rw[<- HE.out] at h;cases h),(λ _=>by rw[<- HE.out];rfl),HH.out.only.trans HO.out⟩
      · have hT':at'+Lib.bitLen left<=8*ps.length:=by omega
        by_cases hV:left<takeF ps at' (Lib.bitLen left)
        · obtain rfl:=t2 hT' hV;have HE:Hid ((13,q,0)=H):=by have:=HEQ.out;rw[if_neg hT,if_pos hV] at this;exact this
          clear t1 t2 t3 t4 hT hT' hV;go_wp2_with fail;go_ret2;exact⟨(λ h=>by rw[<- HE.out] at h;cases h),(λ _=>by rw[<- HE.out];rfl),HH.out.only.trans HO.out⟩
        · obtain⟨rfl,hrd⟩:=t3 hT' hV;obtain⟨V,hVe⟩:∃ V,V=takeF ps at' (Lib.bitLen left):=⟨_,rfl⟩;have hq3:=HEQ.out;rw[if_neg hT,if_neg hV] at hq3;rw[<- hVe] at hq3 hV ⊢;have hVl:V<=left:=by omega
          have HPut:=Lib.hid (HH.out.put hrd HO.out (V:Int));obtain⟨hcl,hfz⟩:=a1D HPut.out.2.2.2 s (by omega);have HQ3:=Lib.hid hq3;have HT2:=Lib.hid hT';obtain⟨at2,hat2⟩:∃ a,a=at'+Lib.bitLen left:=⟨_,rfl⟩;rw[<- hat2] at HPut HQ3 HT2;clear t1 t2 t3 t4 hT hT' hV hVe hq3 hrd hat2
          by_cases hV0:V=0
          · subst hV0
            cases again with
            | true=>
             have HE:Hid ((13,q,0)=H):=by have:=HQ3.out;rw[if_pos ⟨rfl,rfl⟩] at this;exact this
             go_wp2_with fail;go_ret2;exact⟨(λ h=>by rw[<- HE.out] at h;cases h),(λ _=>by rw[<- HE.out];rfl),HH.out.only.trans HO.out⟩
            | false=>
             by_cases hs1:s+1=256
             · have HE:Hid ((13,q,0)=H):=by have:=HQ3.out;rw[if_neg (λ h=>by cases h.1),if_pos rfl,if_pos hs1] at this;exact this
               have hsb1:decide ((255:Int)<(s:Int)+1)=true:=decide_eq_true (by omega);go_wp2_with fail;go_ret2;exact⟨(λ h=>by rw[<- HE.out] at h;cases h),(λ _=>by rw[<- HE.out];rfl),HPut.out.2.2.1⟩
             · have hsb1:decide ((255:Int)<(s:Int)+1)=false:=decide_eq_false (by omega);have hq4:=HQ3.out;rw[if_neg (λ h=>by cases h.1),if_pos rfl,if_neg hs1] at hq4;have HQ4:=Lib.hid hq4;have hmost:(255:Int)-((s:Int)+1)=((254-s:Nat):Int):=by omega
               clear hq4;go_wp2_with fail;obtain⟨R,hR⟩:∃ R,R=runT ps (8*ps.length) 100 at2 0 (254-s):=⟨_,rfl⟩;have hRle:R.1=0->R.2.1<=254-s:=λ h=>by rw[hR] at h ⊢;exact b5s _ _ _ _ h
               have hRend:R.1=0->R.2.2<=8*ps.length:=λ h=>by rw[hR] at h ⊢;exact a9S _ _ _ _ h
               have hrt:=c9W base p ps at2 (254-s) _ HPut.out.1 HP.out.1 HT2.out (by omega);unfold b1e at hrt;rw[<- hR] at hrt HQ4;have HRE:=Lib.hid (And.intro hRle hRend);clear hR hRle hRend;refine hrt.mono ?_;rintro e w2 ⟨r1,r2,r3⟩;have HO2:Hid (Only (λ k=>k=p) w w2):=HPut.out.2.2.1.trans r3
               by_cases hr1:R.1=0
               · obtain⟨rfl,hrd2⟩:=r1 hr1;have hle:=HRE.out.1 hr1;have hq5:=HQ4.out;rw[if_neg (λ h=>h hr1)] at hq5
                 have HNew:Hid (∃ q at' d,R15Rel base p g ps H w left (s+1+R.2.1) true q at' d w2):=by
                  refine⟨q.set s 0,R.2.2,d,hrd2,?_,by simp[HH.out.ql],HRE.out.2 hr1,hq5,by have:=HH.out.fuel;omega,HO2.out,HH.out.gt⟩
                  exact a2G rfl HPut.out.2.1 r3 (λ k hk e=>by
                   have:g=k:=by simpa [Value.ownBlock] using hk
                   have:=HH.out.gt;omega)
                 obtain⟨rn,hrn⟩:∃ rn,rn=R.2.1:=⟨_,rfl⟩;rw[<- hrn] at hle HNew ⊢;clear r1 r2 r3 hrd2 hq5 hrt hrn;go_wp2_with fail;go_roundw
                 case rel=>exact⟨left,s+1+rn,true,by first | rfl | (congr 1;omega),rfl,by go_num,hl4,by omega,HNew⟩
                 case measure=>simp[intOf];omega
               · obtain rfl:=r2 hr1;have HE:Hid ((R.1,q,0)=H):=by have:=HQ4.out;rw[if_pos hr1] at this;exact this
                 obtain⟨rc,hrc⟩:∃ rc,rc=R.1:=⟨_,rfl⟩;rw[<- hrc] at HE hr1 ⊢;have hrcb:(rc != 0)=true:=by simpa using hr1
                 clear r1 r2 r3 hrt hrc;go_wp2_with fail;go_ret2;exact⟨(λ h=>by rw[<- HE.out] at h;exact absurd h hr1),(λ _=>by rw[<- HE.out];rfl),HO2.out⟩
          · have hvb:((V:Int)==0)=false:=beq_eq_false_iff_ne.2 (by omega);have hq4:=HQ3.out;rw[if_neg (λ h=>hV0 h.2),if_neg hV0] at hq4
            have HNew:Hid (∃ q at' d,R15Rel base p g ps H w (left-V) (s+1) false q at' d (w1.setCell ⟨g,s,none⟩ (.int .i64 (V:Int)))):=
             ⟨q.set s (V:Int),at2,d,HPut.out.1,HPut.out.2.1,by simp[HH.out.ql],HT2.out,hq4,by have:=HH.out.fuel;omega,HPut.out.2.2.1,HH.out.gt⟩
            have hls:(left:Int)-(V:Int)=((left-V:Nat):Int):=by omega
            clear hq4;go_wp2_with fail;go_roundw
            case rel=>exact⟨left-V,s+1,false,by first | rfl | (congr 1;omega),rfl,by go_num,by omega,by omega,HNew⟩
            case measure=>simp[intOf];omega
end Go.Proofs.YtflfjpkmjnnodaaGreat
namespace Go.Proofs.YtflfjpkmjnnodaaGreat
open Go.RowKit
theorem c9Y (ps:List Int) (T most:Nat):∀ (f at_ n:Nat),(runT ps (T+8) f (at_+8) n most).1=(runT (ps.drop 1) T f at_ n most).1/\((runT (ps.drop 1) T f at_ n most).1=0->(runT ps (T+8) f (at_+8) n most).2.1=(runT (ps.drop 1) T f at_ n most).2.1/\(runT ps (T+8) f (at_+8) n most).2.2=(runT (ps.drop 1) T f at_ n most).2.2+8):=by
 intro f
 induction f with
 | zero=>intro at_ n;exact⟨rfl,λ h=>by simp[runT] at h⟩
 | succ f ih=>
  intro at_ n;simp only[runT,<- b7H]
  by_cases h1:T<at_+2
  · rw[if_pos h1,if_pos (show T+8<at_+8+2 by omega)];exact⟨rfl,λ h=>by cases h⟩
  · rw[if_neg h1,if_neg (show ¬ T+8<at_+8+2 by omega)]
    by_cases h2:most<n+takeF (ps.drop 1) at_ 2
    · rw[if_pos h2,if_pos h2];exact⟨rfl,λ h=>by cases h⟩
    · rw[if_neg h2,if_neg h2]
      by_cases h3:takeF (ps.drop 1) at_ 2=3
      · rw[if_pos h3,if_pos h3,show at_+8+2=at_+2+8 by omega];exact ih (at_+2) (n+3)
      · rw[if_neg h3,if_neg h3];exact⟨rfl,λ _=>⟨rfl,by show at_+8+2=at_+2+8;omega⟩⟩
theorem c9Z (ps:List Int) (T:Nat):∀ (d:Nat) (q:List Int) (s left:Nat) (again:Bool) (at_:Nat),(hdrT ps (T+8) d q s left again (at_+8)).1=(hdrT (ps.drop 1) T d q s left again at_).1/\((hdrT (ps.drop 1) T d q s left again at_).1=0->(hdrT ps (T+8) d q s left again (at_+8)).2.1=(hdrT (ps.drop 1) T d q s left again at_).2.1/\(hdrT ps (T+8) d q s left again (at_+8)).2.2=(hdrT (ps.drop 1) T d q s left again at_).2.2+8):=by
 intro d
 induction d with
 | zero=>intro q s left again at_;exact⟨rfl,λ h=>by simp[hdrT] at h⟩
 | succ d ih=>
  intro q s left again at_;simp only[hdrT,<- b7H]
  by_cases h0:left=0
  · rw[if_pos h0,if_pos h0];exact⟨rfl,λ _=>⟨rfl,rfl⟩⟩
  · rw[if_neg h0,if_neg h0]
    by_cases h1:s=256
    · rw[if_pos h1,if_pos h1];exact⟨rfl,λ h=>by cases h⟩
    · rw[if_neg h1,if_neg h1]
      by_cases h2:T<at_+Lib.bitLen left
      · rw[if_pos h2,if_pos (show T+8<at_+8+Lib.bitLen left by omega)];exact⟨rfl,λ h=>by cases h⟩
      · rw[if_neg h2,if_neg (show ¬ T+8<at_+8+Lib.bitLen left by omega)];have e1:at_+8+Lib.bitLen left=at_+Lib.bitLen left+8:=by omega
        rw[e1]
        by_cases h3:left<takeF (ps.drop 1) at_ (Lib.bitLen left)
        · rw[if_pos h3,if_pos h3];exact⟨rfl,λ h=>by cases h⟩
        · rw[if_neg h3,if_neg h3]
          by_cases h4:again=true/\takeF (ps.drop 1) at_ (Lib.bitLen left)=0
          · rw[if_pos h4,if_pos h4];exact⟨rfl,λ h=>by cases h⟩
          · rw[if_neg h4,if_neg h4]
            by_cases h5:takeF (ps.drop 1) at_ (Lib.bitLen left)=0
            · rw[if_pos h5,if_pos h5]
              by_cases h6:s+1=256
              · rw[if_pos h6,if_pos h6];exact⟨rfl,λ h=>by cases h⟩
              · rw[if_neg h6,if_neg h6];obtain⟨r1,r2⟩:=c9Y ps T (254-s) 100 (at_+Lib.bitLen left) 0;rw[r1]
                by_cases h7:(runT (ps.drop 1) T 100 (at_+Lib.bitLen left) 0 (254-s)).1≠0
                · rw[if_pos h7,if_pos h7];exact⟨rfl,λ h=>absurd h h7⟩
                · rw[if_neg h7,if_neg h7];obtain⟨r3,r4⟩:=r2 (Decidable.byContradiction h7);rw[r3,r4];exact ih _ _ _ _ _
            · rw[if_neg h5,if_neg h5];exact ih _ _ _ _ _
theorem d0a (ps:List Int) (h0:¬ ps.length=0) (v:Nat) (hv:v=(ps.getD 0 0).toNat) (h1:5<=v/\v<=11) (H:Int×List Int×Nat) (hH:H=hdrT (ps.drop 1) (8*(ps.drop 1).length) 257 a0y 0 (2^v) false 0) :
    (H.1≠0->a0w ps=(H.1,0,[],[]))/\(H.1=0->padOk (ps.drop 1) H.2.2=false->a0w ps=(4,0,[],[]))/\(H.1=0->padOk (ps.drop 1) H.2.2=true->a0w ps=(0,v,H.2.1,(ps.drop 1).drop ((H.2.2+7)/8))):=by
 have hT:8*ps.length=8*(ps.drop 1).length+8:=by rw[List.length_drop];omega
 obtain⟨s1,s2⟩:=c9Z ps (8*(ps.drop 1).length) 257 a0y 0 (2^v) false 0;rw[<- hT,Nat.zero_add,<- hH] at s1 s2
 have hS:a0w ps=if H.1≠0 then (H.1,0,[],[]) else if (hdrT ps (8*ps.length) 257 a0y 0 (2^v) false 8).2.2%8≠0/\(ps.getD ((hdrT ps (8*ps.length) 257 a0y 0 (2^v) false 8).2.2/8) 0).toNat/2^((hdrT ps (8*ps.length) 257 a0y 0 (2^v) false 8).2.2%8)≠0 then (4,0,[],[]) else (0,v,(hdrT ps (8*ps.length) 257 a0y 0 (2^v) false 8).2.1,ps.drop (((hdrT ps (8*ps.length) 257 a0y 0 (2^v) false 8).2.2+7)/8)):=by
  unfold a0w;rw[if_neg h0,<- hv,if_neg (by omega)];simp only[s1]
 refine⟨λ h=>by rw[hS,if_pos h],λ h hp=>?_,λ h hp=>?_⟩
 all_goals
  rw[hS,if_neg (λ e=>e h)];obtain⟨e1,e2⟩:=s2 h;rw[e1,e2]
  have g:ps.getD ((H.2.2+8)/8) 0=(ps.drop 1).getD (H.2.2/8) 0:=by
   rw[show(H.2.2+8)/8=1+H.2.2/8 by omega,List.getD_eq_getElem?_getD,List.getD_eq_getElem?_getD,List.getElem?_drop]
  rw[g,show(H.2.2+8)%8=H.2.2%8 by omega];unfold padOk at hp
 · rw[if_pos (Classical.not_not.1 (of_decide_eq_false hp))]
 · rw[if_neg (of_decide_eq_true hp),List.drop_drop,show(H.2.2+8+7)/8=1+(H.2.2+7)/8 by omega]
open Go.Proofs.YtflfjpkmjnnodaaGreat.PRef Go.Proofs.YtflfjpkmjnnodaaGreatW.PrintWords Go.Proofs.YtflfjpkmjnnodaaGreatW.PrintLast Go.Proofs.YtflfjpkmjnnodaaGreatW.PrintMore
def cellS (x:K3):S170:=⟨x.1,x.2.1,x.2.2⟩
def symAt (q:List Int) (P:Nat):Nat:=((symsL q).getD P 0).toNat
def outT (q:List Int) (s i:Nat):List S170:=(List.range (2^logC q)).map (λ P=>if symAt q P<s\/(symAt q P=s/\a0u q P<i) then cellS (a0T q P) else z170)
theorem a2P (q:List Int) (s i:Nat):(outT q s i).length=2^logC q:=by simp[outT]
theorem a5n (q:List Int) (s i P:Nat) (h:P<(outT q s i).length):(outT q s i)[P]=if symAt q P<s\/(symAt q P=s/\a0u q P<i) then cellS (a0T q P) else z170:=by simp[outT]
theorem d0b {q:List Int} (hl:logC q≠0) {s i:Nat} (h1:cntC q s<=i) (h2:i<2*cntC q s):∃ P:Nat,(a1k q s).getD (i-cntC q s) 0=P/\P<2^logC q/\(symsL q).getD P 0=s/\a0u q P=i/\(∀ P',P'<2^logC q->symAt q P'=s->a0u q P'=i->P'=P):=by
 have hq:=a1A hl;have hlen:(posN (symsL q) s (symsL q).length).length=cntC q s:=rfl;obtain⟨P,e1,e2,e3,e4⟩:=b4c (l:=symsL q) (s:=s) (k:=i-cntC q s) (by omega);rw[a1Q hl] at e2;have hg:=a7d hl e2
 have hgr:∀ P',P'<2^logC q->(symsL q).getD P' 0=s->a0u q P'=cntC q s+(posN (symsL q) s P').length:=λ P' _ h=>by
  unfold a0u;rw[h];simp only[Int.toNat_natCast];rw[a1R hq]
 refine⟨P,e1,e2,by rw[hg.1,e3],by rw[hgr P e2 (by rw[hg.1,e3]),e4];omega,λ P' hP' hs' hg'=>?_⟩;have hg2:=a7d hl hP';have hs2:(symsL q).getD P' 0=s:=by unfold symAt at hs';omega
 have h3:=hgr P' hP' hs2;have h4:=b4b (l:=symsL q) (s:=s) (P:=P') (by rw[a1Q hl];exact hP') (by rw[<- hg2.1];exact hs2);rw[show(posN (symsL q) s P').length=i-cntC q s by omega] at h4;have h5:((P':Nat):Int)=P:=by rw[<- h4];exact e1
 omega
theorem d0c {q:List Int} {s i P:Nat} (hs:(symsL q).getD P 0=s) (hg:a0u q P=i) (hu:∀ P',P'<2^logC q->symAt q P'=s->a0u q P'=i->P'=P):(outT q s i).set P (cellS (a0T q P))=outT q s (i+1):=by
 refine List.ext_getElem (by rw[List.length_set,a2P,a2P]) λ k h1 h2=>?_;rw[List.getElem_set,a5n,a5n];rw[List.length_set,a2P] at h1
 by_cases h:P=k
 · subst h;rw[if_pos rfl,if_pos (.inr ⟨by unfold symAt;omega,by omega⟩)]
 · rw[if_neg h]
   by_cases h3:symAt q k<s\/(symAt q k=s/\a0u q k<i)
   · rw[if_pos h3,if_pos (by omega)]
   · rw[if_neg h3,if_neg (λ h4=>by
       rcases h4 with h4 | h4
       · exact h3 (.inl h4)
       · by_cases h5:a0u q k=i
         · exact h (hu k h1 h4.1 h5).symm
         · exact h3 (.inr ⟨h4.1,by omega⟩))]
theorem d0d {q:List Int} (hl:logC q≠0) (s:Nat):outT q s (2*cntC q s)=outT q (s+1) (cntC q (s+1:Nat)):=by
 have hq:=a1A hl;refine List.ext_getElem (by rw[a2P,a2P]) λ k h1 h2=>?_;rw[a5n,a5n];rw[a2P] at h1;have hk:k<(symsL q).length:=by rw[a1Q hl];exact h1
 have hg:=b3r hq k hk;have hs:=a3M hq k hk;have hge:(q.getD ((symsL q).getD k 0).toNat 0).toNat<=a0u q k:=by unfold a0u;omega
 have e:∀ t:Nat,symAt q k=t->(q.getD ((symsL q).getD k 0).toNat 0).toNat=cntC q t:=λ t ht=>by
  rw[a1R hq];unfold symAt at ht;rw[ht]
 by_cases h3:symAt q k<s
 · rw[if_pos (.inl h3),if_pos (.inl (by omega))]
 · by_cases h4:symAt q k=s
   · rw[if_pos (.inr ⟨h4,by rw[<- e s h4];exact hg.2⟩),if_pos (.inl (by omega))]
   · rw[if_neg (by omega),if_neg (λ h5=>by
       rcases h5 with h5 | h5
       · omega
       · have:=e (s+1) h5.1;have h6:=h5.2;omega)]
theorem d0e {q:List Int} (hl:logC q≠0):∀ (d s:Nat),s+d=256->∀ (r i:Nat),cntC q s<=i->i+r=2*cntC q s->s<256->Ev (λ k=>puncheonref11_Of.l1 k q ((logC q:Nat):Int) ((2^logC q:Nat):Int) (outT q s i) (s:Int) (i:Int)) ((a0V q).map cellS,0):=by
 have hq:=a1A hl;have hlen:=hq.len;have hr12:logC q<=12:=a1M _;have hp12:2^logC q<=2^12:=Nat.pow_le_pow_right (by omega) hr12
 have hcnt:∀ s:Nat,s<256->q.getD s 0=(cntC q s:Int)/\cntC q s<=4096:=λ s _=>by
  have h1:=a1R hq s;have h2:=(hq.get s).1;have h3:=a4J hl s;omega
 intro d
 induction d with
 | zero=>intro s h1 r i _ _ h;omega
 | succ d ihd=>
  intro s hs r
  induction r with
  | zero=>
   intro i h1 h2 h3;obtain⟨hc,hc2⟩:=hcnt s h3;have c1:(0:Int)<=s:=by omega
   have c2:(s:Int)<(q.length:Int):=by omega
   have e0:¬ (i:Int)<wrap64 (2*(cntC q s:Int)):=by rw[w64 (by omega)];omega
   refine Ev.step (λ k=>(show puncheonref11_Of.l1 (k+1) _ _ _ _ _ _=_ by simp only[puncheonref11_Of.l1];rw[if_pos c1,if_pos c2,a0G,hc,if_neg e0,wS s (by omega)])) ?_;rw[show i=2*cntC q s by omega,d0d hl]
   by_cases h5:s+1<256
   · obtain⟨hd,hd2⟩:=hcnt (s+1) h5;refine Ev.step (λ k=>(show puncheonref11_Of.l0 (k+1) _ _ _ _ _=_ by simp only[puncheonref11_Of.l0];rw[if_pos (by omega),if_pos (by omega),if_pos (by omega),a0G,hd])) ?_;exact ihd (s+1) (by omega) (cntC q (s+1:Nat)) _ (Nat.le_refl _) (by omega) h5
   · refine Ev.step (λ k=>(show puncheonref11_Of.l0 (k+1) _ _ _ _ _=_ by simp only[puncheonref11_Of.l0];rw[if_neg (by omega)])) ?_
     have e:outT q (s+1) (cntC q (s+1:Nat))=(a0V q).map cellS:=by
      refine List.ext_getElem (by rw[a2P,List.length_map,a3p hl]) λ k g1 g2=>?_;rw[a5n,List.getElem_map];rw[a2P] at g1;have hk:k<(symsL q).length:=by rw[a1Q hl];exact g1
      have h6:=a3M hq k hk;rw[if_pos (.inl (by unfold symAt;omega))];have h7:=a4L hl k g1;rw[List.getD_eq_getElem?_getD,List.getElem?_eq_getElem (by rw[a3p hl];exact g1),Option.getD_some] at h7;rw[h7]
     rw[e];exact Ev.now _
  | succ r ih=>
   intro i h1 h2 h3;obtain⟨hc,hc2⟩:=hcnt s h3;obtain⟨P,p1,p2,p3,p4,p5⟩:=d0b hl (s:=s) (i:=i) h1 (by omega);have c1:(0:Int)<=s:=by omega
   have c2:(s:Int)<(q.length:Int):=by omega
   have e0:(i:Int)<wrap64 (2*(cntC q s:Int)):=by rw[w64 (by omega)];omega
   refine Ev.step (λ k=>(show puncheonref11_Of.l1 (k+1) _ _ _ _ _ _=_ by simp only[puncheonref11_Of.l1];rw[if_pos c1,if_pos c2,a0G,hc,if_pos e0])) ?_;refine Ev.bind (b4L i (by omega)) ?_;have hP:=b7t hl h3 (i:=i) h1 (by omega);rw[p1] at hP;refine Ev.bind hP ?_;have hPs:P<(symsL q).length:=by rw[a1Q hl];exact p2
   obtain⟨g0,g1,g2,g3,g4⟩:=a9c hl P hPs;rw[p4] at g0 g1 g2 g3 g4;have ew:wrap64 (((logC q:Nat):Int)-((a0n i:Nat):Int))=((logC q-a0n i:Nat):Int):=by rw[w64 (by omega)];omega
   have hce:=b3u (q:=q) (k:=P) (x:=s) (y:=i) (r:=logC q) (fl:=a0n i) (b:=logC q-a0n i) p3 p4.symm rfl rfl (by omega) g4 hr12;have e1:((s:Int)%256)=s:=by omega
   have e2:wrap64 (wrap64 ((i:Int)*shl .i64 1 ((logC q-a0n i:Nat):Int))-((2^logC q:Nat):Int))=(a0T q P).2.2:=by
    rw[b0V _ (by omega),<- hce]
    have hw:IntKind.i64.wrap (2^logC q)=((2^logC q:Nat):Int):=by
     have e:(2:Int)^logC q=((2^logC q:Nat):Int):=by simp
     rw[e];exact Go.IntWalk.i64_in _ (by omega)
    have e:(2:Int)^(logC q-a0n i)=((2^(logC q-a0n i):Nat):Int):=by simp
    simp only[];rw[hw,e];simp only[IntKind.wrap_i64,wrap64]
   have e3:((logC q-a0n i:Nat):Int)=(a0T q P).2.1:=by rw[<- hce]
   have e4:(s:Int)=(a0T q P).1:=by rw[<- hce]
   have hcell:(⟨(s:Int)%256,wrap64 (((logC q:Nat):Int)-((a0n i:Nat):Int)),wrap64 (wrap64 ((i:Int)*shl .i64 1 (wrap64 (((logC q:Nat):Int)-((a0n i:Nat):Int))))-((2^logC q:Nat):Int))⟩:S170)=cellS (a0T q P):=by
    rw[ew,e1,e2,e3,e4];rfl
   have hg1:(0:Int)<=wrap64 (((logC q:Nat):Int)-((a0n i:Nat):Int)):=by rw[ew];omega
   have hg2:(0:Int)<=((P:Nat):Int):=by omega
   have hg3:((P:Nat):Int)<((outT q s i).length:Int):=by rw[a2P];omega
   have ih':=ih (i+1) (by omega) (by omega) h3;rw[<- d0c p3 p4 p5] at ih';refine Ev.congr (f:=λ k=>puncheonref11_Of.l1 k q ((logC q:Nat):Int) ((2^logC q:Nat):Int) ((outT q s i).set P (cellS (a0T q P))) (s:Int) ((i+1:Nat):Int)) (λ k=>?_) ih';rw[if_pos hg1,if_pos hg2,if_pos hg3,hcell,Int.toNat_natCast,wS i (by omega)]
theorem d0f (q:List Int):Ev (λ k=>puncheonref11_Of.f k q) (if logC q=0 then ([],1) else ((a0V q).map cellS,0)):=by
 unfold puncheonref11_Of.f;refine Ev.bind (a5K q) ?_
 by_cases h:logC q=0
 · rw[if_pos h];refine Ev.congr (f:=λ k=>some ([],1)) (λ k=>?_) (Ev.now _);rw[if_pos (by omega)]
 · rw[if_neg h];have hr12:logC q<=12:=a1M _;have hp12:2^logC q<=2^12:=Nat.pow_le_pow_right (by omega) hr12;have hsh:=b0V (logC q) (by omega);have hq:=a1A h;have hlen:=hq.len
   have e0:outT q 0 (cntC q (0:Nat))=List.replicate (2^logC q) z170:=by
    refine List.ext_getElem (by rw[a2P,List.length_replicate]) λ k h1 h2=>?_;rw[a5n,List.getElem_replicate];rw[a2P] at h1;have hk:k<(symsL q).length:=by rw[a1Q h];exact h1
    have hge:(q.getD ((symsL q).getD k 0).toNat 0).toNat<=a0u q k:=by unfold a0u;omega
    rw[if_neg (λ h5=>by
     rcases h5 with h5 | h5
     · omega
     · have:(q.getD ((symsL q).getD k 0).toNat 0).toNat=cntC q (0:Nat):=by rw[a1R hq];have:=h5.1;unfold symAt at this;rw[this]
       omega)]
   have hc1:¬ ((logC q:Nat):Int)=0:=by omega
   have hc2:(0:Int)<=((logC q:Nat):Int):=by omega
   have hc3:(0:Int)<=((2^logC q:Nat):Int):=Int.natCast_nonneg _;have hc4:(((2^logC q:Nat):Int)).toNat<=11728124029610:=by omega
   refine Ev.congr (f:=λ k=>puncheonref11_Of.l0 k q ((logC q:Nat):Int) ((2^logC q:Nat):Int) (List.replicate (2^logC q) z170) 0) (λ k=>?_) ?_
   · rw[if_neg hc1,if_pos hc2,hsh,if_pos hc3,if_pos hc4,Int.toNat_natCast]
   · have hc0:q.getD 0 0=(cntC q (0:Nat):Int):=by
       have h1:=a1R hq 0;have h2:=(hq.get 0).1;omega
     have hrd:rd q 0=(cntC q (0:Nat):Int):=hc0;have hl0:(0:Int)<(q.length:Int):=by omega
     refine Ev.step (λ k=>(show puncheonref11_Of.l0 (k+1) _ _ _ _ _=_ by simp only[puncheonref11_Of.l0];rw[if_pos (by omega),if_pos (by omega),if_pos hl0,hrd])) ?_;rw[<- e0];exact d0e h 256 0 (by omega) (cntC q (0:Nat)) _ (Nat.le_refl _) (by omega) (by omega)
open Go.IntWalk
theorem R_iso {α β:Type} {d:Kd α} {f:β->α} {e:Nat} {w:World} {base:Nat} {ok:Nat->Prop} {v:Value} {xs:List β} (h:(Kd.iso d f).R e w base ok v xs):d.R e w base ok v (xs.map f):=by
 obtain⟨h0,inner,ho,hr⟩:=h;refine⟨h0,inner,by rw[List.length_map];exact ho,by rw[List.length_map];exact hr.1,λ j p hj=>?_⟩;rw[List.getElem?_map] at hj;obtain⟨x,hx,rfl⟩:=Option.map_eq_some_iff.1 hj;exact hr.2 j x hx
def d0g (q:List Int) (w:World) (e:Ending) (w':World):Prop:=∃ v,e=.returned (.tuple #[v,.int .i64 (if logC q=0 then 1 else 0)])/\(logC q≠0->kc.R 170 w' w.heap.size (λ _=>True) v (a0V q))/\Below w.heap.size w w'
theorem d0h (A:Option Addr) (cp:Nat) (q:List Int) (w:World) (hr:(Kd.int .i64).C w A q.length q) (hc:q.length<=cp):Calls Tryz.prog 124 #[.slice A q.length cp] w (d0g q w):=by
 obtain⟨k,hk⟩:=(d0f q).rounds
 by_cases h:logC q=0
 · rw[if_pos h] at hk;refine(puncheonref11_Of.calls k A cp q _ _ w hr hc hk).mono ?_;rintro e w' ⟨v,rfl,_,hb⟩;exact⟨v,by rw[if_pos h],λ h2=>absurd h h2,hb⟩
 · rw[if_neg h] at hk;refine(puncheonref11_Of.calls k A cp q _ _ w hr hc hk).mono ?_;rintro e w' ⟨v,rfl,hv,hb⟩;refine⟨v,by rw[if_neg h],λ _=>?_,hb⟩;have h2:=R_iso hv;rw[List.map_map] at h2;have e:((λ x:S170=>(x.f0,x.f1,x.f2))∘cellS)=id:=by funext x;rfl
   rw[e,List.map_id] at h2;exact h2
theorem d0i (A:Option Addr) (cp:Nat) (ps:List Int) (w:World) (hr:(Kd.int .u8).C w A ps.length ps) (hc:ps.length<=cp) (hps:∀ x∈ps,0<=x/\x<256) (hl:ps.length<=1000000):Calls Tryz.prog 122 #[.slice A ps.length cp] w λ e w'=>∃ v,e=.returned (.tuple #[v,.int .i64 (openR ps).2])/\Kd.bool.R 4 w' w.heap.size (λ _=>True) v (openR ps).1/\Below w.heap.size w w':=by
 obtain⟨k,hk⟩:=(c9J ps hps hl).rounds;exact puncheonref02_Open.calls k A cp ps _ _ w hr hc hk
def kcs:Kd (List K3):=Kd.slice 170 kc
structure DR (gx gc:Nat) (w0:World) (x0 x1:Int) (ov:Value) (out:List Int) (CS:List (List K3)) (wr:World):Prop where
 x:(Kd.int .i64).R 3 wr w0.heap.size (λ k=>k=gx) (.slice (some ⟨gx,0,none⟩) 2 2) [x0,x1]
 cs:kcs.R 165 wr w0.heap.size (λ k=>k≠gx/\some k≠ov.ownBlock) (.slice (some ⟨gc,0,none⟩) 256 256) CS
 out:(Kd.int .u8).R 5 wr w0.heap.size (λ _=>True) ov out
 ne:gx≠gc/\some gx≠ov.ownBlock/\some gc≠ov.ownBlock
 below:Below w0.heap.size w0 wr
theorem DR.later {gx gc:Nat} {w0 w w':World} {x0 x1:Int} {ov:Value} {out:List Int} {CS:List (List K3)} (h:DR gx gc w0 x0 x1 ov out CS w) (hb:Below w.heap.size w w'):DR gx gc w0 x0 x1 ov out CS w':=
 ⟨Kd.R_below h.x hb,Kd.R_below h.cs hb,Kd.R_below h.out hb,h.ne,a0f h.below hb⟩
theorem DR.ge {gx gc:Nat} {w0 w:World} {x0 x1:Int} {ov:Value} {out:List Int} {CS:List (List K3)} (h:DR gx gc w0 x0 x1 ov out CS w):(w0.heap.size<=gx/\gx<w.heap.size)/\(w0.heap.size<=gc/\gc<w.heap.size):=by
 have h1:=(Kd.R_bound h.x).1 gx rfl;have h2:=(Kd.R_bound h.cs).1 gc rfl;exact⟨⟨h1.2.1,h1.2.2.1⟩,⟨h2.2.1,h2.2.2.1⟩⟩
theorem DR.setx {gx gc t:Nat} {w0 w:World} {x0 x1:Int} {ov:Value} {out:List Int} {CS:List (List K3)} (h:DR gx gc w0 x0 x1 ov out CS w) (ht:t<2) (y:Int):DR gx gc w0 (set2 t x0 x1 y).1 (set2 t x0 x1 y).2 ov out CS (w.setCell ⟨gx,t,none⟩ (.int .i64 y)):=by
 refine⟨?_,Kd.R_far (p:=⟨gx,t,none⟩) h.cs (λ k hk=>hk.1) _,Kd.R_mono (Kd.R_far (p:=⟨gx,t,none⟩) (Kd.R_far1 h.out rfl h.ne.2.1) (λ k hk=>hk.2) _) (λ _ _=>trivial),h.ne,h.below.setCell h.ge.1.1 _⟩;have h2:=Kd.R_putn h.x (t:Int) y
 have e:([x0,x1]:List Int).set t y=[(set2 t x0 x1 y).1,(set2 t x0 x1 y).2]:=by
  have:t=0\/t=1:=by omega
  rcases this with rfl | rfl <;> rfl
 simp only[Int.toNat_natCast] at h2;rw[e] at h2;exact h2
theorem DR.cellx {gx gc t:Nat} {w0 w:World} {x0 x1:Int} {ov:Value} {out:List Int} {CS:List (List K3)} (h:DR gx gc w0 x0 x1 ov out CS w) (ht:t<2):w.cell? ⟨gx,t,none⟩=some (.int .i64 (pick2 t x0 x1))/\w.frozen? ⟨gx,t,none⟩=false:=by
 have h1:=a1D h.x t (by omega)
 have e:([x0,x1]:List Int).getD t 0=pick2 t x0 x1:=by
  have:t=0\/t=1:=by omega
  rcases this with rfl | rfl <;> rfl
 rw[e] at h1;exact h1
theorem DR.cellc {gx gc c:Nat} {w0 w:World} {x0 x1:Int} {ov:Value} {out:List Int} {CS:List (List K3)} (h:DR gx gc w0 x0 x1 ov out CS w) (hc:c<256):∃ (B:Option Addr) (cb:Nat),w.cell? ⟨gc,c,none⟩=some (.slice B (CS.getD c []).length cb)/\w.frozen? ⟨gc,c,none⟩=false/\kc.C w B (CS.getD c []).length (CS.getD c []):=by
 obtain⟨u,hcl,hm,hcc,hf⟩:=Kd.R_elem h.cs [] (c:Int) (by omega) (by omega);obtain⟨v,rfl,hv⟩:=hm;have h1:=hcc 0 v rfl;have h2:=hf 0;have hs:kcs.sz=1:=rfl;simp only[Int.toNat_natCast,hs,Nat.mul_one,Nat.add_zero] at h1 h2 hv;obtain⟨B,cb,rfl⟩:=Kd.R_slice hv;exact⟨B,cb,h1,h2,(Kd.R_reads' hv).2.2⟩
theorem DR.setc {gx gc c:Nat} {w0 w w1:World} {x0 x1:Int} {ov v:Value} {out:List Int} {CS:List (List K3)} {l:List K3} (h:DR gx gc w0 x0 x1 ov out CS w) (hb:Below w.heap.size w w1) (hc:c<256) (hv:kc.R 170 w1 w.heap.size (λ _=>True) v l):DR gx gc w0 x0 x1 ov out (CS.set c l) (w1.setCell ⟨gc,c,none⟩ v):=by
 have h1:=h.later hb;have hge:=h.ge;have hw:=h.below.size
 have hlt:∀ k,ov.ownBlock=some k->k<w.heap.size:=λ k hk=>by
  obtain⟨_,inner,ho,_⟩:=h.out;exact a3c ho k hk
 refine⟨Kd.R_far (p:=⟨gc,c,none⟩) h1.x (λ k hk=>by show k≠gc;have:=h.ne.1;omega) _,?_,Kd.R_mono (Kd.R_far (p:=⟨gc,c,none⟩) (Kd.R_far1 h1.out rfl h.ne.2.2) (λ k hk=>hk.2) _) (λ _ _=>trivial),h.ne,h1.below.setCell hge.2.1 _⟩;obtain⟨u,hcl,_,hcc,_⟩:=Kd.R_elem h1.cs [] (c:Int) (by omega) (by omega);have hs:kcs.sz=1:=rfl
 have hv2:kc.R 170 w1 w0.heap.size (λ k=>(k≠gx/\some k≠ov.ownBlock)/\k≠gc) v l:=Kd.R_mono (Kd.R_lower (Kd.R_bound hv) hw) (λ k hk=>by
  have h2:=hk.2.1;refine⟨⟨by omega,λ e=>?_⟩,by omega⟩;have:=hlt k e.symm;omega)
 have:=(Kd.R_seg h1.cs (c:Int) (by omega) (by omega) (seg:=[v]) (j:=0) (x':=l) (okp:=λ k=>(k≠gx/\some k≠ov.ownBlock)/\k≠gc) hcl hcc (by rw[hs];simp) ⟨v,by rw[List.drop_of_length_le (by rw[hcl,hs];simp)];simp,hv2⟩ (λ k hk=>hk)).1;simp only[Int.toNat_natCast,hs,Nat.mul_one,Nat.add_zero] at this;exact this
theorem DR.app {gx gc:Nat} {w0 w w1:World} {x0 x1:Int} {ov v1:Value} {out out1:List Int} {CS:List (List K3)} (h:DR gx gc w0 x0 x1 ov out CS w) (hr:(Kd.int .u8).R 5 w1 w0.heap.size (λ _=>True) v1 out1) (hb:Below w0.heap.size w0 w1) (hg:w.grownBy w1 ov.ownBlock) (hat:v1.ownBlock=ov.ownBlock\/∃ b,v1.ownBlock=some b/\w.heap.size<=b):DR gx gc w0 x0 x1 v1 out1 CS w1:=by
 have hge:=h.ge;refine⟨Kd.R_grown1 h.x rfl hg (λ e=>h.ne.2.1 e.symm),Kd.R_after h.cs hg hat,hr,⟨h.ne.1,?_,?_⟩,hb⟩
 · rcases hat with e | ⟨b,e,hb2⟩
   · rw[e];exact h.ne.2.1
   · rw[e];intro e2;injection e2 with e2;omega
 · rcases hat with e | ⟨b,e,hb2⟩
   · rw[e];exact h.ne.2.2
   · rw[e];intro e2;injection e2 with e2;omega
theorem d0j (n:Nat) (hn:n<=1000000) (W:World) (ok:Nat->Prop) (base:Nat) (hok:ok W.heap.size) (hb:base<=W.heap.size):kcs.R 165 (W.alloc (.cells (madeCells #[.slice none 0 0] n) 165)) base ok (.slice (some ⟨W.heap.size,0,none⟩) n n) (List.replicate n []):=by
 have hr:=Kd.reps_made (R:=kcs.M (W.alloc (.cells (madeCells #[.slice none 0 0] n) 165)) base (λ k=>ok k/\some k≠(Value.slice (some ⟨W.heap.size,0,none⟩) n n).ownBlock)) (z:=.slice none 0 0) (size:=1) (z0:=([]:List K3)) rfl Nat.one_pos ⟨.slice none 0 0,rfl,Kd.R_nil _ _ _ _ _⟩ n;have e:(Value.slice none 0 0).cells = #[.slice none 0 0]:=rfl;rw[e,Nat.mul_one] at hr;refine⟨λ k hk=>by cases hk;exact hok,_,⟨?_,.inr ⟨W.heap.size,n,madeCells #[.slice none 0 0] n,by simp,hb,a0i W _,by simp,by unfold maxLen;omega,?_,?_⟩⟩,hr⟩
 · simp[size_madeCells];exact(Nat.mul_one n).symm
 · rw[size_madeCells];exact(Nat.mul_one n).symm
 · rw[List.length_replicate];exact List.take_of_length_le (by simp[size_madeCells];exact Nat.le_of_eq (Nat.mul_one n).symm)
theorem d0k:(Tryz.prog.info? 165).map (λ i=>(i.zero,i.size,i.bytes))=some (some (.slice none 0 0),1,24):=by kernel_rfl
theorem d0l (n:Nat) (hn:n<=1000000) (w:World):(Instr.makeSlice 164 (.int .i64 n) (.int .i64 n)).run Tryz.prog w=.ok (.slice (some ⟨w.heap.size,0,none⟩) n n) (w.alloc (.cells (madeCells #[.slice none 0 0] n) 165)):=by
 obtain⟨i0,hi,hzz⟩:=Option.map_eq_some_iff.1 d0k;simp only[Prod.mk.injEq] at hzz;obtain⟨hz0,hz1,hz2⟩:=hzz;have hr:=run_make (P:=Tryz.prog) w 164 165 i0 (.slice none 0 0) Tryz.underlying164 hi hz0 .i64 .i64 (n:Int) (n:Int) (by omega) (by omega) (by rw[hz2];omega) (by omega);rw[hz1] at hr;simpa [Value.cells] using hr
end Go.Proofs.YtflfjpkmjnnodaaGreat
namespace Go.Proofs.YtflfjpkmjnnodaaGreat
open Go.RowKit Go.IntWalk Go.Proofs.YtflfjpkmjnnodaaGreatW.PrintWords
structure LRel (g:Nat) (one:Bool) (qs:List (List Int)) (ps:List Int) (N gx gc:Nat) (W5:World) (B3:List Bool) (res:Int×List Int) (i la left:Nat) (ov:Value) (wr:World):Prop where
 ex:∃ (x0 x1:Int) (out:List Int) (CS:List (List K3)),DR gx gc W5 x0 x1 ov out CS wr/\(BitsP ps left (B3.take left)/\left<=B3.length)/\(CS.length=256/\∀ c,c<256->CS.getD c []=[]\/(logC (qs.getD (listI one (c:Int)) [])≠0/\CS.getD c []=a0V (qs.getD (listI one (c:Int)) []))) /\
  decGo one qs ps (N-i) i la x0 x1 left out=res/\((0<=x0/\x0<2^g)/\(0<=x1/\x1<2^g))/\out.length=i
theorem b1f {ps:List Int} {left n:Nat} {bs:List Bool} (h:BitsP ps left bs) (hn:n<=left):BitsP ps (left-n) (bs.take (left-n))/\byteL (bs.drop (left-n))=takeV ps left n:=by
 obtain⟨h1,h2⟩:=a7h h hn;refine⟨h2,?_⟩;have hl:=h.len
 have h3:bs.drop (left-n)=a0k (takeV ps left n) n:=by
  have e:bs.drop (left-n)=(bs.take (left-n)++a0k (takeV ps left n) n).drop (left-n):=congrArg (List.drop (left-n)) h1;rw[e,List.drop_append,List.drop_of_length_le (by rw[List.length_take];omega),List.length_take,Nat.min_eq_left (by omega),Nat.sub_self];rfl
 rw[h3,a5E];exact Nat.mod_eq_of_lt (a2d ps left n)
theorem b1g {w:World} {A:Option Addr} {n:Nat} {xs:List Bool} (h:Kd.bool.C w A n xs) (m:Nat) (hm:m<=n):Kd.bool.C w A m (xs.take m):=by
 have hn:=h.1;subst hn;have h2:=Kd.C_take h hm;have e:(xs.take m).length=m:=by rw[List.length_take];omega
 rw[e] at h2;exact h2
theorem b7Q {v g:Nat} (h:v<2^g):0<=(v:Int)/\(v:Int)<2^g:=by
 have e:(2:Int)^g=((2^g:Nat):Int):=by simp
 rw[e];omega
theorem a4y (k:Int) (w w':World) (hb:Below w.heap.size w w'):ReadPost (k,[]) w (.returned (.tuple #[.slice none 0 0,.int .i64 k])) w':=⟨⟨_,rfl,Kd.R_nil _ _ _ _ _⟩,hb⟩
def CellM (s b e:Int) (wm:World) (v:Value) (wx:World):Prop:=∃ mb:Nat,v=.pointer (some ⟨mb,0,none⟩)/\wm.heap.size<=mb/\wx.heap[mb]?=some (.cells #[.int .u8 s,.int .i64 b,.int .i64 e] 170 (0,0))/\Below wm.heap.size wm wx
theorem d0m {s b e:Int} {wm wx:World} (mb:Nat) (h2:wx.heap[mb]?=some (.cells #[.int .u8 s,.int .i64 b,.int .i64 e] 170 (0,0))) (h3:Below wm.heap.size wm wx) (h1:wm.heap.size<=mb):CellM s b e wm (.pointer (some ⟨mb,0,none⟩)) wx:=⟨mb,rfl,h1,h2,h3⟩
structure LMid (g:Nat) (one:Bool) (qs:List (List Int)) (gx gc:Nat) (W1:World) (la t X:Nat) (x0 x1:Int) (ov:Value) (out:List Int) (q:List Int) (wm:World):Prop where
 ex:∃ (CS:List (List K3)) (adm:Addr) (cm:Nat),DR gx gc W1 x0 x1 ov out CS wm/\(CS.length=256/\∀ c,c<256->CS.getD c []=[]\/(logC (qs.getD (listI one (c:Int)) [])≠0/\CS.getD c []=a0V (qs.getD (listI one (c:Int)) []))) /\
  wm.cell? ⟨gc,la,none⟩=some (.slice (some adm) (2^g) cm)/\wm.cell? ⟨gx,t,none⟩=some (.int .i64 X)/\b3s wm (adm.add (X*3)) (a0T q X)
theorem b7R {g:Nat} {one:Bool} {qs:List (List Int)} {gx gc:Nat} {W1:World} {la t X:Nat} {x0 x1:Int} {ov:Value} {out:List Int} {q:List Int} {CS:List (List K3)} {wm:World} (hD:DR gx gc W1 x0 x1 ov out CS wm) (hCS:CS.length=256/\∀ c,c<256->CS.getD c []=[]\/(logC (qs.getD (listI one (c:Int)) [])≠0/\CS.getD c []=a0V (qs.getD (listI one (c:Int)) []))) (hla:la<256) (ht:t<2) (hX:pick2 t x0 x1=X) (hXg:X<2^g) (hl:logC q≠0) (hlg:logC q=g) (hq:CS.getD la []=a0V q):LMid g one qs gx gc W1 la t X x0 x1 ov out q wm:=by
 obtain⟨B,cb,h1,_,h3⟩:=hD.cellc hla;rw[hq] at h1 h3;have hlen:=a3p hl;rw[hlg] at hlen;rw[hlen] at h1 h3;obtain⟨adm,rfl,h4⟩:=kc_at h3 X hXg;rw[a4L hl X (by rw[hlg];exact hXg)] at h4;exact⟨CS,adm,cb,hD,hCS,h1,by rw[(hD.cellx ht).1,hX],h4⟩
theorem d0n {one:Bool} {qs:List (List Int)} {CS:List (List K3)} {la:Nat} (hCS:CS.length=256/\∀ c,c<256->CS.getD c []=[]\/(logC (qs.getD (listI one (c:Int)) [])≠0/\CS.getD c []=a0V (qs.getD (listI one (c:Int)) []))) (hla:la<256) (hl:logC (qs.getD (listI one (la:Int)) [])≠0) :
    ((CS.set la (a0V (qs.getD (listI one (la:Int)) []))).length=256/\∀ c,c<256->(CS.set la (a0V (qs.getD (listI one (la:Int)) []))).getD c []=[]\/(logC (qs.getD (listI one (c:Int)) [])≠0/\(CS.set la (a0V (qs.getD (listI one (la:Int)) []))).getD c []=a0V (qs.getD (listI one (c:Int)) [])))/\(CS.set la (a0V (qs.getD (listI one (la:Int)) []))).getD la []=a0V (qs.getD (listI one (la:Int)) []):=by
 have h0:(CS.set la (a0V (qs.getD (listI one (la:Int)) []))).getD la []=a0V (qs.getD (listI one (la:Int)) []):=by
  rw[List.getD_eq_getElem?_getD,List.getElem?_set_self (by omega)];rfl
 refine⟨⟨by rw[List.length_set];exact hCS.1,λ c hc=>?_⟩,h0⟩
 by_cases e:la=c
 · subst e;exact .inr ⟨hl,h0⟩
 · have h2:(CS.set la (a0V (qs.getD (listI one (la:Int)) []))).getD c []=CS.getD c []:=by
     rw[List.getD_eq_getElem?_getD,List.getElem?_set_ne e,<- List.getD_eq_getElem?_getD]
   rw[h2];exact hCS.2 c hc
theorem b7S (lg:Int) (one:Bool) (A:Option Addr) (c:Nat) (qs:List (List Int)) (B:Option Addr) (cb:Nat) (ps:List Int) (n:Int) (w:World) (hr:kq.C w A qs.length qs) (hc:qs.length<=c) (hl:qs.length<=1000000) (hb:(Kd.int .u8).C w B ps.length ps) (hcb:ps.length<=cb) (hps:∀ x∈ps,0<=x/\x<256) (hpl:ps.length<=100000) (hn:n<=100000\/131072<n) :
    Calls Tryz.prog 77 #[.agg #[.int .i64 lg,.bool one,.slice A qs.length c],.slice B ps.length cb,.int .i64 n] w (ReadPost (decM lg one qs ps n) w):=by
 obtain⟨W1,hW1⟩:∃ W1,W1=w.alloc (.cells #[.int .i64 lg,.bool one,.slice A qs.length c] 26):=⟨_,rfl⟩;have HB:=Lib.hid ((Below.refl w.heap.size w).alloc (Nat.le_refl _) (.cells #[.int .i64 lg,.bool one,.slice A qs.length c] 26));have hk1:W1.heap[w.heap.size]?=some (.cells #[.int .i64 lg,.bool one,.slice A qs.length c] 26 (0,0)):=by rw[hW1];exact a0i _ _
 have HR:Hid (kq.C W1 A qs.length qs):=Lib.hid (by rw[hW1];exact Kd.C_alloc hr _);have HBB:Hid ((Kd.int .u8).C W1 B ps.length ps):=Lib.hid (by rw[hW1];exact Kd.C_alloc hb _);rw[<- hW1] at HB;have HX:=Lib.hid (And.intro hc (And.intro hl (And.intro hcb (And.intro hps (And.intro hpl hn)))));have HK:=Lib.hid hk1;have HS0:Hid (w.heap.size<=W1.heap.size):=Lib.hid HB.out.size;clear hr hc hl hb hcb hps hpl hn hk1
 have main:∀ d0 d1 d2:Bool,a0A lg one qs=d0->decide (n<0)=d1->decide (131072<n)=d2 ->
     Calls Tryz.prog 77 #[.agg #[.int .i64 lg,.bool one,.slice A qs.length c],.slice B ps.length cb,.int .i64 n] w (ReadPost (decM lg one qs ps n) w):=by
  intro d0 d1 d2 e0 e1 e2;have HE0:=Lib.hid e0;have HE1:=Lib.hid e1;have HE2:=Lib.hid e2;have HRI:=Lib.hid (b7n A c W1 lg one qs HR.out HX.out.1 HX.out.2.1);rw[e0] at HRI;obtain⟨R,hR⟩:∃ R,R=decM lg one qs ps n:=⟨_,rfl⟩;rw[<- hR];have HRR:=Lib.hid hR;obtain⟨⟨m0,m1,m2⟩,_⟩:=cell3 HK.out;clear e0 hR;go_enter Tryz.func77,Tryz.ntmps77;go_wp2_with fail;rw[<- hW1];clear hW1;refine HRI.out.mono ?_;rintro e w2 ⟨rfl,hb2⟩;have HB2:=Lib.hid (show Below W1.heap.size W1 w2 from hb2);clear hb2 m0 m1 m2 HRI
  by_cases hgo:d0=true/\d1=false/\d2=false
  · obtain⟨rfl,rfl,rfl⟩:=hgo;have hrl:=a1T HE0.out;obtain⟨g,rfl⟩:∃ g:Nat,lg=g:=⟨lg.toNat,by omega⟩;have hg12:g<=12:=by omega
    have hg1:1<=g:=by omega
    have hn0:0<=n:=by have:=of_decide_eq_false HE1.out;omega
    obtain⟨N,rfl⟩:∃ N:Nat,n=N:=⟨n.toNat,by omega⟩;have hN:N<=100000:=by have:=of_decide_eq_false HE2.out;have:=HX.out.2.2.2.2.2;omega
    clear hrl hn0;go_wp2_with fail;refine(d0i B cb ps w2 (Kd.C_below HBB.out HB2.out) HX.out.2.2.1 HX.out.2.2.2.1 (by have:=HX.out.2.2.2.2.1;omega)).mono ?_;rintro e w3 ⟨v3,rfl,hv3,hb3⟩;have HB3:=Lib.hid (a0f HB2.out hb3);obtain⟨A3,c3,rfl⟩:=Kd.R_slice hv3;have HV3:=Lib.hid (Kd.R_reads' hv3).2;clear hb3 hv3
    by_cases hop:ps.length=0\/lastB ps=0
    · have e3:openR ps=([],2):=by unfold openR;rw[if_pos hop]
      have HF:Hid (R=(2,[])):=Lib.hid (by
       rw[HRR.out];unfold decM;rw[if_neg (by rw[HE0.out];have:=of_decide_eq_false HE1.out;have:=of_decide_eq_false HE2.out;simp;omega),if_pos hop])
      rw[e3];clear e3 hop;go_wp2_with fail;go_ret2;rw[HF.out];exact a4y 2 w _ (a0f HB.out HB3.out)
    · have e3:openR ps=(bitsL ps,0):=by unfold openR;rw[if_neg hop]
      rw[e3] at HV3 ⊢;have HBL:=Lib.hid (a9v ps);obtain⟨T,hT⟩:∃ T,T=a0H ps:=⟨_,rfl⟩;have hTl:(bitsL ps).length=T:=by rw[hT];exact(a9v ps).len
      rw[<- hT] at HBL;have HV4:Hid (T<=c3/\Kd.bool.C w3 A3 T (bitsL ps)):=Lib.hid (by have h2:=HV3.out;simp only[hTl] at h2;exact h2);have hT8:T<=800000:=by have:=b3X HX.out.2.2.2.1 hop;have:=HX.out.2.2.2.2.1;omega
      have HF:Hid (R=if T<g+g then (3,[]) else decGo one qs ps N 0 0 (takeV ps T g) (takeV ps (T-g) g) (T-g-g) []):=Lib.hid (by
       rw[HRR.out];unfold decM;rw[if_neg (by rw[HE0.out];have:=of_decide_eq_false HE1.out;have:=of_decide_eq_false HE2.out;simp;omega),if_neg hop,<- hT];simp only[Int.toNat_natCast])
      simp only[hTl];obtain⟨⟨m0,m1,m2⟩,_⟩:=cell3 (a0h HK.out HB3.out);clear e3 hop HV3 hT hTl
      by_cases h1:T<g
      · have HF2:Hid (R=(3,[])):=Lib.hid (by rw[HF.out,if_pos (by omega)]);have HT1:=Lib.hid (a8p A3 T c3 g w3 (by omega) h1);have HH1:=Lib.hid h1;clear h1;go_wp2_with fail;refine HT1.out.mono ?_;rintro e w4 ⟨rfl,hb4⟩;have HB4:=Lib.hid (a0f HB3.out hb4);have HT2:=Lib.hid (a8p A3 T c3 g w4 (by omega) HH1.out);clear hb4 m0 m1 m2;obtain⟨⟨m0,m1,m2⟩,_⟩:=cell3 (a0h HK.out HB4.out);go_wp2_with fail;refine HT2.out.mono ?_;rintro e w5 ⟨rfl,hb5⟩;have HB5:=Lib.hid (a0f HB4.out hb5);clear hb5;go_wp2_with fail;go_ret2;rw[HF2.out];exact a4y 3 w _ (a0f HB.out HB5.out)
      · obtain⟨hbt,hbv⟩:=b1f (n:=g) HBL.out (by omega);obtain⟨v1,hv1⟩:∃ v1,v1=takeV ps T g:=⟨_,rfl⟩;have hv1b:v1<2^g:=by rw[hv1];exact a2d _ _ _
        have hp12:2^g<=2^12:=Nat.pow_le_pow_right (by omega) hg12;rw[<- hv1] at hbv HF;obtain⟨T2,hT2⟩:∃ T2,T2=T-g:=⟨_,rfl⟩;have HT1:=b1d A3 T c3 g (bitsL ps) w3 HBL.out.len.symm HV4.out.1 HV4.out.2 (by omega) (by omega) (by omega);rw[<- hT2] at HT1 hbt hbv HF;rw[hbv] at HT1;have HTK:=Lib.hid HT1;have HT2E:=Lib.hid hT2;have HBT:=Lib.hid hbt;have hv1c:v1<4096:=by omega
        have HVB:=Lib.hid hv1b;have HNT:=Lib.hid h1;clear h1 hbt hbv hv1 hv1b hp12 HT1 hT2;go_wp2_with fail;refine HTK.out.mono ?_;rintro e w4 ⟨rfl,hb4⟩;have HB4:=Lib.hid (a0f HB3.out hb4);have HC4:=Lib.hid (b1g (Kd.C_below HV4.out.2 hb4) T2 (by have:=HT2E.out;omega));clear hb4 m0 m1 m2;obtain⟨⟨m0,m1,m2⟩,_⟩:=cell3 (a0h HK.out HB4.out)
        by_cases h2:T2<g
        · have HF2:Hid (R=(3,[])):=Lib.hid (by rw[HF.out,if_pos (by have:=HT2E.out;have:=HNT.out;omega)]);have HT2:=Lib.hid (a8p A3 T2 c3 g w4 (by omega) h2);clear h2;go_wp2_with fail;refine HT2.out.mono ?_;rintro e w5 ⟨rfl,hb5⟩;have HB5:=Lib.hid (a0f HB4.out hb5);clear hb5;go_wp2_with fail;go_ret2;rw[HF2.out];exact a4y 3 w _ (a0f HB.out HB5.out)
        · obtain⟨hbt,hbv⟩:=b1f (n:=g) HBT.out (by omega);obtain⟨v2,hv2⟩:∃ v2,v2=takeV ps T2 g:=⟨_,rfl⟩;have hv2b:v2<2^g:=by rw[hv2];exact a2d _ _ _
          have hp12:2^g<=2^12:=Nat.pow_le_pow_right (by omega) hg12;have HF2:Hid (R=decGo one qs ps N 0 0 v1 v2 (T2-g) []):=Lib.hid (by rw[HF.out,if_neg (by have:=HT2E.out;omega),hv2]);rw[<- hv2] at hbv;obtain⟨T3,hT3⟩:∃ T3,T3=T2-g:=⟨_,rfl⟩;obtain⟨bs3,hbs3⟩:∃ bs,bs=((bitsL ps).take T2).take (T2-g):=⟨_,rfl⟩;have HT1:=b1d A3 T2 c3 g ((bitsL ps).take T2) w4 HBT.out.len.symm (by have:=HV4.out.1;have:=HT2E.out;omega) HC4.out (by omega) (by omega) (by have:=HT2E.out;omega);rw[<- hT3] at HT1 hbt hbv HF2;rw[hbv] at HT1;have HTK2:=Lib.hid HT1;have HT3E:=Lib.hid hT3;have hv2c:v2<4096:=by omega
          have HVB2:=Lib.hid (And.intro HVB.out hv2b);have HBT3:=Lib.hid hbt;clear h2 hbt hbv hv2 hv2b hp12 HT1 hT3 hbs3 bs3 HF;go_wp2_with fail;refine HTK2.out.mono ?_;rintro e w5 ⟨rfl,hb5⟩;have HB5:=Lib.hid (a0f HB4.out hb5);have HC5:=Lib.hid (b1g (Kd.C_below HC4.out hb5) T3 (by have:=HT3E.out;omega));have HCL:Hid (T3<=c3/\T3<=800000):=Lib.hid (by have:=HV4.out.1;have:=HT2E.out;have:=HT3E.out;omega);clear hb5 m0 m1 m2;obtain⟨W6,hW6⟩:∃ W6,W6=(w5.alloc (.cells #[.int .i64 v1,.int .i64 v2] 3)).alloc (.cells (madeCells #[.slice none 0 0] 256) 165):=⟨_,rfl⟩;have hmk:∀ w:World,(Instr.makeSlice 164 (.int .i64 256) (.int .i64 256)).run Tryz.prog w=.ok (.slice (some ⟨w.heap.size,0,none⟩) 256 256) (w.alloc (.cells (madeCells #[.slice none 0 0] 256) 165)):=λ w=>d0l 256 (by omega) w;go_wp2_with fail;rw[<- hW6];obtain⟨gx,hgx⟩:∃ gx,gx=w5.heap.size:=⟨_,rfl⟩
          have hD:DR gx (gx+1) w5 v1 v2 (.slice none 0 0) [] (List.replicate 256 []) W6:=by
           have hz:(w5.alloc (.cells #[.int .i64 v1,.int .i64 v2] 3)).heap.size=gx+1:=by rw[hgx];simp
           refine⟨?_,?_,Kd.R_nil _ _ _ _ _,⟨by omega,by simp[Value.ownBlock],by simp[Value.ownBlock]⟩,?_⟩
           · rw[hW6,hgx];exact Kd.R_alloc (a2W .i64 3 w5 w5.heap.size (λ k=>k=w5.heap.size) rfl (Nat.le_refl _) [(v1:Int),(v2:Int)] (by simp)) _
           · have:=d0j 256 (by omega) (w5.alloc (.cells #[.int .i64 v1,.int .i64 v2] 3)) (λ k=>k≠gx/\some k≠(Value.slice none 0 0).ownBlock) w5.heap.size (by rw[hz];exact⟨by omega,by simp[Value.ownBlock]⟩) (by rw[hz];omega);rw[hz] at this;rw[hW6];exact this
           · rw[hW6];exact a3Q (a3Q (Below.refl _ _) _) _
          obtain⟨B3,hB3⟩:∃ B3,B3=((bitsL ps).take T2).take T3:=⟨_,rfl⟩;rw[<- hB3] at HBT3 HC5;have hB3l:B3.length=T3:=HBT3.out.len;have H0:Hid (LRel g one qs ps N gx (gx+1) w5 B3 R 0 0 T3 (.slice none 0 0) W6):=Lib.hid ⟨v1,v2,[],List.replicate 256 [],hD,⟨by rw[List.take_of_length_le (by omega)];exact HBT3.out,by omega⟩,⟨by simp,λ c _=>.inl (by rw[List.getD_eq_getElem?_getD,List.getElem?_replicate];split <;> rfl)⟩,HF2.out.symm,⟨b7Q HVB2.out.1,b7Q HVB2.out.2⟩,rfl⟩;have HC3:Hid (B3.length=T3/\Kd.bool.C w5 A3 T3 B3/\T3<=c3):=Lib.hid ⟨hB3l,HC5.out,HCL.out.1⟩;have hT3b:T3<=800000:=HCL.out.2;rw[<- hgx];clear hD hW6 hgx hmk hB3 hB3l;go_loopw [9,17,18,19] (λ lv mv ov kv wr=>∃ (i la left:Nat),kv=.int .i64 i/\mv=.int .i64 la/\lv=.slice A3 left c3/\i<=N/\la<256/\left<=800000/\Hid (LRel g one qs ps N gx (gx+1) w5 B3 R i la left ov wr)) (λ _ _ _ kv _=>N-(intOf kv).toNat)
          case atStart=>exact⟨0,0,T3,rfl,rfl,rfl,by omega,by omega,by omega,H0⟩
          case round=>
           clear H0;obtain⟨i,la,left,rfl,rfl,rfl,hi,hla,hleft,H⟩:=hrel;obtain⟨x0,x1,out,CS,hD,hbits,hCS,hgo,hrng,hol⟩:=H.out.ex;have HD:=Lib.hid hD;have HBW:=Lib.hid (a0f HB5.out hD.below);have HBits:=Lib.hid hbits;have HCS:=Lib.hid hCS;have HGO:=Lib.hid hgo;have HRNG:=Lib.hid hrng;have HOL:=Lib.hid hol;clear hD hbits hCS hgo hrng hol H
           by_cases hlt:i<N
           · obtain⟨q,hq⟩:∃ q,q=qs.getD (listI one (la:Int)) []:=⟨_,rfl⟩;obtain⟨t,ht⟩:∃ t,t=i%2:=⟨_,rfl⟩;have ht2:t<2:=by omega
             have hXr:0<=pick2 t x0 x1/\pick2 t x0 x1<2^g:=by unfold pick2;split;exact HRNG.out.1;exact HRNG.out.2
             obtain⟨X,hX⟩:∃ X:Nat,pick2 t x0 x1=X:=⟨(pick2 t x0 x1).toNat,by omega⟩
             have hXg:X<2^g:=by rw[hX] at hXr;have e:(2:Int)^g=((2^g:Nat):Int):=by simp
                                rw[e] at hXr;omega
             have hmodI:(i:Int)%2=(t:Int):=by omega
             have hmodT:(i:Int).tmod 2=(t:Int):=by rw[Int.tmod_eq_emod_of_nonneg (by omega)];exact hmodI
             have HT:=Lib.hid (And.intro ht hX);have HQ:=Lib.hid hq;have hXI:(X:Int)<((2^g:Nat):Int):=by omega
             have hlaI:(la:Int)<256:=by omega
             have htI:(t:Int)<2:=by omega
             have hrc:=a7a HE0.out (listI one (la:Int));rw[<- hq] at hrc;have HRC:=Lib.hid hrc;obtain⟨Bc,cb2,hcell,hfr,hkc⟩:=HD.out.cellc hla;obtain⟨CL,hCL⟩:∃ CL,CL=CS.getD la []:=⟨_,rfl⟩;rw[<- hCL] at hcell hkc;obtain⟨L,hL⟩:∃ L,L=CL.length:=⟨_,rfl⟩;rw[<- hL] at hcell hkc;have HCL:=Lib.hid (And.intro hCL hL);have HXG:=Lib.hid hXg;have HLT:=Lib.hid hlt;clear hCL hL hkc hrc hX hXr ht hq hXg;rcases Nat.eq_zero_or_pos L with hL0 | hL0
             rotate_left
             focus
              have d3:((L:Int)==0)=false:=by rw[beq_eq_false_iff_ne];omega
              have hcq:logC q≠0/\CS.getD la []=a0V q:=by
               rcases HCS.out.2 la hla with h | h
               · have:=HCL.out;rw[h] at this;rw[this.1] at this;have h2:=this.2;simp at h2;omega
               · rw[<- HQ.out] at h;exact h
              have hlg:logC q=g:=by
               rcases HRC.out with h | h
               · unfold cellsOf at h;rw[if_neg hcq.1,a3p hcq.1] at h;have:=Nat.two_pow_pos (logC q);omega
               · omega
              have hM:=b7R HD.out HCS.out hla ht2 HT.out.2 HXG.out hcq.1 hlg hcq.2;have HM:=Lib.hid hM;have HLG:=Lib.hid (And.intro hcq.1 hlg);clear hcq hlg hM hL0;go_wp2_with fail;obtain⟨wm,hwm⟩:∃ wm,wm=wr:=⟨_,rfl⟩;rw[<- hwm] at HM ⊢;clear hwm hcell hfr d3
             rotate_left
             focus
              have d3:((L:Int)==0)=true:=by rw[hL0];rfl
              obtain⟨⟨m0,m1,m2⟩,_⟩:=cell3 (a0h HK.out HBW.out);clear hL0;go_wp2_with fail;have hAt:=b0X g one A c qs la wr (Kd.C_below HR.out HBW.out) HE0.out (b0Y HE0.out) hla;rw[<- HQ.out] at hAt;refine hAt.mono ?_;clear hAt;rintro e w6 ⟨Bq,cq,rfl,hcq,hqC,hb6⟩;have HB6:=Lib.hid hb6;have HOf:=Lib.hid (d0h Bq cq q w6 hqC hcq);have hc6:=a0p hb6 hcell;clear hcq hqC hb6 m0 m1 m2;go_wp2_with fail;refine HOf.out.mono ?_;rintro e w7 ⟨v7,rfl,hv7,hb7⟩;have HV7:=Lib.hid hv7;have HB7:=Lib.hid (a0f HB6.out hb7);have hsz67:=HB6.out.size;clear hv7 hb7
              by_cases hlq:logC q=0
              · have HF3:Hid (R=(13,[])):=Lib.hid (by
                  have h1:=HGO.out;rw[show N-i=(N-i-1)+1 by have:=HLT.out;omega,a9p (by rw[<- HQ.out];unfold cellsOf;rw[if_pos hlq];rfl)] at h1;exact h1.symm)
                rw[if_pos hlq];clear hlq;go_wp2_with fail;go_ret2;rw[HF3.out];exact a4y 13 w _ (a0f HB.out (a0f HBW.out HB7.out))
              focus
               rw[if_neg hlq];have HLQ:=Lib.hid hlq;have hD7:=HD.out.later HB7.out;obtain⟨Bd,cb3,hcell7,hfr7,_⟩:=hD7.cellc hla;have hrcx:=HRC.out;have hcs:=d0n HCS.out hla (by rw[<- HQ.out];exact hlq);rw[<- HQ.out] at hcs
               have hlg:logC q=g:=by
                rcases HRC.out with h | h
                · unfold cellsOf at h;rw[if_neg hlq,a3p hlq] at h;have:=Nat.two_pow_pos (logC q);omega
                · omega
               have hv8:kc.R 170 w7 wr.heap.size (λ _=>True) v7 (a0V q):=Kd.R_lower (HV7.out hlq) HB6.out.size;have hM:=b7R (HD.out.setc HB7.out hla hv8) hcs.1 hla ht2 HT.out.2 HXG.out hlq hlg hcs.2;have HM:=Lib.hid hM;have HLG:=Lib.hid (And.intro hlq hlg);obtain⟨A7,c7,rfl⟩:=Kd.R_slice hv8;obtain⟨n7,hn7⟩:∃ n7,n7=(a0V q).length:=⟨_,rfl⟩;rw[<- hn7] at HM ⊢;clear hlq hD7 hrcx hcs hlg hv8 hM hcell hfr hc6 HV7 hn7;go_wp2_with fail;obtain⟨wm,hwm⟩:∃ wm,wm=w7.setCell ⟨gx+1,la,none⟩ (.slice A7 n7 c7):=⟨_,rfl⟩;rw[<- hwm] at HM ⊢;clear hwm hcell7 hfr7 HB6 HOf HB7 hsz67 d3
             all_goals
              obtain⟨CSm,adm,cm,hDm,hCSm,f0,f1,f2,f3,f4⟩:=HM.out.ex;have hok:=a6Z HLG.out.1 X (by rw[HLG.out.2];exact HXG.out);rw[HLG.out.2] at hok;obtain⟨sN,hsN⟩:∃ k:Nat,(a0T q X).1=k:=⟨(a0T q X).1.toNat,by omega⟩;obtain⟨bN,hbN,hb12,hbe⟩:=hok.2.2.1;obtain⟨eN,heN⟩:∃ k:Nat,(a0T q X).2.2=k:=⟨(a0T q X).2.2.toNat,by omega⟩;have hs256:sN<256:=by omega
              rw[hsN] at f2;rw[hbN] at f3;rw[heN] at f4 hbe;have HDm:=Lib.hid hDm;have HCSm:=Lib.hid hCSm;have HCE:=Lib.hid (show a0T q X=((sN:Int),(bN:Int),(eN:Int)) by rw[<- hsN,<- hbN,<- heN]);have HBE:=Lib.hid hbe;have he16:eN<=100000:=by have:=hok.2.2.2.2;rw[heN] at this;omega
              clear hok hsN hbN heN hbe hDm hCSm HM;have HKP:=Lib.hid (show ∀ w':World,Below wm.heap.size wm w'->(Below wm.heap.size wm w'/\w'.cell? ⟨gx+1,la,none⟩=some (.slice (some adm) (2^g) cm)/\w'.cell? ⟨gx,t,none⟩=some (.int .i64 X)/\w'.cell? (adm.add (X*3))=some (.int .u8 sN)/\w'.cell? ⟨(adm.add (X*3)).block,(adm.add (X*3)).off+1,none⟩=some (.int .i64 bN)/\w'.cell? ⟨(adm.add (X*3)).block,(adm.add (X*3)).off+2,none⟩=some (.int .i64 eN)) from λ w' h=>⟨h,a0p h f0,a0p h f1,a0p h f2,a0p h f3,a0p h f4⟩);obtain⟨G2,hG2⟩:∃ G2,G2=2^g:=⟨_,rfl⟩;rw[<- hG2] at f0 HKP hXI;have HG2:=Lib.hid hG2;clear hG2;go_cut [22] (λ s22 wx=>CellM sN bN eN wm s22 wx)
              case first=>
               go_region_held3 (λ w'=>Below wm.heap.size wm w'/\w'.cell? ⟨gx+1,la,none⟩=some (.slice (some adm) G2 cm)/\w'.cell? ⟨gx,t,none⟩=some (.int .i64 X)/\w'.cell? (adm.add (X*3))=some (.int .u8 sN)/\w'.cell? ⟨(adm.add (X*3)).block,(adm.add (X*3)).off+1,none⟩=some (.int .i64 bN)/\w'.cell? ⟨(adm.add (X*3)).block,(adm.add (X*3)).off+2,none⟩=some (.int .i64 eN))
                ((refine HKP.out _ ?_;(repeat' (first | assumption | exact Below.refl _ _ | refine a3Q ?_ _ | refine a5a ?_ | refine b5g ?_ ?_ _)) <;> first | omega | (simp;done) | (simp;omega)))
                (fail)
               all_goals
                go_wp2_with fail;go_meet;refine' d0m _ ?_ ?_ ?_
                · repeat' (with_reducible (first | exact a0i _ _ | exact a2l _ _ _ | refine a9M ?_ | refine a0o ?_ _))
                · repeat' (first | assumption | exact Below.refl _ _ | refine a3Q ?_ _ | refine a5a ?_)
                all_goals first | omega | exact Nat.le_refl _ | (simp;done)
              case rest=>
               obtain⟨mb,rfl,hmb,hblk,hbl⟩:=hcut;have HMB:=Lib.hid (And.intro hmb hblk);have HDc:=Lib.hid (HDm.out.later hbl);have hDm0:=HDm.out;obtain⟨⟨c0,c1,c2⟩,_⟩:=cell3 hblk;have hne1:mb≠gx:=by have:=hDm0.ge.1.2;omega
               have HST:=Lib.hid (show(cellsOf (qs.getD (listI one (la:Int)) [])).length≠0/\(cellsOf (qs.getD (listI one (la:Int)) [])).getD X z3=((sN:Int),(bN:Int),(eN:Int)) from by
                rw[<- HQ.out];have e:cellsOf q=a0V q:=by unfold cellsOf;rw[if_neg HLG.out.1]
                rw[e,a3p HLG.out.1,a4L HLG.out.1 X (by rw[HLG.out.2];exact HXG.out),HCE.out];exact⟨by have:=Nat.two_pow_pos (logC q);omega,rfl⟩)
               have HCt:=Lib.hid (b1g (Kd.C_below HC3.out.2.1 HDc.out.below) left (by have:=HBits.out.2;have:=HC3.out.1;omega));have HLL:=Lib.hid (show left<=c3 from by have:=HBits.out.2;have:=HC3.out.1;have:=HC3.out.2.2;omega);clear hmb hblk hbl f0 f1 f2 f3 f4 hDm0
               by_cases hbl:bN<=left
               · obtain⟨hbt,hbv⟩:=b1f HBits.out.1 hbl;obtain⟨v,hv⟩:∃ v,v=takeV ps left bN:=⟨_,rfl⟩;have hvb:v<2^bN:=by rw[hv];exact a2d _ _ _
                 have hp12:2^bN<=2^12:=Nat.pow_le_pow_right (by omega) hb12;rw[<- hv] at hbv;obtain⟨l2,hl2⟩:∃ l2,l2=left-bN:=⟨_,rfl⟩;have HT1:=b1d A3 left c3 bN (B3.take left) wc HBits.out.1.len.symm HLL.out HCt.out (by omega) hbl (by omega);rw[<- hl2] at HT1 hbt hbv;rw[hbv] at HT1;have HTK3:=Lib.hid HT1;have hv4:v<4096:=by omega
                 have hbt2:BitsP ps l2 (B3.take l2):=by
                  have e:(B3.take left).take l2=B3.take l2:=by rw[List.take_take,Nat.min_eq_left (by omega)]
                  rw[<- e];exact hbt
                 have HN3:=Lib.hid (And.intro hbt2 (And.intro hv (And.intro hvb (And.intro hl2 hbl))));clear hbt hbv hv hvb hp12 hl2 hbt2 HT1 hbl;go_wp2_with fail;refine HTK3.out.mono ?_;rintro e wt ⟨rfl,hbt⟩;have HDt:=Lib.hid (HDc.out.later hbt);have c0t:=a0p hbt c0;have c1t:=a0p hbt c1;have c2t:=a0p hbt c2;have HMBt:=Lib.hid (a0h HMB.out.2 hbt);obtain⟨x0t,x0f⟩:=HDt.out.cellx ht2;have HDs:=Lib.hid (HDt.out.setx ht2 ((eN:Int)+(v:Int)));have HSL:=Lib.hid (show(out.length+1)*1<=140737488355328 by have:=HOL.out;omega);have HMs:=Lib.hid (a1v HMBt.out (p:=⟨gx,t,none⟩) hne1 (.int .i64 ((eN:Int)+(v:Int))))
                 have HNO:=Lib.hid (show some mb≠Value.ownBlock u18 from λ e=>by
                  obtain⟨_,inner,ho,_⟩:=HDm.out.out;have:=a3c ho mb e.symm;have:=HMB.out.1;omega)
                 have HFIN:=Lib.hid (show ∀ (v2:Value) (w2:World),DR gx (gx+1) w5 (set2 t x0 x1 ((eN:Int)+(v:Int))).1 (set2 t x0 x1 ((eN:Int)+(v:Int))).2 v2 (out++[(sN:Int)]) CSm w2->LRel g one qs ps N gx (gx+1) w5 B3 R (i+1) sN l2 v2 w2 from λ v2 w2 h=>by
                  refine⟨_,_,_,CSm,h,⟨HN3.out.1,by have:=HBits.out.2;have:=HN3.out.2.2.2.1;omega⟩,HCSm.out,?_,?_,by rw[List.length_append,List.length_singleton,HOL.out]⟩
                  · have h1:=HGO.out;rw[show N-i=(N-(i+1))+1 by have:=HLT.out;omega,a7b HST.out.1 (by rw[<- HT.out.1];exact HT.out.2) HST.out.2 HN3.out.2.2.2.2,<- HT.out.1,<- HN3.out.2.1,<- HN3.out.2.2.2.1] at h1;exact h1
                  · refine a7c HRNG.out.1 HRNG.out.2 ?_;have h1:=HBE.out;have h2:=HN3.out.2.2.1;have e1:(2:Int)^bN=((2^bN:Nat):Int):=by simp
                    rw[e1] at h1;omega)
                 clear hbt c0 c1 c2;go_wp2_with (at_builtin;refine a6s .u8 (w0:=w5) (W:=wt.setCell ⟨gx,t,none⟩ (.int .i64 ((eN:Int)+(v:Int)))) rfl (.tmp 129) (.tmp 132) 22 5 1 rfl Tryz.underlying22 a0I (by decide) u18 _ (sN:Int) rfl (by simp[go_sem]) HDs.out.out HDs.out.below HSL.out ?_;intro v2 wa hr2 hb2 hg2 hat2;have hmb2:=a1g HMs.out hg2 HNO.out;have HRL:=Lib.hid (HFIN.out v2 wa (HDs.out.app hr2 hb2 hg2 hat2));obtain⟨⟨g0,g1,g2⟩,_⟩:=cell3 hmb2;clear hmb2 hr2 hb2 hg2 hat2);go_roundw
                 case rel=>exact⟨i+1,sN,l2,by go_num,rfl,rfl,by omega,hs256,by have:=HN3.out.2.2.2.1;omega,HRL⟩
                 case measure=>first | (simp[intOf];done) | (simp[intOf];omega)
               · have HF3:Hid (R=(3,[])):=Lib.hid (by
                   have h1:=HGO.out;rw[show N-i=(N-i-1)+1 by have:=HLT.out;omega,a9q HST.out.1 (by rw[<- HT.out.1];exact HT.out.2) HST.out.2 hbl] at h1;exact h1.symm)
                 have HT1:=Lib.hid (a8p A3 left c3 bN wc (by omega) (by omega));clear hbl;go_wp2_with fail;refine HT1.out.mono ?_;rintro e wt ⟨rfl,hbt⟩;have HBt:=Lib.hid (a0f (a0f HB5.out HDc.out.below) hbt);clear hbt;go_wp2_with fail;go_ret2;rw[HF3.out];exact a4y 3 w _ (a0f HB.out HBt.out)
           · obtain rfl:i=N:=by omega
             obtain⟨q0,_⟩:=HD.out.cellx (t:=0) (by omega);obtain⟨q1,_⟩:=HD.out.cellx (t:=1) (by omega);have p0:wr.cell? ⟨gx,0,none⟩=some (.int .i64 x0):=q0;have p1:wr.cell? ⟨gx,1,none⟩=some (.int .i64 x1):=q1
             have HFR:Hid (R=if x0=0/\x1=0/\left=0 then (0,out) else (14,[])):=Lib.hid (by
              have h1:=HGO.out;rw[Nat.sub_self] at h1;simp only[decGo] at h1;exact h1.symm)
             clear q0 q1 hlt hi
             have fin:∀ a b c:Bool,(x0 != 0)=a->(x1 != 0)=b->decide (0<left)=c->decide ((0:Int)<(left:Int))=c->(a=false/\b=false/\c=false->R=(0,out))/\(¬ (a=false/\b=false/\c=false)->R=(14,[])):=by
              intro a b c ha hb hc _;rw[HFR.out]
              constructor
              · rintro ⟨rfl,rfl,rfl⟩;rw[bne_eq_false_iff_eq] at ha hb;have:=of_decide_eq_false hc;rw[if_pos ⟨ha,hb,by omega⟩]
              · intro h;rw[if_neg (λ h2=>h ?_)];obtain⟨h3,h4,h5⟩:=h2;subst h3 h4 h5;exact⟨ha.symm,hb.symm,hc.symm⟩
             obtain⟨a,ha⟩:∃ a,(x0 != 0)=a:=⟨_,rfl⟩;obtain⟨b,hb⟩:∃ a,(x1 != 0)=a:=⟨_,rfl⟩;obtain⟨d,hd⟩:∃ a,decide (0<left)=a:=⟨_,rfl⟩;have hd2:decide ((0:Int)<(left:Int))=d:=by rw[<- hd,decide_eq_decide];omega
             have HFN:=Lib.hid (fin a b d ha hb hd hd2);clear fin
             cases a <;> cases b <;> cases d
             · have HE:=Lib.hid (HFN.out.1 ⟨rfl,rfl,rfl⟩);clear HFN;go_wp2_with fail;go_ret2;rw[HE.out];exact⟨⟨u18,rfl,Kd.R_mono (Kd.R_lower HD.out.out (Nat.le_trans HS0.out HB5.out.size)) (λ _ _=>trivial)⟩,a0f HB.out HBW.out⟩
             all_goals
              have HE:=Lib.hid (HFN.out.2 (by decide));clear HFN;go_wp2_with fail;go_ret2;rw[HE.out];exact a4y 14 w _ (a0f HB.out HBW.out)
  · have HG:=Lib.hid hgo
    have HF:Hid (R=(1,[])):=Lib.hid (by
     rw[HRR.out];unfold decM;rw[if_pos];have h0:=HE0.out;have h1:=HE1.out;have h2:=HE2.out
     by_cases g1:n<0
     · exact .inl g1
     · by_cases g2:131072<n
       · exact .inr (.inl g2)
       · refine .inr (.inr ?_);rw[decide_eq_false g1] at h1;rw[decide_eq_false g2] at h2
         cases d0
         · exact h0
         · exact absurd ⟨rfl,h1.symm,h2.symm⟩ HG.out)
    clear hgo
    cases d0 <;> cases d1 <;> cases d2 <;> first
     | (exact absurd ⟨rfl,rfl,rfl⟩ HG.out)
     | (clear HG
        go_wp2_with fail;go_ret2;rw[HF.out];exact a4y 1 w _ (a0f HB.out HB2.out))
 exact main _ _ _ rfl rfl rfl
open Go.Proofs.YtflfjpkmjnnodaaGreat.PRef
theorem b7T (A:Option Addr) (c:Nat) (ps:List Int) (w:World) (hr:(Kd.int .u8).C w A ps.length ps) (hps:Bytes ps) (hl:ps.length<=100000) (hc:ps.length<=c) :
    Calls Tryz.prog 133 #[.slice A ps.length c] w (a5e ps w):=by
 obtain⟨W,hW⟩:∃ W,W=w.alloc (.cells #[.int .i64 0,.bool false,.slice none 0 0] 26):=⟨_,rfl⟩;have hb1:Below w.heap.size w W:=by rw[hW];exact(Below.refl _ _).alloc (Nat.le_refl _) _
 have hk1:W.heap[w.heap.size]?=some (.cells #[.int .i64 0,.bool false,.slice none 0 0] 26 (0,0)):=by rw[hW];exact a0i _ _
 have HB1:=Lib.hid hb1;have HK1:=Lib.hid hk1;have HR:=Lib.hid (And.intro (Kd.C_below hr hb1) (And.intro hps (And.intro hl hc)))
 by_cases h0:ps.length=0
 · have HE:Hid (a0w ps=(3,0,[],[])):=by show _=_;unfold a0w;rw[if_pos h0]
   obtain⟨⟨ca,cb,cc⟩,fa,fb,fc⟩:=cell3 hk1;have hz:((ps.length:Int)==0)=true:=by rw[h0];rfl
   rw[h0];clear hr hps hl hc hk1 hz h0;go_enter Tryz.func133,Tryz.ntmps133;go_wp2_with fail;rw[<- hW];clear hW;refine bodyPost_ret (a1y (fn:=Tryz.f133) (p:=2) (u:=3) (v:=4) (ty:=26) rfl _ _ _ _ rfl (a1h HK1.out)) rfl ?_;exact⟨(λ h=>by rw[HE.out] at h;cases h),(λ _=>by rw[HE.out];rfl),HB1.out⟩
 · have hz:((ps.length:Int)==0)=false:=by simp;intro e;subst e;simp at h0
   obtain⟨ad,hA,hx⟩:=a0v HR.out.1 0 (by omega);subst hA;have hb0:=hps.get 0;obtain⟨v,hv⟩:∃ v:Nat,ps.getD 0 0=v:=⟨(ps.getD 0 0).toNat,by omega⟩;rw[hv] at hx hb0;have hv8:v<256:=by omega
   have hvN:v=(ps.getD 0 0).toNat:=by rw[hv];rfl
   have e0:ad.add 0=ad:=by simp[Addr.add]
   have hx0:W.cell? ad=some (.int .u8 v):=by rw[e0] at hx;exact hx
   have hxw:=hx0;rw[hW] at hxw;have hl0:(0:Int)<(ps.length:Int):=by omega
   have hvw:IntKind.i64.wrap (v:Int)=(v:Int):=i64_in _ (by omega)
   by_cases hlog:5<=v/\v<=11
   · obtain⟨H,hH⟩:∃ H,H=hdrT (ps.drop 1) (8*(ps.drop 1).length) 257 a0y 0 (2^v) false 0:=⟨_,rfl⟩;have HS:=Lib.hid (d0a ps h0 v hvN hlog H hH);have d1:decide ((v:Int)<5)=false:=decide_eq_false (by omega);have d2:decide ((11:Int)<(v:Int))=false:=decide_eq_false (by omega);obtain⟨A2,hA2⟩:∃ A2,A2=(if c=1 then some ad else (some ad).map (·.add (1*1))):=⟨_,rfl⟩;obtain⟨i0,hi0,hsz⟩:=Option.map_eq_some_iff.1 a9j;obtain⟨xs,hxs⟩:∃ x,x=ps.drop 1:=⟨_,rfl⟩;have hxl:xs.length=ps.length-1:=by rw[hxs,List.length_drop]
     have hcut:∀ W:World,(Instr.slice 22 (.slice (some ad) ps.length c) (some (.int .i64 1)) none none).run Tryz.prog W=.ok (.slice A2 xs.length (c-1)) W:=by
      have:=a6j (P:=Tryz.prog) 22 5 .i64 Tryz.underlying22 hi0 1 hsz (some ad) ps.length c 1 (by omega) (by omega);rw[hA2,hxl];exact this
     have hCx:(Kd.int .u8).C W A2 xs.length xs:=by
      have h2:=Kd.C_drop (c:=c) (m:=1) HR.out.1 (by omega) hc;rw[hA2,hxs];exact h2
     have hbx:Bytes xs:=λ z hz=>hps z (by rw[hxs] at hz;exact List.mem_of_mem_drop hz);have HNew:=Lib.hid (b7I A2 (c-1) xs W hCx (by omega) hbx (by omega));have HXL:=Lib.hid (And.intro hxl (And.intro (show xs.length<=100000 by omega) hbx));rw[<- hxs] at HS hH;have HHe:=Lib.hid (show H.1=0->H.2.2<=8*xs.length from λ h=>by rw[hH] at h ⊢;exact a5b _ _ _ _ _ _ (by omega) h);have HHH:=Lib.hid hH;have hlog1:1<=v/\v<=12:=by omega
     clear hx0 hr hps hl hc hk1 h0 hx e0 hA2 hCx hbx hH hv hvN hxs hxl hb0 hb1 hlog;go_enter Tryz.func133,Tryz.ntmps133;go_wp2_with fail;rw[<- hW];clear hW hxw;refine HNew.out.mono ?_;rintro e w1 ⟨p,rfl,hp,hrd,hb⟩;have H1:=Lib.hid (And.intro hp (And.intro hrd hb));have HK2:=Lib.hid (a0h HK1.out hb)
     have hpl:p<w1.heap.size:=by
      obtain⟨A9,c9,hb9,-⟩:=hrd.ex;exact a0g hb9
     have HTk:=Lib.hid (b7P W.heap.size p xs 0 v w1 hrd (by have:=HXL.out.2.1;omega) (by omega) hlog1.1 hlog1.2 hpl);rw[<- HHH.out] at HTk;have hnp:w.heap.size≠p:=by have:=a0g HK1.out;omega
     have HPL:=Lib.hid hpl;clear hp hrd hb hpl;go_wp2_with fail;refine HTk.out.mono ?_;rintro e w3 ⟨c1,c2,c3⟩;have HB2:=Lib.hid (a0f HB1.out H1.out.2.2);have hk4:w3.heap[w.heap.size]?=some (.cells #[.int .i64 0,.bool false,.slice none 0 0] 26 (0,0)):=by rw[c3.block _ (a0g HK2.out) hnp];exact HK2.out
     have HK4:=Lib.hid hk4;have HB4:Hid (Below w.heap.size w w3):=HB2.out.trans (c3.below HB2.out.size (λ k hk=>by have:=H1.out.1;have:=HB1.out.size;omega))
     by_cases hz:H.1=0
     · obtain⟨A7,c7,rfl,d1,d2,d3⟩:=c1 hz;have HD:=Lib.hid (And.intro d1 (And.intro d2 d3));have HPd:=Lib.hid (b7L W.heap.size p _ H.2.2 xs.length w3 d3 (a1F _ _) (by rw[a1F];have:=HXL.out.2.1;omega) (by rw[a1F];exact HHe.out hz));have HS23:=Lib.hid c3.size;have HPI:=Lib.hid (b7K xs HXL.out.2.2 (HHe.out hz));clear c1 c2 c3 d1 d2 d3 hk4;go_wp2_with fail;refine HPd.out.mono ?_;rintro e w4 ⟨p1,p2,p3⟩;have hk5:w4.heap[w.heap.size]?=some (.cells #[.int .i64 0,.bool false,.slice none 0 0] 26 (0,0)):=by rw[p3.block _ (a0g HK4.out) hnp];exact HK4.out
       have HK5:=Lib.hid hk5;have HB5:Hid (Below w.heap.size w w4):=HB4.out.trans (p3.below HB4.out.size (λ k hk=>by have:=H1.out.1;have:=HB1.out.size;omega))
       by_cases hpd:PadP (a0K xs (8*xs.length)) H.2.2
       · obtain⟨rfl,hrd⟩:=p1 hpd;have HE:=Lib.hid (HS.out.2.2 hz (HPI.out.1 hpd));have hq4:(Kd.int .i64).R 3 w4 w1.heap.size (λ _=>True) (.slice A7 256 c7) H.2.1:=Kd.R_mono (Kd.R_step (Kd.R_bound HD.out.1) (λ k hk hlt=>p3.block k hlt (by have:=hk.2.1;have:=HPL.out;omega))) (λ _ _=>trivial);have hs24:w1.heap.size<=w4.heap.size:=Nat.le_trans HS23.out p3.size;obtain⟨w5,hw5⟩:∃ w5,w5=w4.alloc (.cells #[.slice A7 256 c7] 84):=⟨_,rfl⟩;have hb45:Below w4.heap.size w4 w5:=by rw[hw5];exact(Below.refl _ _).alloc (Nat.le_refl _) _
         have HQ5:Hid (kq.R 84 w5 w1.heap.size (λ _=>True) (.slice (some ⟨w4.heap.size,0,none⟩) 1 1) [H.2.1]):=by show kq.R _ _ _ _ _ _;rw[hw5];exact Kd.R_mono (a7G hq4 hs24) (λ _ _=>trivial)
         have hat:=HHe.out hz;obtain⟨m,hm⟩:∃ m,m=(H.2.2+7)/8:=⟨_,rfl⟩;have hmx:m<=xs.length:=by omega
         rw[<- hm] at hrd;have hrest:=b7M W.heap.size p _ m xs.length w5 (hrd.below hb45) (a1F _ _) (by rw[a1F];have:=HXL.out.2.1;omega) hmx;rw[b7G xs hmx,b7F (xs.drop m) (λ z hz=>HXL.out.2.2 z (List.mem_of_mem_drop hz))] at hrest;rw[<- hm] at HE;have HRest:=Lib.hid hrest;have HK6:=Lib.hid (a0h hk5 hb45);have HB6:=Lib.hid (HB5.out.trans (hb45.mono HB5.out.size));have HSz:Hid (w.heap.size<w1.heap.size):=by show _<_;have:=a0g HK2.out;omega
         obtain⟨s4,hs4⟩:∃ s4,s4=w4.heap.size:=⟨_,rfl⟩;rw[<- hs4] at HQ5;clear p1 p2 p3 hk5 hpd hq4 hs24 hb45 hat hrd hrest hm hmx;go_wp2_with fail;rw[<- hw5,<- hs4];clear hw5 hs4;refine HRest.out.mono ?_;rintro e w6 ⟨vp,rfl,hvp,hb6⟩;have hk7:=a0h HK6.out hb6;have HK7:=Lib.hid hk7;have HP6:=Lib.hid hvp;have HQ6:=Lib.hid (Kd.R_below HQ5.out hb6);have HB7:=Lib.hid (HB6.out.trans (hb6.mono HB6.out.size));have HS5:=Lib.hid (HB6.out.size);obtain⟨⟨ca,cb,cc⟩,fa,fb,fc⟩:=cell3 hk7;clear hk7 hvp hb6;go_wp2_with fail;refine bodyPost_ret (a1y (fn:=Tryz.f133) (p:=2) (u:=3) (v:=4) (ty:=26) rfl _ _ _ _ rfl (a1h (a1x HK7.out _ _ _))) rfl ?_;refine⟨(λ _=>?_),(λ h=>by rw[HE.out] at h;exact absurd rfl h),((HB7.out.setCell (Nat.le_refl _) _).setCell (Nat.le_refl _) _).setCell (Nat.le_refl _) _⟩;rw[HE.out];have h5:=a0g HK6.out;refine⟨_,_,rfl,?_,?_⟩
         · have h4:kq.R 84 w6 w.heap.size (λ k=>k≠w.heap.size) (.slice (some ⟨s4,0,none⟩) 1 1) [H.2.1]:=Kd.R_mono (Kd.R_lower (Kd.R_bound HQ6.out) (by have:=HSz.out;omega)) (λ k hk=>by have:=hk.2.1;have:=HSz.out;omega);exact Kd.R_mono (a2g h4 _ _ _) (λ _ _=>trivial)
         · have h4:(Kd.int .u8).R 5 w6 w.heap.size (λ k=>k≠w.heap.size) vp (xs.drop m):=Kd.R_mono (Kd.R_lower (Kd.R_bound HP6.out) (by omega)) (λ k hk=>by have:=hk.2.1;omega);exact Kd.R_mono (a2g h4 _ _ _) (λ _ _=>trivial)
       · obtain rfl:=p2 hpd
         have HE:=Lib.hid (HS.out.2.1 hz (by
          cases hx:padOk xs H.2.2 with
          | true=>exact absurd (HPI.out.2 hx) hpd
          | false=>rfl))
         obtain⟨⟨ca,cb,cc⟩,fa,fb,fc⟩:=cell3 hk5;clear p1 p2 p3 hk5 hpd;go_wp2_with fail;refine bodyPost_ret (a1y (fn:=Tryz.f133) (p:=2) (u:=3) (v:=4) (ty:=26) rfl _ _ _ _ rfl (a1h (a1x HK5.out _ _ _))) rfl ?_;refine⟨(λ h=>by rw[HE.out] at h;cases h),(λ _=>by rw[HE.out];rfl),?_⟩;exact((HB5.out.setCell (Nat.le_refl _) _).setCell (Nat.le_refl _) _).setCell (Nat.le_refl _) _
     · obtain rfl:=c2 hz;have HE:=Lib.hid (HS.out.1 hz);obtain⟨⟨ca,cb,cc⟩,fa,fb,fc⟩:=cell3 hk4;have hzb:(H.1==0)=false:=beq_eq_false_iff_ne.2 hz;have hzn:(H.1 != 0)=true:=by simp[hz]
       clear c1 c2 c3 hk4;go_wp2_with fail;refine bodyPost_ret (a1y (fn:=Tryz.f133) (p:=2) (u:=3) (v:=4) (ty:=26) rfl _ _ _ _ rfl (a1h (a1x HK4.out _ _ _))) rfl ?_;refine⟨(λ h=>by rw[HE.out] at h;exact absurd h hz),(λ _=>by rw[HE.out];rfl),?_⟩;exact((HB4.out.setCell (Nat.le_refl _) _).setCell (Nat.le_refl _) _).setCell (Nat.le_refl _) _
   · have HE:Hid (a0w ps=(13,0,[],[])):=by show _=_;unfold a0w;rw[if_neg h0,<- hvN,if_pos (by omega)]
     obtain⟨⟨ca,cb,cc⟩,fa,fb,fc⟩:=cell3 hk1;obtain⟨d1,d2,hd⟩:∃ d1 d2:Bool,decide ((v:Int)<5)=d1/\decide ((11:Int)<(v:Int))=d2:=⟨_,_,rfl,rfl⟩;have hor:(d1||d2)=true:=by rw[<- hd.1,<- hd.2];simp;omega
     obtain⟨hd1,hd2⟩:=hd;clear hx0 hr hps hl hc hk1 h0 hx e0 hv hvN hb0 hb1 hlog
     cases d1 <;> cases d2 <;> first
      | (exfalso;revert hor;decide)
      | (clear hor
         go_enter Tryz.func133,Tryz.ntmps133;go_wp2_with fail;rw[<- hW];clear hW;refine bodyPost_ret (a1y (fn:=Tryz.f133) (p:=2) (u:=3) (v:=4) (ty:=26) rfl _ _ _ _ rfl (a1h HK1.out)) rfl ?_;exact⟨(λ h=>by rw[HE.out] at h;cases h),(λ _=>by rw[HE.out];rfl),HB1.out⟩)
theorem d0o (A:Option Addr) (c:Nat) (ps:List Int) {r:Nat} {q p:List Int} (w:World) (hr:(Kd.int .u8).C w A ps.length ps) (hps:Bytes ps) (hl:ps.length<=100000) (hc:ps.length<=c) (h:a0w ps=(0,r,q,p)) :
    Calls Tryz.prog 133 #[.slice A ps.length c] w (b6d r q p w):=by
 refine(b7T A c ps w hr hps hl hc).mono ?_;intro e w' hp;unfold a5e at hp;rw[h] at hp;obtain⟨vm,vp,rfl,hm,hv⟩:=hp.1 rfl;obtain⟨Am,cm,rfl⟩:=Kd.R_slice hm;obtain⟨Ap,cp,rfl⟩:=Kd.R_slice hv;exact⟨Am,cm,Ap,cp,rfl,hm,hv,hp.2.2⟩
theorem d0p (A:Option Addr) (c:Nat) (ps:List Int) {k:Int} (w:World) (hr:(Kd.int .u8).C w A ps.length ps) (hps:Bytes ps) (hl:ps.length<=100000) (hc:ps.length<=c) (h:(a0w ps).1=k) (hk:k≠0) :
    Calls Tryz.prog 133 #[.slice A ps.length c] w (λ e w'=>e=.returned (.tuple #[.agg #[.int .i64 0,.bool false,.slice none 0 0],.slice none 0 0,.int .i64 k])/\Below w.heap.size w w'):=by
 refine(b7T A c ps w hr hps hl hc).mono ?_;intro e w' hp;unfold a5e at hp;rw[h] at hp;exact⟨hp.2.1 hk,hp.2.2⟩
theorem d0q (A:Option Addr) (c:Nat) (ps:List Int) (n:Int) (w:World) (hr:(Kd.int .u8).C w A ps.length ps) (hps:Bytes ps) (hl:ps.length<=100000) (hc:ps.length<=c) (hn:n<=100000\/131072<n) :
    Calls Tryz.prog 81 #[.slice A ps.length c,.int .i64 n] w (ReadPost (dec0M ps n) w):=by
 obtain⟨k,r,q,p,hS⟩:∃ k r q p,a0w ps=(k,r,q,p):=⟨_,_,_,_,rfl⟩;have hpb:=a7Q hps;have hpl:=b6c ps;rw[hS] at hpb hpl
 by_cases hk:k=0
 · subst hk;have HD:Hid (dec0M ps n=decM (r:Nat) true [q] p n):=by show _=_;unfold dec0M;rw[hS,if_neg (λ h=>h rfl)]
   have HS:=Lib.hid (d0o A c ps w hr hps hl hc hS);have HP:=Lib.hid (And.intro hpb (Nat.le_trans hpl hl));rw[HD.out];clear hr hps hl hc hS hpb hpl;go_enter Tryz.func81,Tryz.ntmps81;go_wp2_with fail;refine HS.out.mono ?_;rintro e w1 ⟨Am,cm,Ap,cp,rfl,hm,hv,hb1⟩;obtain⟨w2,hw2⟩:∃ w2,w2=w1.alloc (.cells #[.int .i64 r,.bool true,.slice Am 1 cm] 26):=⟨_,rfl⟩;have hb2:Below w1.heap.size w1 w2:=by rw[hw2];exact(Below.refl _ _).alloc (Nat.le_refl _) _
   have HB2:=Lib.hid (hb1.trans (hb2.mono hb1.size));have HM:=Lib.hid (And.intro (Kd.C_below (Kd.R_reads' hm).2.2 hb2) (Kd.R_reads' hm).2.1);have HV:=Lib.hid (And.intro (Kd.C_below (Kd.R_reads' hv).2.2 hb2) (Kd.R_reads' hv).2.1);clear hm hv hb1 hb2;go_wp2_with fail;rw[<- hw2];clear hw2;refine(b7S r true Am cm [q] Ap cp p n w2 HM.out.1 HM.out.2 (by simp) HV.out.1 HV.out.2 HP.out.1 HP.out.2 hn).mono ?_;rintro e w3 ⟨⟨v,rfl,hv⟩,hb3⟩;have H3:=Lib.hid (And.intro hv hb3);clear hv hb3;go_wp2_with fail;go_ret2;exact⟨⟨v,rfl,Kd.R_lower H3.out.1 HB2.out.size⟩,HB2.out.trans (H3.out.2.mono HB2.out.size)⟩
 · have HD:Hid (dec0M ps n=(k,[])):=by show _=_;unfold dec0M;rw[hS,if_pos hk]
   have HS:=Lib.hid (d0p A c ps w hr hps hl hc (by rw[hS]) hk);have hkb:(k==0)=false:=beq_eq_false_iff_ne.2 hk;have hkn:(k != 0)=true:=by simp[hk]
   rw[HD.out];clear hr hps hl hc hS hpb hpl;go_enter Tryz.func81,Tryz.ntmps81;go_wp2_with fail;refine HS.out.mono ?_;rintro e w1 ⟨rfl,hb1⟩;have HB1:=Lib.hid hb1;clear hb1;go_wp2_with fail;go_ret2;exact⟨⟨_,rfl,Kd.R_nil _ _ _ _ _⟩,HB1.out.alloc HB1.out.size _⟩
structure R20Rel (w:World) (base p mb g v:Nat) (ps:List Int) (Al:Option Addr) (l:List Int) (T:Int×List (List Int)×Nat) (i:Nat) (qs:List (List Int)) (at_:Nat) (W:World):Prop where
 rd:R3P W base p ps at_
 km:W.heap[mb]?=some (.cells #[.int .i64 v,.bool false,.slice (some ⟨g,0,none⟩) 256 256] 26 (0,0))
 kz:W.heap[w.heap.size]?=some (.cells #[.int .i64 0,.bool false,.slice none 0 0] 26 (0,0))
 row:kq.R 84 W w.heap.size (λ k=>k≠p/\k≠mb/\k≠w.heap.size) (.slice (some ⟨g,0,none⟩) 256 256) qs
 lst:(Kd.int .i64).C W Al l.length l
 lb:0<l.length->∀ ad,Al=some ad->ad.block≠p/\ad.block≠g
 eq:hdrsT ps v (l.drop i) qs at_=T
 at_le:at_<=8*ps.length
 on:Below w.heap.size w W
 ne:w.heap.size<mb/\mb≠g/\w.heap.size<g/\g<p/\mb<p/\p<W.heap.size
theorem b1h {w:World} {A:Option Addr} {l:List Int} (h:(Kd.int .i64).C w A l.length l) (hn:0<l.length) {ad:Addr} (ha:A=some ad):ad.block<w.heap.size:=by
 obtain⟨ad2,h2,hc⟩:=a0v h 0 hn;rw[ha] at h2;injection h2 with h2;subst h2;unfold World.cell? at hc;rw[a1P] at hc
 cases hb:w.heap[ad.block]? with
 | none=>rw[hb] at hc;cases hc
 | some o=>exact(Array.getElem?_eq_some_iff.1 hb).1
theorem b7U {w w':World} {A:Option Addr} {l:List Int} (h:(Kd.int .i64).C w A l.length l) (hb:0<l.length->∀ ad,A=some ad->w'.heap[ad.block]?=w.heap[ad.block]?):(Kd.int .i64).C w' A l.length l:=by
 refine⟨h.1,h.2.1,λ hn=>?_⟩;obtain⟨ad,ha,hc⟩:=h.2.2 hn;refine⟨ad,ha,λ i x hi=>?_⟩;obtain⟨c,h1,h2,h3⟩:=hc i x hi;refine⟨c,h1,h2,λ j v hj=>?_⟩;have h4:=h3 j v hj;unfold World.cell? at h4 ⊢;rw[a1P] at h4 ⊢;rw[hb hn ad ha];exact h4
theorem R3At.keep {w w':World} {base p:Nat} {xs:List Bool} {at_:Nat} {S:Nat->Prop} (h:R3At w base p xs at_) (ho:Only S w w') (hp:¬ S p) (hb:∀ k,base<=k->¬ S k):R3At w' base p xs at_:=by
 obtain⟨A,c,h1,h2⟩:=h.ex;exact⟨A,c,(ho.block p (a0g h1) hp).trans h1,Kd.R_mono (Kd.R_step (Kd.R_bound h2) (λ k hk hlt=>ho.block k hlt (hb k hk.2.1))) (λ k hk=>hk.1)⟩
theorem R20Rel.later {w:World} {base p mb g v:Nat} {ps:List Int} {Al:Option Addr} {l:List Int} {T:Int×List (List Int)×Nat} {i:Nat} {qs:List (List Int)} {at_:Nat} {W W':World} (h:R20Rel w base p mb g v ps Al l T i qs at_ W) (hb:Below W.heap.size W W'):R20Rel w base p mb g v ps Al l T i qs at_ W':=
 ⟨h.rd.below hb,a0h h.km hb,a0h h.kz hb,Kd.R_below h.row hb,Kd.C_below h.lst hb,h.lb,h.eq,h.at_le,a0f h.on hb,by have:=h.ne;have:=hb.size;omega⟩
theorem R20Rel.put {w:World} {base p mb g v:Nat} {ps:List Int} {Al:Option Addr} {l:List Int} {T:Int×List (List Int)×Nat} {i cx:Nat} {qs:List (List Int)} {at_ at2:Nat} {W W1:World} {A7:Option Addr} {c7:Nat} {q:List Int} (h:R20Rel w base p mb g v ps Al l T i qs at_ W) (ho:Only (λ k=>k=p) W W1) (hrd:R3P W1 base p ps at2) (hq:(Kd.int .i64).R 3 W1 W.heap.size (λ _=>True) (.slice A7 256 c7) q) (hbs:g<base) (hcx:cx<256) (hat:at2<=8*ps.length) (heq:hdrsT ps v (l.drop (i+1)) (qs.set cx q) at2=T) :
    R20Rel w base p mb g v ps Al l T (i+1) (qs.set cx q) at2 (W1.setCell ⟨g,cx,none⟩ (.slice A7 256 c7)):=by
 obtain⟨n1,n2,n3,n4,n5,n6⟩:=h.ne;have hO:Only (λ k=>k=g) W1 (W1.setCell ⟨g,cx,none⟩ (.slice A7 256 c7)):=(Only.refl (λ k=>k=g) W1).setCell (p:=⟨g,cx,none⟩) rfl _;have km1:W1.heap[mb]?=_:=(ho.block mb (a0g h.km) (by omega)).trans h.km;have kz1:W1.heap[w.heap.size]?=_:=(ho.block _ (a0g h.kz) (by omega)).trans h.kz;have row1:kq.R 84 W1 w.heap.size (λ k=>(k≠p/\k≠mb/\k≠w.heap.size)/\k<W.heap.size) (.slice (some ⟨g,0,none⟩) 256 256) qs:=Kd.R_mono (Kd.R_step (Kd.R_bound h.row) (λ k hk hlt=>ho.block k hlt (by have:=hk.1;exact this.1))) (λ k hk=>⟨hk.1,hk.2.2.1⟩);have hg:g<W.heap.size:=by omega
 have hs:=ho.size;refine⟨R3At.keep hrd hO (by omega) (λ k hk h2=>by omega),a1v km1 (p:=⟨g,cx,none⟩) n2 _,a1v kz1 (p:=⟨g,cx,none⟩) (by show w.heap.size≠g;omega) _,?_,?_,h.lb,heq,hat,(h.on.trans (ho.below h.on.size (λ k hk=>by omega))).setCell (by show w.heap.size<=g;omega) _,by simp;omega⟩
 · have hq2:(Kd.int .i64).R 3 W1 w.heap.size (λ k=>W.heap.size<=k) (.slice A7 256 c7) q:=Kd.R_lower (Kd.R_mono (Kd.R_bound hq) (λ k hk=>hk.2.1)) h.on.size;exact a9N (okp:=λ k=>W.heap.size<=k) (Kd.R_mono row1 (λ k hk=>hk.1)) cx hcx hq2 (λ k hk=>⟨⟨by omega,by have:=a0g h.km;omega,by omega⟩,by omega⟩)
 · have h1:(Kd.int .i64).C W1 Al l.length l:=b7U h.lst (λ hn ad ha=>ho.block _ (b1h h.lst hn ha) (h.lb hn ad ha).1);exact b7U h1 (λ hn ad ha=>hO.block _ (b1h h1 hn ha) (h.lb hn ad ha).2)
theorem d0r (ps:List Int) (r:Nat) (qs:List (List Int)) (at_:Nat):hdrsT ps r [] qs at_=(0,qs,at_):=rfl
theorem b7V (A:Option Addr) (c:Nat) (ps:List Int) (w:World) (hr:(Kd.int .u8).C w A ps.length ps) (hps:Bytes ps) (hl:ps.length<=100000) (hc:ps.length<=c) :
    Calls Tryz.prog 22 #[.slice A ps.length c] w (a3T ps w):=by
 obtain⟨W,hW⟩:∃ W,W=w.alloc (.cells #[.int .i64 0,.bool false,.slice none 0 0] 26):=⟨_,rfl⟩;have hb1:Below w.heap.size w W:=by rw[hW];exact(Below.refl _ _).alloc (Nat.le_refl _) _
 have hk1:W.heap[w.heap.size]?=some (.cells #[.int .i64 0,.bool false,.slice none 0 0] 26 (0,0)):=by rw[hW];exact a0i _ _
 have HB1:=Lib.hid hb1;have HK1:=Lib.hid hk1;have HR:=Lib.hid (And.intro (Kd.C_below hr hb1) (And.intro hps (And.intro hl hc)))
 by_cases h0:ps.length=0
 · have HE:=Lib.hid (show a0z ps=(3,0,[],[]) from by unfold a0z;rw[if_pos h0]);obtain⟨⟨ca,cb,cc⟩,fa,fb,fc⟩:=cell3 hk1;have hz:((ps.length:Int)==0)=true:=by rw[h0];rfl
   rw[h0];clear hr hps hl hc hk1 hz h0;go_enter Tryz.func22,Tryz.ntmps22;go_wp2_with fail;rw[<- hW];clear hW;refine bodyPost_ret (a1y (fn:=Tryz.f22) (p:=2) (u:=3) (v:=4) (ty:=26) rfl _ _ _ _ rfl (a1h HK1.out)) rfl ?_;exact a3a HE.out (by decide) HB1.out
 · have hz:((ps.length:Int)==0)=false:=by simp;intro e;subst e;simp at h0
   obtain⟨ad,hA,hx⟩:=a0v HR.out.1 0 (by omega);subst hA;have hb0:=hps.get 0;obtain⟨v,hv⟩:∃ v:Nat,ps.getD 0 0=v:=⟨(ps.getD 0 0).toNat,by omega⟩;rw[hv] at hx hb0;have hvN:v=(ps.getD 0 0).toNat:=by rw[hv];rfl
   have e0:ad.add 0=ad:=by simp[Addr.add]
   have hx0:W.cell? ad=some (.int .u8 v):=by rw[e0] at hx;exact hx
   have hxw:=hx0;rw[hW] at hxw;have hl0:(0:Int)<(ps.length:Int):=by omega
   have hvw:IntKind.i64.wrap (v:Int)=(v:Int):=i64_in _ (by omega)
   by_cases hlog:5<=v/\v<=9
   · have d1:decide ((v:Int)<5)=false:=decide_eq_false (by omega);have d2:decide ((9:Int)<(v:Int))=false:=decide_eq_false (by omega);have hsl0:=a5Y (some ad) ps.length c 1 (by omega);obtain⟨A1,hA1⟩:∃ A1,A1=(if c=1 then some ad else (some ad).map (·.add (1*1))):=⟨_,rfl⟩;rw[<- hA1] at hsl0;have hsl:∀ W:World,(Instr.slice 22 (.slice (some ad) ps.length c) (some (.int .i64 1)) none none).run Tryz.prog W=.ok (.slice A1 (ps.length-1) (c-1)) W:=hsl0
     have hC1:(Kd.int .u8).C W A1 (ps.drop 1).length (ps.drop 1):=by
      have:=Kd.C_drop (c:=c) (m:=1) HR.out.1 (by omega) hc;rw[hA1];exact this
     have hl1:(ps.drop 1).length=ps.length-1:=List.length_drop;have hDT:=c9U A1 (c-1) (ps.drop 1) W hC1 (λ x hx=>hps x (List.mem_of_mem_drop hx)) (by omega);rw[hl1] at hDT;unfold a2u at hDT;obtain⟨dt,hdt⟩:∃ dt,dt=dirT (ps.drop 1):=⟨_,rfl⟩;rw[<- hdt] at hDT;have HDT:=Lib.hid hDT;have HV:=Lib.hid (And.intro hvN (And.intro hlog (And.intro hdt h0)));clear hr hps hl hc hb1 hk1 h0 hv hvN e0 hx hlog hA1 hC1 hl1 hDT hdt hx0 hsl0 hb0;go_enter Tryz.func22,Tryz.ntmps22;go_wp2_with fail;rw[<- hW];clear hW hxw;refine HDT.out.mono ?_;rintro e w1 ⟨vl,rfl,hvl,hb⟩;have hk2:=a0h HK1.out hb;have HB2:=Lib.hid (a0f HB1.out hb);have HK2:=Lib.hid hk2;obtain⟨⟨ca,cb,cc⟩,fa,fb,fc⟩:=cell3 hk2
     by_cases hz:dt.1=0
     · have hlst:dt.2.length<=256/\(∀ x∈dt.2,0<=x/\x<256)/\33<=ps.length:=by
         have e:=HV.out.2.2.1;unfold dirT at e
         split at e
         · rw[e] at hz;cases hz
         · split at e
           · rw[e] at hz;cases hz
           · rename_i h32 _;rw[List.length_drop] at h32;rw[e];refine⟨a7T _ 256,λ x hx=>?_,by omega⟩;obtain⟨c,rfl,h1,_⟩:=a7U hx;omega
       obtain⟨Al,cl,rfl⟩:=Kd.R_slice hvl;have HL:=Lib.hid (And.intro hvl (And.intro hlst hb));have hmk:∀ w:World,(Instr.makeSlice 24 (.int .i64 256) (.int .i64 256)).run Tryz.prog w=.ok (.slice (some ⟨w.heap.size,0,none⟩) 256 256) (w.alloc (.cells (madeCells #[.slice none 0 0] 256) 84)):=λ w=>a9L 256 (by omega) w;have h33:=hlst.2.2;have hsl3':=a5Y (some ad) ps.length c 33 h33;obtain⟨A3,hA3⟩:∃ A3,A3=(if c=33 then some ad else (some ad).map (·.add (33*1))):=⟨_,rfl⟩;rw[<- hA3] at hsl3';have hsl3:∀ W:World,(Instr.slice 22 (.slice (some ad) ps.length c) (some (.int .i64 33)) none none).run Tryz.prog W=.ok (.slice A3 (ps.length-33) (c-33)) W:=hsl3';obtain⟨ps3,hps3⟩:∃ ps3,ps3=ps.drop 33:=⟨_,rfl⟩;have hl3:ps3.length=ps.length-33:=by rw[hps3];exact List.length_drop
       have hb3:Bytes ps3:=by rw[hps3];exact λ x hx=>HR.out.2.1 x (List.mem_of_mem_drop hx)
       have hC3:(Kd.int .u8).C W A3 ps3.length ps3:=by
        have:=Kd.C_drop (c:=c) (m:=33) HR.out.1 h33 HR.out.2.2.2;rw[hA3,hps3];exact this
       have h33I:(33:Int)<=(ps.length:Int):=by omega
       have h33c:(33:Int)<=(c:Int):=by have:=HR.out.2.2.2;omega
       obtain⟨w2,hw2⟩:∃ w2,w2=(w1.alloc (.cells (madeCells #[.slice none 0 0] 256) 84)).alloc (.cells #[.int .i64 v,.bool false,.slice (some ⟨w1.heap.size,0,none⟩) 256 256] 26):=⟨_,rfl⟩;obtain⟨mb,hmb⟩:∃ mb,mb=w1.heap.size+1:=⟨_,rfl⟩;obtain⟨g,hg⟩:∃ g,g=w1.heap.size:=⟨_,rfl⟩;have hb12:Below w1.heap.size w1 w2:=by rw[hw2];exact((Below.refl w1.heap.size w1).alloc (Nat.le_refl _) _).alloc (by simp) _
       have hws:=a0g HK2.out;have hkm2:w2.heap[mb]?=some (.cells #[.int .i64 v,.bool false,.slice (some ⟨g,0,none⟩) 256 256] 26 (0,0)):=by rw[hw2,hmb,hg];exact a2l _ _ _
       have hrow2:kq.R 84 w2 w1.heap.size (λ k=>k≠mb) (.slice (some ⟨g,0,none⟩) 256 256) (List.replicate 256 []):=by
        rw[hw2,hg];exact Kd.R_alloc (a5Q w1 mb w1.heap.size (by omega) (Nat.le_refl _)) _
       have hsz2:w2.heap.size=mb+1:=by rw[hw2,hmb];simp
       have hNw:=b7I A3 (c-33) ps3 w2 (Kd.C_below hC3 (a0f HL.out.2.2 hb12)) (by have:=HR.out.2.2.2;omega) hb3 (by have:=HR.out.2.2.1;omega);rw[hl3] at hNw;have HNw:=Lib.hid hNw;have HM:=Lib.hid (And.intro hb12 (And.intro hkm2 (And.intro hrow2 (And.intro hsz2 (And.intro hg (And.intro hmb hws))))));have HP3:=Lib.hid (And.intro hps3 (And.intro hl3 (And.intro hb3 hC3)));clear hvl hlst hb hk2 hsl3' hA3 hps3 hl3 hb3 hC3 hb12 hkm2 hrow2 hsz2 hws hNw h33;rw[hz];go_wp2_with fail;rw[<- hw2,<- hmb];clear hw2 hmb hg;refine HNw.out.mono ?_;rintro e w3 ⟨p,rfl,hp,hrd,hb23⟩;have hT0:∃ T,T=hdrsT ps3 v dt.2 (List.replicate 256 []) 0:=⟨_,rfl⟩;obtain⟨T,hT⟩:=hT0
       have HSM:=Lib.hid (show a0z ps=if T.1≠0 then (T.1,0,[],[]) else if T.2.2%8≠0/\(ps3.getD (T.2.2/8) 0).toNat/2^(T.2.2%8)≠0 then (4,0,[],[]) else (0,v,T.2.1,ps3.drop ((T.2.2+7)/8)) from by
        have hlg:=HV.out.2.1;unfold a0z;rw[if_neg HV.out.2.2.2,<- HV.out.1,if_neg (by omega),<- HV.out.2.2.1,if_neg (λ h=>h hz),<- HP3.out.1];have e:a2t=List.replicate 256 []:=rfl;rw[e,<- hT])
       skip
       obtain⟨_,_,hpb,_⟩:=hrd.ex;have hpl:=a0g hpb;have hgx:=HM.out
       have hst:R20Rel w w2.heap.size p mb g v ps3 Al dt.2 T 0 (List.replicate 256 []) 0 w3:=by
        obtain⟨b12,km2,row2,sz2,hg,hmb,hws⟩:=hgx;have hb13:Below w1.heap.size w1 w3:=a0f b12 hb23;refine⟨(by unfold R3P;rw[HP3.out.2.1];exact hrd),a0h km2 hb23,a0h HK2.out hb13,?_,Kd.C_below (Kd.R_reads' HL.out.1).2.2 hb13,λ hn ad ha=>?_,by rw[List.drop_zero];exact hT.symm,Nat.zero_le _,a0f HB2.out hb13,by omega⟩
        · exact Kd.R_lower (Kd.R_below (Kd.R_mono (Kd.R_bound row2) (λ k hk=>⟨by have:=hk.2.2.1;omega,hk.1,by have:=hk.2.1;omega⟩)) hb23) (by omega)
        · have:=((Kd.R_bound HL.out.1).1 ad.block (by rw[ha];rfl)).2.2.1;omega
       have HSt:=Lib.hid hst;have hgb:g<w2.heap.size:=by have:=HM.out;omega
       have HGB:=Lib.hid hgb;clear hrd hb23 hT hpb hpl hgx hst hp hgb ca cb cc fa fb fc;go_wp2_with fail;go_loopw [10,11,12] (λ iv _ _ wr=>∃ i:Nat,i<=dt.2.length/\iv=.int .i64 i/\Hid (∃ qs at_,R20Rel w w2.heap.size p mb g v ps3 Al dt.2 T i qs at_ wr)) (λ iv _ _ _=>dt.2.length-(intOf iv).toNat)
       case atStart=>exact⟨0,by omega,rfl,Lib.hid ⟨_,_,HSt.out⟩⟩
       case round=>
        obtain⟨i,hi,rfl,HH⟩:=hrel;obtain⟨qs,at_,hR⟩:=HH.out;have HRl:=Lib.hid hR;have hlg:=HV.out.2.1;have hpsl:ps3.length<=100000:=by have:=HP3.out.2.1;have:=HR.out.2.2.1;omega
        by_cases hlt:i<dt.2.length
        · obtain⟨adl,hAl,hcl⟩:=a0v hR.lst i hlt;subst hAl;have hcm:=HL.out.2.1.2.1 _ (a1G hlt);obtain⟨cx,hcx⟩:∃ cx:Nat,dt.2.getD i 0=cx:=⟨(dt.2.getD i 0).toNat,by omega⟩;have heq:=b6B ps3 v dt.2 hlt qs at_;rw[hR.eq,hcx,Int.toNat_natCast] at heq;rw[hcx] at hcl hcm;have hTk:=b7P w2.heap.size p ps3 at_ v wr hR.rd (by omega) hR.at_le (by omega) (by omega) hR.ne.2.2.2.2.2;have hHe:(hdrT ps3 (8*ps3.length) 257 a0y 0 (2^v) false at_).1=0->(hdrT ps3 (8*ps3.length) 257 a0y 0 (2^v) false at_).2.2<=8*ps3.length:=λ h=>a5b _ _ _ _ _ _ hR.at_le h;obtain⟨H,hH⟩:∃ H,H=hdrT ps3 (8*ps3.length) 257 a0y 0 (2^v) false at_:=⟨_,rfl⟩;rw[<- hH] at hTk heq hHe;have HTk:=Lib.hid hTk;have HEq:=Lib.hid (And.intro heq hHe);have hI:(i:Int)<(dt.2.length:Int):=by omega
          have hd256:=HL.out.2.1.1;have hc256:(cx:Int)<256:=hcm.2;clear hR hcx heq hTk hHe hH;go_wp2_with fail;refine HTk.out.mono ?_;rintro e w4 ⟨t1,t2,t3⟩
          by_cases hz4:H.1=0
          · obtain⟨A7,c7,rfl,hq,hql,hrd4⟩:=t1 hz4;have hput:=HRl.out.put (cx:=cx) t3 hrd4 hq HGB.out (by omega) (HEq.out.2 hz4) (by have h:=HEq.out.1;rw[if_neg (λ h=>h hz4)] at h;exact h.symm);have HPut:=Lib.hid hput;have row4:kq.R 84 w4 w.heap.size (λ k=>k≠p) (.slice (some ⟨g,0,none⟩) 256 256) qs:=Kd.R_mono (Kd.R_step (Kd.R_bound HRl.out.row) (λ k hk hlt=>t3.block k hlt hk.1.1)) (λ k hk=>hk.1.1);obtain⟨⟨u,hu⟩,hfu⟩:=a9P row4 cx (by omega);have km4:w4.heap[mb]?=_:=(t3.block mb (a0g HRl.out.km) (by have:=HRl.out.ne;omega)).trans HRl.out.km;obtain⟨⟨d0,d1,d2⟩,-⟩:=cell3 km4
            have hcl4:w4.cell? (adl.add i)=some (.int .i64 cx):=by
             have hbl:=b1h HRl.out.lst (by omega) rfl;have hne:=(HRl.out.lb (by omega) adl rfl).1;unfold World.cell? at hcl ⊢;rw[a1P] at hcl ⊢;rw[t3.block adl.block hbl hne];exact hcl
            clear t1 t2 t3 hq hql hrd4 hput row4 km4 hcl;go_wp2_with fail;go_region
            all_goals
             go_wp2_with fail;go_roundw
             case rel=>exact⟨i+1,by omega,by go_num,Lib.hid ⟨_,_,HPut.out.later (by first | exact Below.refl _ _ | exact(Below.refl _ _).drew | exact(Below.refl _ _).drew.drew)⟩⟩
             case measure=>simp[intOf];omega
          · have he:=t2 hz4;subst he
            have HE:Hid (a0z ps=(H.1,0,[],[])):=Lib.hid (by
             have h1:=HEq.out.1;rw[if_pos hz4] at h1;have h2:=HSM.out;rw[h1] at h2;rw[h2,if_pos hz4])
            have hk4:w4.heap[w.heap.size]?=_:=(t3.block _ (a0g HRl.out.kz) (by have:=HRl.out.ne;omega)).trans HRl.out.kz;have HK4:=Lib.hid hk4;have HB4:Hid (Below w.heap.size w w4):=Lib.hid (HRl.out.on.trans (t3.below HRl.out.on.size (λ k hk=>by have:=HRl.out.ne;omega)));obtain⟨⟨ca,cb,cc⟩,fa,fb,fc⟩:=cell3 hk4;have hzn:(H.1 != 0)=true:=by simpa using hz4
            clear t1 t2 t3 hk4;go_wp2_with fail;refine bodyPost_ret (a1y (fn:=Tryz.f22) (p:=2) (u:=3) (v:=4) (ty:=26) rfl _ _ _ _ rfl (a1h (a1x HK4.out _ _ _))) rfl ?_;exact a3a HE.out hz4 (((HB4.out.setCell (Nat.le_refl _) _).setCell (Nat.le_refl _) _).setCell (Nat.le_refl _) _)
        · obtain rfl:i=dt.2.length:=by omega
          have hI:¬ (dt.2.length:Int)<(dt.2.length:Int):=by omega
          have hTT:T=(0,qs,at_):=by
           have h:=hR.eq;rw[List.drop_of_length_le (Nat.le_refl _),d0r] at h;exact h.symm
          have hPd:=b7L w2.heap.size p _ at_ ps3.length wr hR.rd (a1F _ _) (by rw[a1F];omega) (by rw[a1F];exact hR.at_le);have HPd:=Lib.hid hPd;have HPI:=Lib.hid (b7K ps3 HP3.out.2.2.1 hR.at_le)
          have HTT:=Lib.hid (show a0z ps=if at_%8≠0/\(ps3.getD (at_/8) 0).toNat/2^(at_%8)≠0 then (4,0,[],[]) else (0,v,qs,ps3.drop ((at_+7)/8)) by
           have h:=HSM.out;rw[hTT] at h;rw[h,if_neg (λ h=>h rfl)])
          clear hR hPd hTT hlt;go_wp2_with fail;refine HPd.out.mono ?_;rintro e w4 ⟨p1,p2,p3⟩;have hk5:w4.heap[w.heap.size]?=_:=(p3.block _ (a0g HRl.out.kz) (by have:=HRl.out.ne;omega)).trans HRl.out.kz;have km5:w4.heap[mb]?=_:=(p3.block _ (a0g HRl.out.km) (by have:=HRl.out.ne;omega)).trans HRl.out.km;have HK5:=Lib.hid hk5;have HB5:Hid (Below w.heap.size w w4):=Lib.hid (HRl.out.on.trans (p3.below HRl.out.on.size (λ k hk=>by have:=HRl.out.ne;omega)))
          by_cases hpd:PadP (a0K ps3 (8*ps3.length)) at_
          · obtain⟨rfl,hrd⟩:=p1 hpd
            have HE:Hid (a0z ps=(0,v,qs,ps3.drop ((at_+7)/8))):=Lib.hid (by
             have h:=HPI.out.1 hpd;unfold padOk at h;rw[HTT.out,if_neg (of_decide_eq_true h)])
            obtain⟨m,hm⟩:∃ m,m=(at_+7)/8:=⟨_,rfl⟩;have hmx:m<=ps3.length:=by have:=HRl.out.at_le;omega
            rw[<- hm] at hrd HE;obtain⟨Ar,cr,hpb,-⟩:=hrd.ex;have hcp:w4.cell? ⟨p,0,none⟩=some (.slice Ar (a0K ps3 (8*ps3.length)).length cr):=(a0a hpb 0).trans rfl;obtain⟨⟨ca,cb,cc⟩,fa,fb,fc⟩:=cell3 hk5;obtain⟨⟨b0,b1,b2⟩,-⟩:=cell3 km5
            have HRs:Hid (∀ W':World,Below w4.heap.size w4 W'->Calls Tryz.prog 75 #[.pointer (some ⟨p,0,none⟩)] W' (MadeU (ps3.drop m) W')):=Lib.hid λ W' hW'=>by
             have h:=b7M w2.heap.size p _ m ps3.length W' (hrd.below hW') (a1F _ _) (by rw[a1F];omega) hmx;rw[b7G ps3 hmx,b7F (ps3.drop m) (λ z hz=>HP3.out.2.2.1 z (List.mem_of_mem_drop hz))] at h;exact h
            have row5:kq.R 84 w4 w.heap.size (λ k=>k≠w.heap.size) (.slice (some ⟨g,0,none⟩) 256 256) qs:=Kd.R_mono (Kd.R_step (Kd.R_bound HRl.out.row) (λ k hk hlt=>p3.block k hlt hk.1.1)) (λ k hk=>hk.1.2.2);have HRow:=Lib.hid row5;have s0:SR w4 mb p w.heap.size (.int .i64 v) (.bool false) (.slice (some ⟨g,0,none⟩) 256 256) (.slice Ar (a0K ps3 (8*ps3.length)).length cr) w4:=⟨Below.refl _ _,b0,b1,b2,hcp,ca,cb,cc,fa,fb,fc⟩;clear p1 p2 p3 hk5 km5 hpd hrd hm hmx hpb hcp row5;go_wp2_with fail;go_region_law (go_simp;go_at_call 75;refine(HRs.out _ (by first | exact And.left ‹SR _ _ _ _ _ _ _ _ _› | exact(SR.drew ‹SR _ _ _ _ _ _ _ _ _›).1)).mono ?_;rintro e w6 ⟨vp,rfl,hvp,hb⟩;have s1:=(by first | exact SR.keep ‹_› hb | exact SR.keep (SR.drew ‹_›) hb:SR w4 mb p w.heap.size (.int .i64 v) (.bool false) (.slice (some ⟨g,0,none⟩) 256 256) (.slice Ar (a0K ps3 (8*ps3.length)).length cr) w6);obtain⟨g0,g1,g2,g3,g4,g5,g6,g7,g8,g9,g10⟩:=id s1)
            all_goals
             have HV6:=Lib.hid (And.intro hvp s1);clear hvp hb;go_wp2_with fail;refine bodyPost_ret (a1y (fn:=Tryz.f22) (p:=2) (u:=3) (v:=4) (ty:=26) rfl _ _ _ _ rfl (a1h (a1x (a0h HK5.out HV6.out.2.1) _ _ _))) rfl ?_;have hlt5:w.heap.size<w4.heap.size:=a0g HK5.out;have hB6:Below w.heap.size w w6:=a0f HB5.out HV6.out.2.1;refine⟨(λ _=>?_),(λ h=>by rw[HE.out] at h;exact absurd rfl h),((hB6.setCell (Nat.le_refl _) _).setCell (Nat.le_refl _) _).setCell (Nat.le_refl _) _⟩;rw[HE.out];refine⟨_,_,rfl,?_,?_⟩
             · have h5:kq.R 84 w6 w.heap.size (λ k=>k≠w.heap.size) (.slice (some ⟨g,0,none⟩) 256 256) qs:=Kd.R_below HRow.out HV6.out.2.1;exact Kd.R_mono (a2g h5 _ _ _) (λ _ _=>trivial)
             · have h4:(Kd.int .u8).R 5 w6 w.heap.size (λ k=>k≠w.heap.size) vp (ps3.drop m):=Kd.R_mono (Kd.R_lower (Kd.R_bound HV6.out.1) (Nat.le_of_lt hlt5)) (λ k hk=>Nat.ne_of_gt (Nat.lt_of_lt_of_le hlt5 hk.2.1));exact Kd.R_mono (a2g h4 _ _ _) (λ _ _=>trivial)
          · obtain rfl:=p2 hpd
            have HE:Hid (a0z ps=(4,0,[],[])):=Lib.hid (by
             have h:padOk ps3 at_=false:=by
              cases hx:padOk ps3 at_ with
              | true=>exact absurd (HPI.out.2 hx) hpd
              | false=>rfl
             unfold padOk at h;rw[HTT.out,if_pos (Classical.not_not.1 (of_decide_eq_false h))])
            obtain⟨⟨ca,cb,cc⟩,fa,fb,fc⟩:=cell3 hk5;clear p1 p2 p3 hk5 km5 hpd;go_wp2_with fail;refine bodyPost_ret (a1y (fn:=Tryz.f22) (p:=2) (u:=3) (v:=4) (ty:=26) rfl _ _ _ _ rfl (a1h (a1x HK5.out _ _ _))) rfl ?_;exact a3a HE.out (by decide) (((HB5.out.setCell (Nat.le_refl _) _).setCell (Nat.le_refl _) _).setCell (Nat.le_refl _) _)
     · have HE:=Lib.hid (show a0z ps=(dt.1,0,[],[]) from by
         have hlg:=HV.out.2.1;unfold a0z;rw[if_neg HV.out.2.2.2,<- HV.out.1,if_neg (by omega),<- HV.out.2.2.1,if_pos hz])
       have hz2:(dt.1 != 0)=true:=by simpa using hz
       obtain⟨Al,cl,rfl⟩:=Kd.R_slice hvl;clear hvl hb hk2;go_wp2_with fail;refine bodyPost_ret (a1y (fn:=Tryz.f22) (p:=2) (u:=3) (v:=4) (ty:=26) rfl _ _ _ _ rfl (a1h (a1x HK2.out _ _ _))) rfl ?_;exact a3a HE.out hz (((HB2.out.setCell (Nat.le_refl _) _).setCell (Nat.le_refl _) _).setCell (Nat.le_refl _) _)
   · have HE:=Lib.hid (show a0z ps=(13,0,[],[]) from by unfold a0z;rw[if_neg h0,<- hvN,if_pos (by omega)]);obtain⟨⟨ca,cb,cc⟩,fa,fb,fc⟩:=cell3 hk1
     have hd:(decide ((v:Int)<5)=true)\/(decide ((v:Int)<5)=false/\decide ((9:Int)<(v:Int))=true):=by
      by_cases h5:v<5
      · exact .inl (decide_eq_true (by omega))
      · exact .inr ⟨decide_eq_false (by omega),decide_eq_true (by omega)⟩
     clear hx0 hr hps hl hc hk1 h0 hx e0 hv hvN hb0 hb1 hlog;rcases hd with hd | ⟨hd,hd2⟩
     all_goals
      go_enter Tryz.func22,Tryz.ntmps22;go_wp2_with fail;rw[<- hW];clear hW;refine bodyPost_ret (a1y (fn:=Tryz.f22) (p:=2) (u:=3) (v:=4) (ty:=26) rfl _ _ _ _ rfl (a1h HK1.out)) rfl ?_;exact a3a HE.out (by decide) HB1.out
theorem d0s (A:Option Addr) (c:Nat) (ps:List Int) {r:Nat} {qs:List (List Int)} {p:List Int} (w:World) (hr:(Kd.int .u8).C w A ps.length ps) (hps:Bytes ps) (hl:ps.length<=100000) (hc:ps.length<=c) (h:a0z ps=(0,r,qs,p)) :
    Calls Tryz.prog 22 #[.slice A ps.length c] w (b7g r qs p w):=by
 refine(b7V A c ps w hr hps hl hc).mono ?_;intro e w' hp;unfold a3T at hp;rw[h] at hp;obtain⟨vm,vp,rfl,hm,hv⟩:=hp.1 rfl;obtain⟨Am,cm,rfl⟩:=Kd.R_slice hm;obtain⟨Ap,cp,rfl⟩:=Kd.R_slice hv;exact⟨Am,cm,Ap,cp,rfl,hm,hv,hp.2.2⟩
theorem d0t (A:Option Addr) (c:Nat) (ps:List Int) {k:Int} (w:World) (hr:(Kd.int .u8).C w A ps.length ps) (hps:Bytes ps) (hl:ps.length<=100000) (hc:ps.length<=c) (h:(a0z ps).1=k) (hk:k≠0) :
    Calls Tryz.prog 22 #[.slice A ps.length c] w (λ e w'=>e=.returned (.tuple #[.agg #[.int .i64 0,.bool false,.slice none 0 0],.slice none 0 0,.int .i64 k])/\Below w.heap.size w w'):=by
 refine(b7V A c ps w hr hps hl hc).mono ?_;intro e w' hp;unfold a3T at hp;rw[h] at hp;exact⟨hp.2.1 hk,hp.2.2⟩
theorem d0u (A:Option Addr) (c:Nat) (ps:List Int) (n:Int) (w:World) (hr:(Kd.int .u8).C w A ps.length ps) (hps:Bytes ps) (hl:ps.length<=100000) (hc:ps.length<=c) (hn:n<=100000\/131072<n) :
    Calls Tryz.prog 24 #[.slice A ps.length c,.int .i64 n] w (ReadPost (dec1M ps n) w):=by
 obtain⟨k,r,q,p,hS⟩:∃ k r q p,a0z ps=(k,r,q,p):=⟨_,_,_,_,rfl⟩;have hpb:=a7X hps;have hpl:=(a7Y ps).1;have hql:=(a7Y ps).2;rw[hS] at hpb hpl hql
 by_cases hk:k=0
 · subst hk;have HD:Hid (dec1M ps n=decM (r:Nat) false q p n):=by show _=_;unfold dec1M;rw[hS,if_neg (λ h=>h rfl)]
   have HS:=Lib.hid (d0s A c ps w hr hps hl hc hS);have HP:=Lib.hid (And.intro hpb (And.intro (Nat.le_trans hpl hl) (show q.length<=256 from hql)));rw[HD.out];clear hr hps hl hc hS hpb hpl hql;go_enter Tryz.func24,Tryz.ntmps24;go_wp2_with fail;refine HS.out.mono ?_;rintro e w1 ⟨Am,cm,Ap,cp,rfl,hm,hv,hb1⟩;obtain⟨w2,hw2⟩:∃ w2,w2=w1.alloc (.cells #[.int .i64 r,.bool false,.slice Am q.length cm] 26):=⟨_,rfl⟩;have hb2:Below w1.heap.size w1 w2:=by rw[hw2];exact(Below.refl _ _).alloc (Nat.le_refl _) _
   have HB2:=Lib.hid (hb1.trans (hb2.mono hb1.size));have HM:=Lib.hid (And.intro (Kd.C_below (Kd.R_reads' hm).2.2 hb2) (Kd.R_reads' hm).2.1);have HV:=Lib.hid (And.intro (Kd.C_below (Kd.R_reads' hv).2.2 hb2) (Kd.R_reads' hv).2.1);clear hm hv hb1 hb2;go_wp2_with fail;rw[<- hw2];clear hw2;refine(b7S r false Am cm q Ap cp p n w2 HM.out.1 HM.out.2 (by have:=HP.out.2.2;omega) HV.out.1 HV.out.2 HP.out.1 HP.out.2.1 hn).mono ?_;rintro e w3 ⟨⟨v,rfl,hv⟩,hb3⟩;have H3:=Lib.hid (And.intro hv hb3);clear hv hb3;go_wp2_with fail;go_ret2;exact⟨⟨v,rfl,Kd.R_lower H3.out.1 HB2.out.size⟩,HB2.out.trans (H3.out.2.mono HB2.out.size)⟩
 · have HD:Hid (dec1M ps n=(k,[])):=by show _=_;unfold dec1M;rw[hS,if_pos hk]
   have HS:=Lib.hid (d0t A c ps w hr hps hl hc (by rw[hS]) hk);have hkb:(k==0)=false:=beq_eq_false_iff_ne.2 hk;have hkn:(k != 0)=true:=by simp[hk]
   rw[HD.out];clear hr hps hl hc hS hpb hpl hql;go_enter Tryz.func24,Tryz.ntmps24;go_wp2_with fail;refine HS.out.mono ?_;rintro e w1 ⟨rfl,hb1⟩;have HB1:=Lib.hid hb1;clear hb1;go_wp2_with fail;go_ret2;exact⟨⟨_,rfl,Kd.R_nil _ _ _ _ _⟩,HB1.out.alloc HB1.out.size _⟩
end Go.Proofs.YtflfjpkmjnnodaaGreat
namespace Go.Proofs.YtflfjpkmjnnodaaGreat
open Go.RowKit Go.IntWalk Go.Proofs.YtflfjpkmjnnodaaGreatW.PrintWords
theorem d0v (A:Option Addr) (c m:Nat) (k n:Int) (w:World) (h0:¬ a0E k n m=0) :
    Calls Tryz.prog 29 #[.int .i64 k,.slice A m c,.int .i64 n] w (RTold (a0E k n m) [] w):=by
 have HC:=Lib.hid (a6c k n m w);obtain⟨z,hz⟩:∃ z,z=a0E k n m:=⟨_,rfl⟩;unfold a0P at HC;rw[<- hz] at HC h0 ⊢;have hne:(z != 0)=true:=by simp[h0]
 clear hz h0;go_enter Tryz.func29,Tryz.ntmps29;go_wp2_with fail;refine HC.out.mono ?_;rintro e w1 ⟨rfl,rfl⟩;have HB:=Lib.hid (Below.refl w.heap.size w);go_wp2_with fail;go_ret2;exact RTold.nil _ HB.out
theorem d0w {x:Int×List Int} (A:Option Addr) (c m:Nat) (n:Int) (w:World) (h0:a0E 2 n m=0) (h:∀ W,Below w.heap.size w W->Calls Tryz.prog 81 #[.slice A m c,.int .i64 n] W (Told x.1 x.2 W)) :
    Calls Tryz.prog 29 #[.int .i64 2,.slice A m c,.int .i64 n] w (RTold x.1 x.2 w):=by
 have HC:=Lib.hid (a6c 2 n m w);unfold a0P at HC;rw[h0] at HC;have H:=Lib.hid h;clear h h0;go_enter Tryz.func29,Tryz.ntmps29;go_wp2_with fail;refine HC.out.mono ?_;rintro e w1 ⟨rfl,rfl⟩;have HB:=Lib.hid (Below.refl w.heap.size w);go_wp2_with fail;refine(H.out w HB.out).mono ?_;rintro e w2 ⟨A1,c1,rfl,hv,hb⟩;have H2:=Lib.hid (And.intro hv hb);clear hv hb;go_wp2_with fail;go_ret2;exact Told.rtold ⟨A1,c1,rfl,Kd.R_lower H2.out.1 HB.out.size,a0f HB.out H2.out.2⟩
theorem d0x {x:Int×List Int} (A:Option Addr) (c m:Nat) (n:Int) (w:World) (h0:a0E 3 n m=0) (h:∀ W,Below w.heap.size w W->Calls Tryz.prog 24 #[.slice A m c,.int .i64 n] W (Told x.1 x.2 W)) :
    Calls Tryz.prog 29 #[.int .i64 3,.slice A m c,.int .i64 n] w (RTold x.1 x.2 w):=by
 have HC:=Lib.hid (a6c 3 n m w);unfold a0P at HC;rw[h0] at HC;have H:=Lib.hid h;clear h h0;go_enter Tryz.func29,Tryz.ntmps29;go_wp2_with fail;refine HC.out.mono ?_;rintro e w1 ⟨rfl,rfl⟩;have HB:=Lib.hid (Below.refl w.heap.size w);go_wp2_with fail;refine(H.out w HB.out).mono ?_;rintro e w2 ⟨A1,c1,rfl,hv,hb⟩;have H2:=Lib.hid (And.intro hv hb);clear hv hb;go_wp2_with fail;go_ret2;exact Told.rtold ⟨A1,c1,rfl,Kd.R_lower H2.out.1 HB.out.size,a0f HB.out H2.out.2⟩
theorem b7W {x:Int×List Int} (A:Option Addr) (c m:Nat) (k n:Int) (w:World) (hk:k=0\/k=1) (h0:a0E k n m=0) (h:∀ W,Below w.heap.size w W->Calls Tryz.prog 82 #[.int .i64 k,.slice A m c,.int .i64 n] W (RTold x.1 x.2 W)) :
    Calls Tryz.prog 29 #[.int .i64 k,.slice A m c,.int .i64 n] w (RTold x.1 x.2 w):=by
 have HC:=Lib.hid (a6c k n m w);unfold a0P at HC;rw[h0] at HC;have H:=Lib.hid h;clear h h0;rcases hk with rfl | rfl
 all_goals
  go_enter Tryz.func29,Tryz.ntmps29;go_wp2_with fail;refine HC.out.mono ?_;rintro e w1 ⟨rfl,rfl⟩;have HB:=Lib.hid (Below.refl w.heap.size w);go_wp2_with fail;refine(H.out w HB.out).mono ?_;rintro e w2 ⟨A1,c1,rfl,hv,hb⟩;have H2:=Lib.hid (And.intro hv hb);clear hv hb;go_wp2_with fail;go_ret2;exact⟨A1,c1,rfl,H2.out.1,a0f HB.out H2.out.2⟩
theorem d0y (A:Option Addr) (c:Nat) (k n:Int) (ps:List Int) (w:World) (hr:(Kd.int .u8).C w A ps.length ps) (hps:Bytes ps) (hl:ps.length<=100000) (hc:ps.length<=c) (hn:2<=k->n<=100000\/131072<n) :
    Calls Tryz.prog 29 #[.int .i64 k,.slice A ps.length c,.int .i64 n] w (RTold (pickD k ps n).1 (pickD k ps n).2 w):=by
 by_cases h0:a0E k n ps.length=0
 · obtain⟨k0,k4,n0,n1,hm⟩:=b0S h0;have e:pickD k ps n=if k<=1 then a2m k ps n else if k=2 then dec0M ps n else dec1M ps n:=by unfold pickD;rw[if_neg (λ h=>h h0)]
   rw[e]
   by_cases e0:k=0
   · subst e0;have hn:n=ps.length:=by unfold mayB at hm;rw[if_pos rfl] at hm;exact of_decide_eq_true hm
     subst hn;have e2:a2m 0 ps ps.length=(0,ps):=by unfold a2m;rw[if_neg (by omega),if_neg (by omega),if_pos rfl]
     rw[if_pos (by decide),e2];exact b7W (x:=(0,ps)) A c ps.length 0 ps.length w (.inl rfl) h0 (λ W hB=>c9C A c ps W (Kd.C_below hr hB) hc (by omega))
   by_cases e1:k=1
   · subst e1;have hn:1<n/\(ps.length:Int)=1:=by unfold mayB at hm;rw[if_neg (by decide),if_pos rfl] at hm;exact of_decide_eq_true hm
     obtain⟨N,rfl⟩:∃ N:Nat,n=N:=⟨n.toNat,by omega⟩;have hl1:ps.length=1:=by omega
     have e2:a2m 1 ps N=(0,List.replicate N (ps.getD 0 0)):=by unfold a2m;rw[if_neg (by omega),if_neg (by omega),if_neg (by decide)];rfl
     rw[if_pos (by decide),e2];exact b7W (x:=(0,List.replicate N (ps.getD 0 0))) A c ps.length 1 N w (.inr rfl) h0 (λ W hB=>c9E A c ps N W (Kd.C_below hr hB) hl1 (by omega) (by omega))
   rw[if_neg (by omega)];have hn2:=hn (by omega)
   by_cases e2:k=2
   · subst e2;rw[if_pos rfl];exact d0w (x:=dec0M ps n) A c ps.length n w h0 (λ W hB=>(d0q A c ps n W (Kd.C_below hr hB) hps hl hc hn2).mono λ e w' hp=>hp.told)
   · obtain rfl:k=3:=by omega
     rw[if_neg (by decide)];exact d0x (x:=dec1M ps n) A c ps.length n w h0 (λ W hB=>(d0u A c ps n W (Kd.C_below hr hB) hps hl hc hn2).mono λ e w' hp=>hp.told)
 · have e:pickD k ps n=(a0E k n ps.length,[]):=by unfold pickD;rw[if_pos h0]
   rw[e];exact d0v A c ps.length k n w h0
theorem d0z (A:Option Addr) (ca:Nat) (k:Int) (b:List Int) (n m:Int) (w:World) (hb:BSl w A ca b) (hl:b.length<=60) (hn:n<=60\/131072<n) :
    Calls Tryz.prog 4 #[.int .i64 k,.slice A b.length ca,.int .i64 n,.int .i64 m] w (Ret (.bool true) w):=by
 obtain⟨g,y,hg⟩:∃ g y,pickD k b n=(g,y):=⟨_,_,rfl⟩;have HP:=Lib.hid (λ (W:World) (hB:Below w.heap.size w W)=>b7i A ca k n b W (Kd.C_below hb.row hB) hb.by' (by omega) hb.cap hb.nil);have HQ:=Lib.hid (λ (W:World) (hB:Below w.heap.size w W)=>d0y A ca k n b W (Kd.C_below hb.row hB) hb.by' (by omega) hb.cap (λ _=>by omega));have HY:Hid (Bytes y):=Lib.hid (by have h:=b7j (k:=k) (n:=n) hb.by';rw[hg] at h;exact h);rw[hg] at HP HQ;have e1:decide (60<(b.length:Int))=false:=decide_eq_false (by omega)
 have e2:decide (60<n)=false\/(decide (60<n)=true/\decide (n<=131072)=false):=by
  by_cases h:60<n
  · exact .inr ⟨decide_eq_true h,decide_eq_false (by omega)⟩
  · exact .inl (decide_eq_false h)
 have cases3:b=[]\/∃ (ad:Addr) (x:Int),A=some ad/\w.cell? ad=some (.int .u8 x)/\0<b.length/\(decide (9<x)=false\/(decide (9<x)=true/\(decide (x<=11)=true\/decide (x<=11)=false))):=by
  by_cases h0:0<b.length
  · obtain⟨ad,hA,hcx⟩:=a0v hb.row 0 h0;have e0:ad.add 0=ad:=by simp[Addr.add]
    rw[e0] at hcx;refine .inr ⟨ad,_,hA,hcx,h0,?_⟩
    by_cases h9:9<b.getD 0 0
    · refine .inr ⟨decide_eq_true h9,?_⟩
      by_cases h11:b.getD 0 0<=11
      · exact .inl (decide_eq_true h11)
      · exact .inr (decide_eq_false h11)
    · exact .inl (decide_eq_false h9)
  · exact .inl (List.eq_nil_of_length_eq_zero (by omega))
 obtain⟨z,hz⟩:∃ z,z=a0E k n m:=⟨_,rfl⟩;have HC:=Lib.hid (λ W=>a4u k n m W);have HK:=Lib.hid (λ W=>a6c k n m W);unfold a1E at HC;unfold a0P at HK;rw[<- hz] at HC HK;clear hb hl hn hg hz;rcases cases3 with rfl | ⟨ad,x,rfl,hcx,e3,e4⟩
 · rcases e2 with e2 | ⟨e2,e5⟩
   all_goals
    go_enter Tryz.func4,Tryz.ntmps4;go_wp2_with fail;refine(b0Q w).mono ?_;rintro e w1 ⟨rfl,hb1⟩;have HB1:=Lib.hid hb1;clear hb1;go_wp2_with fail;refine(HP.out w1 HB1.out).mono ?_;intro e w2 h2;obtain⟨A2,c2,rfl,hs2,hb2⟩:=h2.out HY.out;have HB2:=Lib.hid (a0f HB1.out hb2);have HS2:=Lib.hid hs2;clear h2 hs2 hb2;go_wp2_with fail;refine(HQ.out w2 HB2.out).mono ?_;rintro e w3 ⟨A3,c3,rfl,hs3,hb3⟩;have HB3:=Lib.hid (a0f HB2.out hb3);have HS23:=Lib.hid (HS2.out.below hb3);have HS3:=Lib.hid hs3.1;clear hs3 hb3;go_wp2_with fail;refine(HC.out w3).mono ?_;rintro e w4 ⟨rfl,hb4⟩;have HB4:=Lib.hid (a0f HB3.out hb4);have HS24:=Lib.hid (HS23.out.below hb4);have HS34:=Lib.hid (Kd.C_below HS3.out hb4);clear hb4;go_wp2_with fail;refine(HK.out w4).mono ?_;rintro e w5 ⟨rfl,rfl⟩;go_wp2_with fail;refine(b0k A2 A3 c2 c3 y w4 HS24.out.row HS34.out HY.out).mono ?_;rintro e w6 ⟨rfl,rfl⟩;go_wp2_with fail;go_ret;exact⟨rfl,HB4.out⟩
 · have hI0:(0:Int)<(b.length:Int):=by omega
   rcases e2 with e2 | ⟨e2,e5⟩
   all_goals
    rcases e4 with e4 | ⟨e4,e6 | e6⟩
    all_goals
     go_enter Tryz.func4,Tryz.ntmps4;go_wp2_with fail;refine(b0Q w).mono ?_;rintro e w1 ⟨rfl,hb1⟩;have HB1:=Lib.hid hb1;have hc1:=a0p hb1 hcx;clear hb1;go_wp2_with fail
     first
      | (go_ret
         exact⟨rfl,HB1.out⟩)
      | (refine(HP.out w1 HB1.out).mono ?_
         intro e w2 h2;obtain⟨A2,c2,rfl,hs2,hb2⟩:=h2.out HY.out;have HB2:=Lib.hid (a0f HB1.out hb2);have HS2:=Lib.hid hs2;clear h2 hs2 hb2;go_wp2_with fail;refine(HQ.out w2 HB2.out).mono ?_;rintro e w3 ⟨A3,c3,rfl,hs3,hb3⟩;have HB3:=Lib.hid (a0f HB2.out hb3);have HS23:=Lib.hid (HS2.out.below hb3);have HS3:=Lib.hid hs3.1;clear hs3 hb3;go_wp2_with fail;refine(HC.out w3).mono ?_;rintro e w4 ⟨rfl,hb4⟩;have HB4:=Lib.hid (a0f HB3.out hb4);have HS24:=Lib.hid (HS23.out.below hb4);have HS34:=Lib.hid (Kd.C_below HS3.out hb4);clear hb4;go_wp2_with fail;refine(HK.out w4).mono ?_;rintro e w5 ⟨rfl,rfl⟩;go_wp2_with fail;refine(b0k A2 A3 c2 c3 y w4 HS24.out.row HS34.out HY.out).mono ?_;rintro e w6 ⟨rfl,rfl⟩;go_wp2_with fail;go_ret;exact⟨rfl,HB4.out⟩)
theorem d0A (k:Int) (A:Option Addr) (ca:Nat) (b:List Int) (n m:Int) (w:World) (_:(Lit.int .i64 k).wf=true) (hr:(Kd.int .u8).C w A b.length b) (hc:b.length<=ca) (hby:Bytes b) (_:b.length*1<=140737488351232) (hnil:A=none->ca=0) (_:(Lit.int .i64 n).wf=true) (_:(Lit.int .i64 m).wf=true) :
    Calls Tryz.prog 4 #[.int .i64 k,.slice A b.length ca,.int .i64 n,.int .i64 m] w (Ret (.bool true) w):=by
 by_cases h1:b.length<=60/\(n<=60\/131072<n)
 · exact d0z A ca k b n m w ⟨hr,hc,hnil,hby⟩ h1.1 h1.2
 · have hd:decide (60<(b.length:Int))=true\/(decide (60<(b.length:Int))=false/\decide (60<n)=true/\decide (n<=131072)=true):=by
     by_cases h2:b.length<=60
     · exact .inr ⟨decide_eq_false (by omega),decide_eq_true (by omega),decide_eq_true (by omega)⟩
     · exact .inl (decide_eq_true (by omega))
   clear h1 hr hc hby hnil;rcases hd with d1 | ⟨d1,d2,d3⟩
   all_goals
    go_enter Tryz.func4,Tryz.ntmps4;go_wp2_with fail;refine(b0Q w).mono ?_;rintro e w1 ⟨rfl,hb1⟩;have HB1:=Lib.hid hb1;clear hb1;go_wp2_with fail;go_ret;exact⟨rfl,HB1.out⟩
end Go.Proofs.YtflfjpkmjnnodaaGreat
