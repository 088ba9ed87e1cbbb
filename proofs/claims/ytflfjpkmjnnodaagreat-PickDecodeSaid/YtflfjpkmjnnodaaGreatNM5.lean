/- The walks of body1.Split's closure, and of body1.each. -/
import Derived.Test.YtflfjpkmjnnodaaGreatNM4
import Derived.Test.YtflfjpkmjnnodaaGreatNS1
import Derived.Test.YtflfjpkmjnnodaaGreatNM2
import Derived.Test.YtflfjpkmjnnodaaGreatNR1
import Derived.Test.YtflfjpkmjnnodaaGreatNM1
import Derived.Test.YtflfjpkmjnnodaaGreatNM0
import Derived.Deep.QuietTactic
import Derived.BigQuiet
import Derived.Deep.MidRow
import Derived.Deep.RegionHeld3
import Derived.Deep.RegionLaw
import Derived.Laws.EntriesVeiled
import Derived.OwnWalk
set_option maxRecDepth 100000
set_option maxHeartbeats 4000000
namespace Go.Proofs.YtflfjpkmjnnodaaGreat
open Go.RowKit Go.IntWalk Go.Proofs.YtflfjpkmjnnodaaGreatW.PrintWords
structure S1 (rbx mb mc p B r n0:Nat) (ps:List Int) (qs:List (List Int)) (at_:Nat) (w0 W:World):Prop where
 rd:RfAt W B p ps at_
 kb:W.heap[rbx]?=some (.cells #[.pointer (some ⟨p,0,none⟩)] 87 (0,0))
 km:W.heap[mb]?=some (.cells #[.int .i64 r,.bool false,.slice (some ⟨mc,0,none⟩) 256 256] 26 (0,0))
 row:kq.R 84 W n0 (λ k=>k≠p/\k≠rbx/\k≠mb) (.slice (some ⟨mc,0,none⟩) 256 256) qs
 on:Below n0 w0 W
def b0B (rbx mb mc p B r n0:Nat) (ps:List Int) (qs:List (List Int)) (at_ c:Nat) (w0 W:World) (e:Ending) (w':World):Prop:=
 Only (λ k=>k=p\/k=mc) W w'/\((hdrT ps (8*ps.length) 257 a0y 0 (2^r) false at_).1=0->e=.returned (.int .i64 0)/\S1 rbx mb mc p B r n0 ps (qs.set c (hdrT ps (8*ps.length) 257 a0y 0 (2^r) false at_).2.1) (hdrT ps (8*ps.length) 257 a0y 0 (2^r) false at_).2.2 w0 w') /\
 ((hdrT ps (8*ps.length) 257 a0y 0 (2^r) false at_).1≠0->e=.returned (.int .i64 (hdrT ps (8*ps.length) 257 a0y 0 (2^r) false at_).1)/\Below n0 w0 w')
theorem c6L (rbx mb mc p B r n0:Nat) (ps:List Int) (qs:List (List Int)) (at_ c:Nat) (w0 W:World) (h:S1 rbx mb mc p B r n0 ps qs at_ w0 W) (hps:Bytes ps) (hl:ps.length<=1000000) (ha:at_<=8*ps.length) (hr1:1<=r) (hr2:r<=12) (hc:c<256)
    (h1:n0<=mc) (h2:mc<B) (h3:B<=p) (h4:p<rbx) (h5:mb<B) (_:n0<=mb) (h7:mb≠mc) :
    Calls Tryz.prog 67 #[.int .i64 c,.pointer (some ⟨rbx,0,none⟩),.pointer (some ⟨mb,0,none⟩)] W (b0B rbx mb mc p B r n0 ps qs at_ c w0 W):=by
 unfold b0B;obtain⟨_,_,hpb,_⟩:=h.rd.ex;have hTk:=b5t B p r ps at_ W h.rd hps hl ha hr1 hr2 (a0g hpb);obtain⟨H,hH⟩:∃ H,H=hdrT ps (8*ps.length) 257 a0y 0 (2^r) false at_:=⟨_,rfl⟩;rw[<- hH] at hTk ⊢;have HTk:=Lib.hid hTk;have HS:=Lib.hid h;have cb:W.cell? ⟨rbx,0,none⟩=some (.pointer (some ⟨p,0,none⟩)):=(a0a h.kb 0).trans rfl;obtain⟨⟨m0,m1,m2⟩,-⟩:=cell3 h.km;have hps':=a0g hpb;have hcI:(0:Int)<=(c:Int)/\(c:Int)<256:=by omega
 obtain⟨hc0,hc1⟩:=hcI;have HBw:=Lib.hid (And.intro hps' (And.intro (a0g h.km) (a0g h.kb)));clear h hTk hpb hH hps';go_enter Tryz.func67,Tryz.ntmps67;go_wp2_with fail;refine HTk.out.mono ?_;rintro e w1 ⟨t1,t2,t3⟩;have km1:w1.heap[mb]?=some (.cells #[.int .i64 r,.bool false,.slice (some ⟨mc,0,none⟩) 256 256] 26 (0,0)):=(t3.block mb HBw.out.2.1 (by omega)).trans HS.out.km;have kb1:w1.heap[rbx]?=some (.cells #[.pointer (some ⟨p,0,none⟩)] 87 (0,0)):=(t3.block rbx HBw.out.2.2 (by omega)).trans HS.out.kb;have row1:kq.R 84 w1 n0 (λ k=>(k≠p/\k≠rbx/\k≠mb)/\k<W.heap.size) (.slice (some ⟨mc,0,none⟩) 256 256) qs:=Kd.R_mono (Kd.R_step (Kd.R_bound HS.out.row) (λ k hk hlt=>t3.block k hlt (by have:=hk.1;exact this.1))) (λ k hk=>⟨hk.1,hk.2.2.1⟩);have on1:Below n0 w0 w1:=HS.out.on.trans (t3.below (by have:=HBw.out.1;omega) (λ k hk=>by omega));obtain⟨⟨u,hu⟩,hfu⟩:=a9P row1 c hc;obtain⟨⟨d0,d1,d2⟩,-⟩:=cell3 km1;have HO:=Lib.hid (t3.mono (S':=λ k=>k=p\/k=mc) (λ k _ h=>.inl h));have HF:=Lib.hid (And.intro km1 (And.intro kb1 (And.intro row1 on1)))
 by_cases hz:H.1=0
 · obtain⟨g,rfl,hq,hql,hrd⟩:=t1 hz;have HQ:=Lib.hid (And.intro hq (And.intro hql hrd));clear t1 t2 t3 km1 kb1 row1 on1 hq hql hrd;go_wp2_with fail;go_ret;refine⟨HO.out.setCell (p:=⟨mc,c,none⟩) (.inr rfl) _,λ _=>⟨rfl,?_⟩,λ h=>absurd hz h⟩;have hO:Only (λ k=>k=mc) w1 (w1.setCell ⟨mc,c,none⟩ (.slice (some ⟨g,0,none⟩) 256 256)):=(Only.refl (λ k=>k=mc) w1).setCell (p:=⟨mc,c,none⟩) rfl _;refine⟨HQ.out.2.2.only hO (by show ¬ p=mc;omega) (λ k hB hk h=>by have h:k=mc:=h;omega),a1v HF.out.2.1 (p:=⟨mc,c,none⟩) (by show rbx≠mc;omega) _,a1v HF.out.1 (p:=⟨mc,c,none⟩) h7 _,?_,HF.out.2.2.2.setCell h1 _⟩;have hq2:(Kd.int .i64).R 3 w1 n0 (λ k=>W.heap.size<=k) (.slice (some ⟨g,0,none⟩) 256 256) H.2.1:=Kd.R_lower (Kd.R_mono (Kd.R_bound HQ.out.1) (λ k hk=>hk.2.1)) (by have:=HBw.out.1;omega);exact a9N (okp:=λ k=>W.heap.size<=k) (Kd.R_mono HF.out.2.2.1 (λ k hk=>hk.1)) c hc hq2 (λ k hk=>⟨⟨by have:=HBw.out.1;omega,by have:=HBw.out.2.2;omega,by have:=HBw.out.2.1;omega⟩,by have:=((Kd.R_bound HF.out.2.2.1).1 mc rfl).1.2;omega⟩)
 · have he:=t2 hz;subst he;clear t1 t2 t3 km1 kb1 row1 on1;go_wp2_with fail;go_ret;exact⟨HO.out.setCell (p:=⟨mc,c,none⟩) (.inr rfl) _,λ h=>absurd h hz,λ _=>⟨rfl,HF.out.2.2.2.setCell h1 _⟩⟩
def b6A (rbx mb mc p B r n0:Nat) (ps:List Int) (T:Int×List (List Int)×Nat) (w0:World) (e:Ending) (w':World):Prop:=
 (T.1=0->e=.returned (.int .i64 0)/\S1 rbx mb mc p B r n0 ps T.2.1 T.2.2 w0 w')/\(T.1≠0->e=.returned (.int .i64 T.1)/\Below n0 w0 w')
theorem b6B (ps:List Int) (r:Nat) (l:List Int) {i:Nat} (hi:i<l.length) (qs:List (List Int)) (at_:Nat):hdrsT ps r (l.drop i) qs at_ =
    if (hdrT ps (8*ps.length) 257 a0y 0 (2^r) false at_).1≠0 then ((hdrT ps (8*ps.length) 257 a0y 0 (2^r) false at_).1,qs,at_) else
    hdrsT ps r (l.drop (i+1)) (qs.set (l.getD i 0).toNat (hdrT ps (8*ps.length) 257 a0y 0 (2^r) false at_).2.1) (hdrT ps (8*ps.length) 257 a0y 0 (2^r) false at_).2.2:=by
 rw[List.drop_eq_getElem_cons hi,List.getD_eq_getElem?_getD,List.getElem?_eq_getElem hi];rfl
theorem c6M (Al:Option Addr) (cl:Nat) (l:List Int) (rbx mb mc p B r n0:Nat) (ps:List Int) (qs:List (List Int)) (at_:Nat) (w0 W:World) (h:S1 rbx mb mc p B r n0 ps qs at_ w0 W) (hl0:(Kd.int .i64).R 3 W n0 (λ k=>k<mc/\k<mb) (.slice Al l.length cl) l) (hlc:∀ c∈l,0<=c/\c<256) (hll:l.length<=256)
    (hps:Bytes ps) (hl:ps.length<=1000000) (ha:at_<=8*ps.length) (hr1:1<=r) (hr2:r<=12)
    (h1:n0<=mc) (h2:mc<B) (h3:B<=p) (h4:p<rbx) (h5:mb<B) (h6:n0<=mb) (h7:mb≠mc) :
    Calls Tryz.prog 66 #[.slice Al l.length cl,.func (.func 67) #[] #[.pointer (some ⟨rbx,0,none⟩),.pointer (some ⟨mb,0,none⟩)]] W (b6A rbx mb mc p B r n0 ps (hdrsT ps r l qs at_) w0):=by
 obtain⟨T,hT⟩:∃ T,T=hdrsT ps r l qs at_:=⟨_,rfl⟩;rw[<- hT];have hT0:hdrsT ps r (l.drop 0) qs at_=T:=hT.symm;have HX:=Lib.hid (And.intro h (And.intro hl0 (And.intro hlc (And.intro hps (And.intro ha hT0)))));clear h hl0 hlc hps ha hT hT0;go_enter Tryz.func66,Tryz.ntmps66;go_wp2_with fail;go_loopw [6,7,10] (λ _ _ kv wr=>∃ i:Nat,i<=l.length/\kv=.int .i64 i/\Hid (∃ qs' at',S1 rbx mb mc p B r n0 ps qs' at' w0 wr/\at'<=8*ps.length/\hdrsT ps r (l.drop i) qs' at'=T/\(Kd.int .i64).R 3 wr n0 (λ k=>k<mc/\k<mb) (.slice Al l.length cl) l)) (λ _ _ kv _=>l.length-(intOf kv).toNat)
 case atStart=>exact⟨0,by omega,rfl,Lib.hid ⟨qs,at_,HX.out.1,HX.out.2.2.2.2.1,HX.out.2.2.2.2.2,HX.out.2.1⟩⟩
 case round=>
  obtain⟨i,hi,rfl,H⟩:=hrel;obtain⟨qs',at',hS,hat,hTi,hlr⟩:=H.out
  by_cases hlt:i<l.length
  · obtain⟨ad,hA,hci⟩:=a0v (Kd.R_reads' hlr).2.2 i hlt;subst hA;have hm:=HX.out.2.2.1 _ (a1G hlt);obtain⟨c,hc⟩:∃ c:Nat,l.getD i 0=(c:Int):=⟨(l.getD i 0).toNat,by omega⟩;rw[hc] at hci hm;have hI:(i:Int)<(l.length:Int):=by omega
    rw[b6B ps r l hlt,hc,Int.toNat_natCast] at hTi;have hCl:=c6L rbx mb mc p B r n0 ps qs' at' c w0 wr hS HX.out.2.2.2.1 hl hat hr1 hr2 (by omega) h1 h2 h3 h4 h5 h6 h7;have hend:=λ h=>a5b 257 a0y 0 (2^r) false at' hat (h:(hdrT ps (8*ps.length) 257 a0y 0 (2^r) false at').1=0);unfold b0B at hCl;obtain⟨Hd,hHd⟩:∃ Hd,Hd=hdrT ps (8*ps.length) 257 a0y 0 (2^r) false at':=⟨_,rfl⟩;rw[<- hHd] at hCl hTi hend;have HC:=Lib.hid (And.intro hCl (And.intro hTi (And.intro hend hlr)));clear hCl hTi hend hlr hS hat hHd hc hm H;go_wp2_with fail;refine HC.out.1.mono ?_;rintro e w2 ⟨hon,t1,t2⟩
    by_cases hz:Hd.1=0
    · obtain⟨rfl,hS2⟩:=t1 hz;have hT2:=HC.out.2.1;rw[if_neg (λ h=>h hz)] at hT2
      have HN:Hid (∃ qs' at',S1 rbx mb mc p B r n0 ps qs' at' w0 w2/\at'<=8*ps.length/\hdrsT ps r (l.drop (i+1)) qs' at'=T/\(Kd.int .i64).R 3 w2 n0 (λ k=>k<mc/\k<mb) (.slice (some ad) l.length cl) l):=
       Lib.hid ⟨_,_,hS2,HC.out.2.2.1 hz,hT2,Kd.R_step HC.out.2.2.2 (λ k hk hlt=>hon.block k hlt (λ h=>by rcases h with h | h <;> omega))⟩
      clear t1 t2 hS2 hon hT2;go_wp2_with fail;go_roundw
      case rel=>exact⟨i+1,by omega,by go_num,HN⟩
      case measure=>simp[intOf];omega
    · obtain⟨rfl,hb⟩:=t2 hz;have hT2:=HC.out.2.1;rw[if_pos hz] at hT2;have HB:=Lib.hid (And.intro hb hT2);have hz2:(Hd.1 != 0)=true:=by simpa using hz
      clear t1 t2 hon hb hT2;go_wp2_with fail;go_ret;rw[<- HB.out.2];exact⟨λ h=>absurd h hz,λ _=>⟨rfl,HB.out.1⟩⟩
  · obtain rfl:i=l.length:=by omega
    have hT3:T=(0,qs',at'):=by rw[<- hTi,List.drop_length];rfl
    clear hlr hTi;go_wp2_with fail;go_ret;rw[hT3];exact⟨λ _=>⟨rfl,hS⟩,λ h=>absurd rfl h⟩
theorem c6N (A:Option Addr) (c pb pc:Nat) (b:List Int) (i:Nat) (k:Int) (w:World) (hpb:w.cell? ⟨pb,0,none⟩=some (.slice A b.length c)) (hpc:w.cell? ⟨pc,0,none⟩=some (.int .i64 k)) (hr:(Kd.int .u8).C w A b.length b) (hi:i<b.length) (hl:b.length<=1000000) (hb:Bytes b) :
    Calls Tryz.prog 197 #[.int .i64 i,.pointer (some ⟨pb,0,none⟩),.pointer (some ⟨pc,0,none⟩)] w λ e w'=>e=.returned (.bool (decide (ctxI b i=k)))/\∃ n,w'=w.drewN n:=by
 have HN:=Lib.hid (λ W (h:Below w.heap.size w W)=>a6S A c b i W (Kd.C_below hr h) hi hl hb);obtain⟨z,hz⟩:∃ z,z=ctxI b i:=⟨_,rfl⟩;rw[<- hz] at HN ⊢;clear hr hi hl hb hz;go_enter Tryz.func197,Tryz.ntmps197;go_wp2_with fail;go_quiet ((go_at_call 155;refine Calls.quiet_of_same ((HN.out _ (a0b (Below.refl _ _) _)).mono λ e w' h=>⟨h.1,h.2.symm⟩)))
 all_goals
  go_wp2_with fail;go_ret;exact⟨by first | rfl | exact a0W rfl,_,rfl⟩
def c6O (b:List Int) (k:Int) (w:World) (e:Ending) (w':World):Prop:=∃ v,e=.returned v/\(Kd.int .u8).R 5 w' w.heap.size (λ _=>True) v (a0q b k)/\Below w.heap.size w w'
theorem c6P (A:Option Addr) (c cc pb pc:Nat) (b:List Int) (k:Int) (w:World) (hpb:w.cell? ⟨pb,0,none⟩=some (.slice A b.length cc)) (hpbl:pb<w.heap.size) (hpc:w.cell? ⟨pc,0,none⟩=some (.int .i64 k)) (hpcl:pc<w.heap.size) (hr:(Kd.int .u8).C w A b.length b) (hl:b.length<=1000000) (hb:Bytes b) :
    Calls Tryz.prog 196 #[.slice A b.length c,.func (Fn.func 197) #[] #[.pointer (some ⟨pb,0,none⟩),.pointer (some ⟨pc,0,none⟩)]] w (c6O b k w):=by
 have HR:=Lib.hid (And.intro hr (And.intro hl (And.intro hb (And.intro hpbl hpcl))));have HCe:=Lib.hid (And.intro hpb hpc);clear hr hl hb hpb hpc hpbl hpcl;go_enter Tryz.func196,Tryz.ntmps196;go_wp2_with fail;go_loopw [5,10] (λ v kv wr=>∃ i:Nat,i<=b.length/\kv=.int .i64 i/\Hid ((Kd.int .u8).R 5 wr w.heap.size (λ _=>True) v (pkL b k i)/\Below w.heap.size w wr)) (λ _ kv _=>b.length-(intOf kv).toNat)
 case atStart=>exact⟨0,by omega,rfl,Lib.hid ⟨by have:pkL b k 0=[]:=rfl;rw[this];exact Kd.R_nil _ _ _ _ _,Below.refl _ _⟩⟩
 case round=>
  obtain⟨i,hi,rfl,H⟩:=hrel
  by_cases hlt:i<b.length
  · obtain⟨Av,cv,rfl⟩:=Kd.R_slice H.out.1;have hbi:=HR.out.2.2.1 _ (a1G hlt);obtain⟨y,hy⟩:∃ y:Nat,b.getD i 0=y:=⟨(b.getD i 0).toNat,by omega⟩;obtain⟨ad,hA,hcx⟩:=a0v (Kd.C_below HR.out.1 H.out.2) i hlt;rw[hy] at hcx;subst hA;have hcl:=a4p b k i;have HLn:Hid (((pkL b k i).length+1)*1<=140737488355328):=by show _<=_;have:=HR.out.2.1;omega
    have hl6:b.length<=1000000:=HR.out.2.1;obtain⟨L,hL⟩:∃ L,L=pkL b k i:=⟨_,rfl⟩;have HL:=Lib.hid hL;have HY:=Lib.hid (And.intro hy hbi);have hF:=c6N (some ad) cc pb pc b i k wr (by rw[H.out.2.cell (p:=⟨pb,0,none⟩) HR.out.2.2.2.1];exact HCe.out.1) (by rw[H.out.2.cell (p:=⟨pc,0,none⟩) HR.out.2.2.2.2];exact HCe.out.2) (Kd.C_below HR.out.1 H.out.2) hlt HR.out.2.1 HR.out.2.2.1;have HF:=Lib.hid hF;rw[<- hL] at H hcl HLn ⊢;clear hF hy hbi hL
    by_cases hcond:ctxI b i=k
    · have HN:Hid (pkL b k (i+1)=L++[(y:Int)]):=by show _=_;rw[a7v hcond,<- HL.out,HY.out.1]
      have hd:=decide_eq_true hcond;rw[hd] at HF;clear hcond hd;go_wp2_with fail;refine HF.out.mono ?_;rintro e w1 ⟨rfl,nq,rfl⟩;obtain⟨w2,hw2⟩:∃ w2,w2=wr.drewN nq:=⟨_,rfl⟩
      have HB2:Hid (Below w.heap.size w w2/\w.heap.size<=w2.heap.size):=by
       have h1:Below w.heap.size w w2:=by rw[hw2];exact a0b H.out.2 nq
       exact Lib.hid ⟨h1,h1.size⟩
      have HR2:Hid ((Kd.int .u8).R 5 w2 w.heap.size (λ _=>True) (.slice Av L.length cv) L):=Lib.hid (by rw[hw2];exact Kd.R_drewN H.out.1 nq);rw[<- hw2];clear hw2 hcx;go_wp2_with (at_builtin;refine Kd.R_append (Kd.int .u8) (w0:=w) (W:=w2) w.heap.size rfl (.tmp 18) (.tmp 20) 22 5 (.int .u8 0) 1 rfl Tryz.underlying22 a0I rfl (by decide) (by decide) _ _ (y:Int) [.int .u8 y] (λ _=>True) (λ _=>False) rfl rfl rfl (λ _ h=>h.elim) (λ _ _=>trivial) HR2.out HB2.out.1 HB2.out.2 HLn.out ?_;intro v1 w3 hr3 hb3 hg3 hat3;have HA:=Lib.hid (And.intro hr3 hb3);clear hr3 hb3 hg3 hat3);go_roundw
      case rel=>exact⟨i+1,by omega,by go_num,Lib.hid ⟨by rw[HN.out];exact HA.out.1,HA.out.2⟩⟩
      case measure=>simp[intOf];omega
    · have HN:Hid (pkL b k (i+1)=L):=by show _=_;rw[a7w hcond,<- HL.out]
      have hd:=decide_eq_false hcond;rw[hd] at HF;clear hcond hd;go_wp2_with fail;refine HF.out.mono ?_;rintro e w1 ⟨rfl,nq,rfl⟩;go_wp2_with fail;go_roundw
      case rel=>exact⟨i+1,by omega,by go_num,Lib.hid ⟨by rw[HN.out];exact Kd.R_drewN H.out.1 nq,a0b H.out.2 nq⟩⟩
      case measure=>simp[intOf];omega
  · obtain rfl:i=b.length:=by omega
    go_wp2_with fail;go_ret;exact⟨_,rfl,H.out.1,H.out.2⟩
def b6C (b:List Int) (k:Int) (w:World) (e:Ending) (w':World):Prop:=∃ v,e=.returned v/\(Kd.int .i64).R 3 w' w.heap.size (λ _=>True) v (histL (a0q b k))/\Below w.heap.size w w'
theorem a8a {b:List Int} (hb:Bytes b) (k:Int):Bytes (a0q b k):=b4I hb k _
theorem b6D (A:Option Addr) (c:Nat) (b:List Int) (k:Int) (w:World) (hr:(Kd.int .u8).C w A b.length b) (hl:b.length<=1000000) (hb:Bytes b) :
    Calls Tryz.prog 146 #[.slice A b.length c,.int .i64 k] w (b6C b k w):=by
 obtain⟨W,hW⟩:∃ W,W=(w.alloc (.cells #[.slice A b.length c] 22)).alloc (.cells #[.int .i64 k] 3):=⟨_,rfl⟩;have hb1:Below w.heap.size w W:=by rw[hW];exact((Below.refl _ _).alloc (Nat.le_refl _) _).alloc (by simp) _
 have hs:W.heap.size=w.heap.size+2:=by rw[hW];simp
 have hk1:W.heap[w.heap.size]?=some (.cells #[.slice A b.length c] 22 (0,0)):=by rw[hW];exact a0o (a0i _ _) _
 have hk2:W.heap[w.heap.size+1]?=some (.cells #[.int .i64 k] 3 (0,0)):=by rw[hW];exact a2l _ _ _
 have HP:=Lib.hid (c6P A c c w.heap.size (w.heap.size+1) b k W ((a0a hk1 0).trans rfl) (by omega) ((a0a hk2 0).trans rfl) (by omega) (Kd.C_below hr hb1) hl hb);have HX:=Lib.hid (And.intro hb1 (And.intro hl hb));have hc1:W.cell? ⟨w.heap.size,0,none⟩=some (.slice A b.length c):=(a0a hk1 0).trans rfl;clear hr hl hb hb1 hs hk1 hk2;go_enter Tryz.func146,Tryz.ntmps146;go_wp2_with fail;rw[<- hW];clear hW;refine HP.out.mono ?_;rintro e w1 ⟨v,rfl,hv,hb1⟩;obtain⟨A1,c1,rfl⟩:=Kd.R_slice hv;have H1:=Lib.hid (And.intro (Kd.R_reads' hv).2.2 (a0f HX.out.1 hb1));have HLp:Hid ((a0q b k).length<=1000000):=by show _<=_;have:=a4p b k b.length;have:=HX.out.2.1;unfold a0q;omega
 clear hv hb1;go_wp2_with fail;refine(b5r A1 c1 (a0q b k) w1 H1.out.1 HLp.out (a8a HX.out.2.2 k)).mono ?_;rintro e w2 ⟨v2,rfl,hv2,hb2⟩;have H2:=Lib.hid (And.intro hv2 hb2);clear hv2 hb2;go_wp2_with fail;go_ret;exact⟨v2,rfl,Kd.R_lower H2.out.1 H1.out.2.size,a0f H1.out.2 H2.out.2⟩
end Go.Proofs.YtflfjpkmjnnodaaGreat
namespace Go.Proofs.YtflfjpkmjnnodaaGreat
open Go.RowKit Go.IntWalk Go.Proofs.YtflfjpkmjnnodaaGreatW.PrintWords Go.Proofs.YtflfjpkmjnnodaaGreatW.PrintMore
attribute [local go_sem] a2j a1Z a2k a2a
def metL (b:List Int):Nat->List Bool
 | 0=>List.replicate 256 false
 | i+1=>(metL b i).set (ctxI b (i:Nat)).toNat true
theorem a8b (b:List Int):∀ i,(metL b i).length=256
 | 0=>List.length_replicate
 | i+1=>by unfold metL;rw[List.length_set];exact a8b b i
theorem b6E {b:List Int} (hb:Bytes b) {i:Nat} (hi:i<b.length):0<=ctxI b (i:Nat)/\ctxI b (i:Nat)<256:=by
 unfold ctxI;rw[if_neg (by omega)]
 split
 · omega
 · exact hb.get _
theorem b6F {b:List Int} (hb:Bytes b) {c:Nat} (hc:c<256):∀ i,i<=b.length->(metL b i).getD c false=decide (0<(pkL b (c:Int) i).length)
 | 0,_=>by
  have:pkL b (c:Int) 0=[]:=rfl;rw[this];unfold metL;rw[List.getD_eq_getElem?_getD,List.getElem?_replicate,if_pos hc];rfl
 | i+1,h=>by
  have ih:=b6F hb hc i (by omega);have hr:=b6E hb (show i<b.length by omega);unfold metL;rw[List.getD_eq_getElem?_getD,List.getElem?_set]
  by_cases e:ctxI b (i:Nat)=(c:Int)
  · rw[if_pos (by omega),if_pos (by rw[a8b];omega),a7v e];simp
  · rw[if_neg (by omega),<- List.getD_eq_getElem?_getD,ih,a7w e]
theorem c6Q:(Tryz.prog.info? 196).map (·.size)=some 256:=by kernel_rfl
theorem c6R:(Tryz.prog.info? 4).map (·.size)=some 1:=by kernel_rfl
theorem c6S:Tryz.zeroCells196=((List.replicate 256 false).map Value.bool).toArray:=by kernel_rfl
theorem c6T (ms:List Bool) (hm:ms.length=256) (i:Nat) (hi:i<256) (w:World):(Instr.index 196 (.agg (ms.map Value.bool).toArray) (.int .i64 i)).run Tryz.prog w=.ok (.bool (ms.getD i false)) w:=by
 obtain⟨i0,hi0,hsz⟩:=Option.map_eq_some_iff.1 c6R;have h1:(0:Int)<=i/\(i:Int)<((256:Nat):Int):=by omega
 have hag:(isAgg 4).run Tryz.prog w=.ok false w:=by simp[isAgg,Tryz.underlying4,go_sem,run_underlying]
 have he:ms[i]?=some ms[i]:=List.getElem?_eq_getElem (by omega);unfold Instr.index;simp[run_underlying (P:=Tryz.prog) Tryz.underlying196,asIntOf,sizeOf,typeInfo,hi0,hsz,part,hag,h1,Result.andThen,he,hi]
def MetAt (p:Nat) (ms:List Bool) (w:World):Prop:=w.heap[p]?=some (.cells (ms.map Value.bool).toArray 196 (0,0))
theorem MetAt.cell {p:Nat} {ms:List Bool} {w:World} (h:MetAt p ms w) {c:Nat} (hc:c<ms.length):w.cell? ⟨p,c,none⟩=some (.bool (ms.getD c false))/\w.frozen? ⟨p,c,none⟩=false:=by
 refine⟨(a0a h c).trans ?_,a0e h c⟩;rw[List.getElem?_toArray,List.getElem?_map,List.getElem?_eq_getElem hc,List.getD_eq_getElem?_getD,List.getElem?_eq_getElem hc];rfl
theorem MetAt.set {p:Nat} {ms:List Bool} {w:World} (h:MetAt p ms w) (c:Nat):MetAt p (ms.set c true) (w.setCell ⟨p,c,none⟩ (.bool true)):=by
 unfold MetAt at h ⊢;rw[a0x h c]
 congr 2
 rw[List.map_set];simp
theorem MetAt.range {p:Nat} {ms:List Bool} {w:World} (h:MetAt p ms w):w.rangeAt p 0 (ms.map Value.bool):=λ j v hv=>by
 rw[Nat.zero_add,a0a h j];simpa using hv
def c6U (b:List Int) (w:World) (e:Ending) (w':World):Prop:=∃ v,e=.returned v/\(Kd.int .i64).R 3 w' w.heap.size (λ _=>True) v (presN b 256)/\Below w.heap.size w w'
theorem c6V {b:List Int} (hb:Bytes b) {c:Nat} (hc:c<256):(metL b b.length).getD c false=decide (0<(a0q b (c:Int)).length):=b6F hb hc b.length (Nat.le_refl _)
theorem b6G (A:Option Addr) (cp:Nat) (b:List Int) (w:World) (hr:(Kd.int .u8).C w A b.length b) (hl:b.length<=1000000) (hb:Bytes b) :
    Calls Tryz.prog 104 #[.slice A b.length cp] w (c6U b w):=by
 obtain⟨W,hW⟩:∃ W,W=w.alloc (.cells Tryz.zeroCells196 196):=⟨_,rfl⟩;have hb1:Below w.heap.size w W:=by rw[hW];exact(Below.refl _ _).alloc (Nat.le_refl _) _
 have hm1:MetAt w.heap.size (metL b 0) W:=by rw[hW,c6S];exact a0i _ _
 have H1:=Lib.hid (And.intro hb1 hm1);have HR:=Lib.hid (And.intro hr (And.intro hl hb));obtain⟨p,hp⟩:∃ p,p=w.heap.size:=⟨_,rfl⟩;rw[<- hp] at H1;have HP:=Lib.hid hp;clear hr hl hb hb1 hm1;go_enter Tryz.func104,Tryz.ntmps104;go_wp2_with fail;rw[<- hW,<- hp];clear hW hp;go_loopw [10] (λ kv wr=>∃ i:Nat,i<=b.length/\kv=.int .i64 i/\Hid (MetAt p (metL b i) wr/\Below p w wr/\Only (λ k=>k=p) W wr)) (λ kv _=>b.length-(intOf kv).toNat)
 case atStart=>exact⟨0,by omega,rfl,Lib.hid ⟨H1.out.2,by rw[HP.out];have:=H1.out.1;rw[HP.out] at this;exact this,Only.refl _ _⟩⟩
 case round=>
  obtain⟨i,hi,rfl,H⟩:=hrel
  by_cases hlt:i<b.length
  · have hB:Below w.heap.size w wr:=by have:=H.out.2.1;rw[HP.out] at this;exact this
    have hRr:(Kd.int .u8).C wr A b.length b:=Kd.C_below HR.out.1 hB;have HAt:=Lib.hid (a6S A cp b i wr hRr hlt HR.out.2.1 HR.out.2.2)
    obtain⟨c,hc,hc2⟩:∃ c:Nat,ctxI b (i:Nat)=c/\c<256:=by
     have:=b6E HR.out.2.2 hlt;exact⟨(ctxI b (i:Nat)).toNat,by omega,by omega⟩
    rw[hc] at HAt;obtain⟨mc,mf⟩:=H.out.1.cell (c:=c) (by rw[a8b];omega);have HN:Hid (metL b (i+1)=(metL b i).set c true):=by show _=_;rw[metL,hc,Int.toNat_natCast]
    have hl6:b.length<=1000000:=HR.out.2.1;clear hc hRr hB;go_wp2_with fail;refine HAt.out.mono ?_;rintro e w1 ⟨rfl,rfl⟩;go_wp2_with fail;go_roundw
    case rel=>exact⟨i+1,by omega,by go_num,Lib.hid ⟨by rw[HN.out];exact H.out.1.set c,H.out.2.1.setCell (Nat.le_refl _) _,H.out.2.2.set1 _ _⟩⟩
    case measure=>simp[intOf];omega
  · obtain rfl:i=b.length:=by omega
    have hld:=H.out.1.range;obtain⟨ms,hms⟩:∃ ms,ms=metL b b.length:=⟨_,rfl⟩;have HMs:Hid (ms.length=256/\∀ c,c<256->ms.getD c false=decide (0<(a0q b (c:Int)).length)):=Lib.hid ⟨by rw[hms];exact a8b b _,λ c hc=>by rw[hms];exact c6V HR.out.2.2 hc⟩;rw[<- hms] at hld;have HLd:=Lib.hid hld;clear hms hld;go_wp2_with fail;refine wp_load_mid 196 (.tmp 3) rfl p 0 rfl (ms.map Value.bool) _ HLd.out Tryz.underlying196 rfl (by rw[c6Q];simp[HMs.out.1]) ?_;go_wp2_with fail;go_loopw [5,19] (λ v kv wr=>∃ c:Nat,c<=256/\kv=.int .i64 c/\Hid ((Kd.int .i64).R 3 wr w.heap.size (λ _=>True) v (presN b c)/\Below w.heap.size w wr)) (λ _ kv _=>256-(intOf kv).toNat)
    case atStart=>exact⟨0,by omega,rfl,Lib.hid ⟨by have:presN b 0=[]:=rfl;rw[this];exact Kd.R_nil _ _ _ _ _,by have:=H.out.2.1;rw[HP.out] at this;exact this⟩⟩
    case round=>
     obtain⟨c,hc,rfl,G⟩:=hrel
     by_cases hlt:c<256
     · have hix:=c6T ms HMs.out.1 c hlt;have hmc:=HMs.out.2 c hlt;obtain⟨Av,cv,rfl⟩:=Kd.R_slice G.out.1;have hpl:=a4q b c;have HLn:Hid (((presN b c).length+1)*8<=140737488355328):=by show _<=_;omega
       obtain⟨L,hL⟩:∃ L,L=presN b c:=⟨_,rfl⟩;have hsucc:=a9B b c;rw[<- hL] at G hpl HLn hsucc ⊢;have HGB:Hid (Below w.heap.size w wr/\w.heap.size<=wr.heap.size):=Lib.hid ⟨G.out.2,G.out.2.size⟩
       by_cases hp0:0<(a0q b (c:Int)).length
       · rw[decide_eq_true hp0] at hmc;rw[if_pos hp0] at hsucc;rw[hmc] at hix;have HS:=Lib.hid hsucc;clear hmc hsucc hL hp0;go_wp2_with (at_builtin;refine Kd.R_append (Kd.int .i64) (w0:=w) (W:=wr) w.heap.size rfl (.tmp 24) (.tmp 26) 84 3 (.int .i64 0) 8 rfl Tryz.underlying84 a4h rfl (by decide) (by decide) _ _ (c:Int) [.int .i64 c] (λ _=>True) (λ _=>False) rfl rfl rfl (λ _ h=>h.elim) (λ _ _=>trivial) G.out.1 HGB.out.1 HGB.out.2 HLn.out ?_;intro v1 w3 hr3 hb3 hg3 hat3;have HA:=Lib.hid (And.intro hr3 hb3);clear hr3 hb3 hg3 hat3);go_roundw
         case rel=>exact⟨c+1,by omega,by go_num,Lib.hid ⟨by rw[HS.out];exact HA.out.1,HA.out.2⟩⟩
         case measure=>simp[intOf];omega
       · rw[decide_eq_false hp0] at hmc;rw[if_neg hp0] at hsucc;rw[hmc] at hix;have HS:=Lib.hid hsucc;clear hmc hsucc hL hp0;go_wp2_with fail;go_roundw
         case rel=>exact⟨c+1,by omega,by go_num,Lib.hid ⟨by rw[HS.out];exact G.out.1,G.out.2⟩⟩
         case measure=>simp[intOf];omega
     · obtain rfl:c=256:=by omega
       go_wp2_with fail;go_ret;exact⟨_,rfl,G.out.1,G.out.2⟩
def widL (b:List Int):List Int->Nat
 | []=>0
 | c :: l=>max (manyC (histL (a0q b c))) (widL b l)
theorem b0C (b:List Int) (c:Int):∀ l:List Int,widL b (l++[c])=max (widL b l) (manyC (histL (a0q b c)))
 | []=>by simp[widL]
 | x :: l=>by
  show max (manyC (histL (a0q b x))) (widL b (l++[c]))=max (max (manyC (histL (a0q b x))) (widL b l)) _
  rw[b0C b c l,Nat.max_assoc]
theorem b6H:manyC (histL [])=0:=by decide +kernel
theorem b0D (b:List Int):∀ k,widL b (presN b k)=widN b k
 | 0=>rfl
 | k+1=>by
  rw[a9B]
  show _=max (widN b k) (manyC (histL (a0q b (k:Nat))))
  by_cases h:0<(a0q b (k:Int)).length
  · rw[if_pos h,b0C,b0D b k]
  · rw[if_neg h,b0D b k];have e:a0q b ((k:Nat):Int)=[]:=List.eq_nil_of_length_eq_zero (by omega);rw[e,b6H];simp
theorem b6I (b:List Int):∀ l,widL b l<=256
 | []=>by simp[widL]
 | c :: l=>by
  have:=b6I b l;have:=a4V (histL (a0q b c));simp only[widL];omega
theorem c6W (A:Option Addr) (cp:Nat) (b:List Int) (w:World) (hr:(Kd.int .u8).C w A b.length b) (hl:b.length<=1000000) (hb:Bytes b) :
    Calls Tryz.prog 144 #[.slice A b.length cp] w (Ret (.int .i64 (widN b 256:Nat)) w):=by
 have HR:=Lib.hid (And.intro hr (And.intro hl hb));clear hr hl hb;go_enter Tryz.func144,Tryz.ntmps144;go_wp2_with fail;refine(b6G A cp b w HR.out.1 HR.out.2.1 HR.out.2.2).mono ?_;rintro e w1 ⟨v,rfl,hv,hb1⟩;obtain⟨A1,c1,rfl⟩:=Kd.R_slice hv;have H1:=Lib.hid (And.intro (Kd.R_reads' hv).2.2 hb1);have hpl:=a4q b 256;obtain⟨L,hL⟩:∃ L,L=presN b 256:=⟨_,rfl⟩;have HL:=Lib.hid hL;rw[<- hL] at H1 hpl ⊢;clear hv hb1 hL;go_wp2_with fail;go_loopw [3,9] (λ mv kv wr=>∃ i:Nat,i<=L.length/\kv=.int .i64 i/\mv=.int .i64 (widL b (L.take i):Nat)/\Hid (Below w1.heap.size w1 wr)) (λ _ kv _=>L.length-(intOf kv).toNat)
 case atStart=>exact⟨0,by omega,rfl,rfl,Lib.hid (Below.refl _ _)⟩
 case round=>
  obtain⟨i,hi,rfl,rfl,H⟩:=hrel
  by_cases hlt:i<L.length
  · obtain⟨ad,hA,hcx⟩:=a0v (Kd.C_below H1.out.1 H.out) i hlt;subst hA;have ht:L.take (i+1)=L.take i++[L.getD i 0]:=by rw[List.take_succ_eq_append_getElem hlt,List.getD_eq_getElem?_getD,List.getElem?_eq_getElem hlt,Option.getD_some]
    obtain⟨c,hc⟩:∃ c,c=L.getD i 0:=⟨_,rfl⟩;rw[<- hc] at ht hcx;obtain⟨m,hm⟩:∃ m,m=widL b (L.take i):=⟨_,rfl⟩;obtain⟨k,hk⟩:∃ k,k=manyC (histL (a0q b c)):=⟨_,rfl⟩;have hN:widL b (L.take (i+1))=max m k:=by rw[ht,b0C,<- hm,<- hk]
    have hm256:m<=256:=by rw[hm];exact b6I _ _
    have hk256:k<=256:=by rw[hk];exact a4V _
    have HN:=Lib.hid (And.intro hN hk);rw[<- hm];have hBw:=a0f H1.out.2 H.out;have HFor:=Lib.hid (b6D A cp b c wr (Kd.C_below HR.out.1 hBw) HR.out.2.1 HR.out.2.2);have HB:=Lib.hid H.out;clear ht hc hm hN hk hBw;go_wp2_with fail;refine HFor.out.mono ?_;rintro e w2 ⟨v2,rfl,hv2,hb2⟩;obtain⟨A2,c2,rfl⟩:=Kd.R_slice hv2;have HV2:=Lib.hid (Kd.R_reads' hv2).2.2;have HB2:Hid (Below w1.heap.size w1 w2):=Lib.hid (a0f HB.out hb2);have HRi:Hid (a0S (histL (a0q b c))=true):=Lib.hid (a5M _ (a8a HR.out.2.2 c) (by have:=a4p b c b.length;have:=HR.out.2.1;unfold a0q;omega));clear hv2 hb2;go_wp2_with fail;refine(a5S A2 c2 _ w2 HV2.out HRi.out).mono ?_;rw[<- HN.out.2];rintro e w3 ⟨rfl,rfl⟩
    by_cases hmk:(m:Int)<(k:Int)
    · have HM:Hid (max m k=k):=by show _=_;omega
      go_wp2_with fail;go_roundw
      case rel=>exact⟨i+1,by omega,by go_num,by rw[HN.out.1,HM.out],HB2.out⟩
      case measure=>simp[intOf];omega
    · have HM:Hid (max m k=m):=by show _=_;omega
      go_wp2_with fail;go_roundw
      case rel=>exact⟨i+1,by omega,by go_num,by rw[HN.out.1,HM.out],HB2.out⟩
      case measure=>simp[intOf];omega
  · obtain rfl:i=L.length:=by omega
    have HE:Hid (widL b (L.take L.length)=widN b 256):=by show _=_;rw[List.take_length,HL.out,b0D]
    rw[HE.out];go_wp2_with fail;go_ret;exact⟨rfl,a0f H1.out.2 H.out⟩
end Go.Proofs.YtflfjpkmjnnodaaGreat
namespace Go.Proofs.YtflfjpkmjnnodaaGreat
open Go.RowKit Go.IntWalk Go.Proofs.YtflfjpkmjnnodaaGreatW.PrintWords
theorem c6X (A:Option Addr) (cp p:Nat) (b:List Int) (k:Int) (w:World) (h:w.cell? ⟨p,0,none⟩=some (.slice A b.length cp)) (hr:(Kd.int .u8).C w A b.length b) (hl:b.length<=1000000) (hb:Bytes b) :
    Calls Tryz.prog 145 #[.int .i64 k,.pointer (some ⟨p,0,none⟩)] w (b6C b k w):=by
 have HF:=Lib.hid (b6D A cp b k w hr hl hb);clear hr hl hb;go_enter Tryz.func145,Tryz.ntmps145;go_wp2_with fail;refine HF.out.mono ?_;rintro e w1 ⟨v,rfl,hv,hb⟩;have H1:=Lib.hid (And.intro hv hb);clear hv hb;go_wp2_with fail;go_ret;exact⟨v,rfl,H1.out.1,H1.out.2⟩
def a2i (b:List Int) (c:Nat):List (List Int):=(List.range c).map (a1l b)
theorem b6J (b:List Int) (c:Nat):a2i b (c+1)=a2i b c++[a1l b c]:=by simp[a2i,List.range_succ]
theorem a8c (b:List Int) (c:Nat):(a2i b c).length=c:=by simp[a2i]
def FMade (b:List Int) (r:Nat) (m0 m1 base c:Nat) (w wr:World):Prop:=∃ A1 c1,wr.heap[m1]?=some (.cells #[.int .i64 r,.bool false,.slice A1 c c1] 26 (0,0))/\wr.heap[m0]?=some (.cells #[.int .i64 0,.bool false,.slice none 0 0] 26 (0,0))/\kq.R 84 wr base (λ _=>True) (.slice A1 c c1) (a2i b c)/\Below m0 w wr/\base<=wr.heap.size
theorem FMade.next {b:List Int} {r m0 m1 base c:Nat} {w w6:World} {A1:Option Addr} {c1:Nat} (hm:m0<base/\m1<base/\m0≠m1/\m0<=m1) (h0:w6.heap[m0]?=some (.cells #[.int .i64 0,.bool false,.slice none 0 0] 26 (0,0)))
    (h1:w6.heap[m1]?=some (.cells #[.int .i64 r,.bool false,.slice A1 c c1] 26 (0,0))) {A2:Option Addr} {c2:Nat} (hq:kq.R 84 w6 base (λ _=>True) (.slice A2 (c+1) c2) (a2i b (c+1))) (hb:Below m0 w w6) (hsz:base<=w6.heap.size) :
    FMade b r m0 m1 base (c+1) w (w6.setCell ⟨m1,2,none⟩ (.slice A2 (c+1) c2)):=by
 refine⟨A2,c2,a0x h1 2 _,a1v h0 (p:=⟨m1,2,none⟩) hm.2.2.1 _,?_,hb.setCell hm.2.2.2 _,by simpa using hsz⟩;refine Kd.R_mono (Kd.R_far (p:=⟨m1,2,none⟩) (Kd.R_bound hq) (λ k hk=>?_) _) (λ _ _=>trivial)
 show k≠m1
 have:=hk.2.1;omega
theorem c6Y (p cp:Nat) (A:Option Addr) (b:List Int) (w:World) (hp:w.heap[p]?=some (.cells #[.slice A b.length cp] 22 (0,0))) (hr:(Kd.int .u8).C w A b.length b) (hl:b.length<=1000000) (hb:Bytes b) :
    Calls Tryz.prog 142 #[.int .i64 (a0r b:Nat),.int .i64 256,.func (Fn.func 145) #[] #[.pointer (some ⟨p,0,none⟩)]] w (MadeM (a0r b:Nat) false (a0C b) w):=by
 obtain⟨r,hrr⟩:∃ r,r=a0r b:=⟨_,rfl⟩;have HRR:=Lib.hid hrr;rw[<- hrr];clear hrr;obtain⟨W2,hW2⟩:∃ W2,W2=(w.alloc (.cells #[.int .i64 0,.bool false,.slice none 0 0] 26)).alloc (.cells #[.int .i64 r,.bool false,.slice none 0 0] 26):=⟨_,rfl⟩;have hb2:Below w.heap.size w W2:=by rw[hW2];exact((Below.refl w.heap.size w).alloc (Nat.le_refl _) _).alloc (by simp) _
 have hs2:W2.heap.size=w.heap.size+2:=by rw[hW2];simp
 have hm1:W2.heap[w.heap.size+1]?=some (.cells #[.int .i64 r,.bool false,.slice none 0 0] 26 (0,0)):=by rw[hW2];exact a2l _ _ _
 have hm0:W2.heap[w.heap.size]?=some (.cells #[.int .i64 0,.bool false,.slice none 0 0] 26 (0,0)):=by rw[hW2];exact a0o (a0i _ _) _
 have HPl:Hid (w.heap.size<=w.heap.size+1):=Nat.le_succ _;have H2:=Lib.hid (And.intro hb2 (And.intro hs2 (And.intro hm1 hm0)));have HP:=Lib.hid hp;have HR:=Lib.hid (And.intro hr (And.intro hl hb));clear hp hr hl hb hb2 hs2 hm1 hm0;go_enter Tryz.func142,Tryz.ntmps142;go_wp2_with fail;rw[<- hW2];clear hW2;obtain⟨m0,hm0⟩:∃ m0,m0=w.heap.size:=⟨_,rfl⟩;have HM0:=Lib.hid hm0;rw[<- hm0] at H2 ⊢;clear hm0;obtain⟨m1,hm1⟩:∃ m1,m1=m0+1:=⟨_,rfl⟩;have HM1:=Lib.hid hm1;rw[<- hm1] at H2 ⊢;clear hm1;go_loopw [16] (λ kv wr=>∃ c:Nat,c<=256/\kv=.int .i64 c/\Hid (FMade b r m0 m1 W2.heap.size c w wr)) (λ kv _=>256-(intOf kv).toNat)
 case atStart=>exact⟨0,by omega,rfl,Lib.hid ⟨none,0,H2.out.2.2.1,H2.out.2.2.2,Kd.R_nil _ _ _ _ _,H2.out.1,Nat.le_refl _⟩⟩
 case round=>
  obtain⟨c,hc,rfl,H⟩:=hrel
  by_cases hlt:c<256
  · obtain⟨A1,c1,h1,h2,h3,h4,h5⟩:=H.out;have hbw:Below w.heap.size w wr:=by have:=h4;rw[HM0.out] at this;exact this
    have hpc:wr.cell? ⟨p,0,none⟩=some (.slice A b.length cp):=(a0a (a0h HP.out hbw) 0).trans rfl;have HF:=Lib.hid (c6X A cp p b c wr hpc (Kd.C_below HR.out.1 hbw) HR.out.2.1 HR.out.2.2);have HH:=Lib.hid (And.intro h1 (And.intro h2 (And.intro h3 (And.intro h4 h5))))
    have hmm:Hid (m0<W2.heap.size/\m1<W2.heap.size/\m0≠m1/\m0<=m1):=by
     have:=a0g H2.out.2.2.1;have:=a0g H2.out.2.2.2;have:=HM1.out;exact Lib.hid (by omega)
    have HPk:=Lib.hid (a4p b (c:Int) b.length);have HOwn:Hid (∀ k,(Value.slice A1 c c1).ownBlock=some k->W2.heap.size<=k/\k<wr.heap.size):=Lib.hid λ k hk=>⟨Kd.R_base h3 k hk,Kd.R_lt h3 k hk⟩;clear h1 h2 h3 h4 h5 hbw hpc H;go_wp2_with fail;refine HF.out.mono ?_;rintro e w3 ⟨vl,rfl,hvl,hb3⟩;obtain⟨Al,cl,rfl⟩:=Kd.R_slice hvl;have hhl:(histL (a0q b (c:Int))).length=256:=a1I _;have hrd:=(Kd.R_reads' hvl).2.2;have hmany:=a5S Al cl (histL (a0q b (c:Int))) w3 hrd (a5M _ (a8a HR.out.2.2 c) (by have:=HPk.out;have:=HR.out.2.1;unfold a0q;omega));rw[hhl] at hrd hmany ⊢;have HV:=Lib.hid hrd;have HMa:=Lib.hid hmany;have HB3:=Lib.hid hb3;clear hvl hb3 hrd hmany hhl;go_wp2_with fail;refine HMa.out.mono ?_
    by_cases hp0:0<(a0q b (c:Int)).length
    · have hmp:0<manyC (histL (a0q b (c:Int))):=b5V (a8a HR.out.2.2 c) (by have:=HPk.out;have:=HR.out.2.1;unfold a0q;omega) hp0;have HCan:=Lib.hid (a5O HR.out.2.2 HR.out.2.1 hlt hp0);have HQ:Hid (a1l b c=normL (histL (a0q b (c:Int))) r):=by show _=_;unfold a1l;rw[if_pos hp0,<- HRR.out]
      rw[<- HRR.out] at HCan;obtain⟨mn,hmn⟩:∃ mn,mn=manyC (histL (a0q b (c:Int))):=⟨_,rfl⟩;rw[<- hmn] at hmp ⊢;clear hmn hp0;rintro e w' ⟨rfl,rfl⟩;go_wp2_with fail;refine(b5U Al cl _ r w3 HV.out HCan.out).mono ?_;rintro e w5 ⟨vq,rfl,hq,hb5⟩;rw[<- HQ.out] at hq;obtain⟨Aq,cq,rfl⟩:=Kd.R_slice hq;obtain⟨Q,hQ⟩:∃ Q,Q=a1l b c:=⟨_,rfl⟩;rw[<- hQ] at hq ⊢;have HQQ:=Lib.hid hQ;obtain⟨ql,hql⟩:∃ ql,ql=Q.length:=⟨_,rfl⟩;rw[<- hql] at hq ⊢;have HQr:Hid ((Kd.int .i64).R 3 w5 W2.heap.size (λ k=>wr.heap.size<=k) (.slice Aq ql cq) Q):=Lib.hid (Kd.R_mono (Kd.R_lower (Kd.R_bound hq) (Nat.le_trans HH.out.2.2.2.2 HB3.out.size)) (λ k hk=>by have:=hk.2.1;have:=HB3.out.size;omega));have hb35:=a0f HB3.out hb5;have h15:=a0h HH.out.1 hb35;have H05:=Lib.hid (a0h HH.out.2.1 hb35);obtain⟨⟨ca,cb,cc⟩,fa,fb,fc⟩:=cell3 h15;have H15:=Lib.hid h15;have HB5:=Lib.hid hb35;have hm1l:=a0g h15;have hm1n:¬ m1=w5.heap.size:=by omega
      have hm1n':¬ w5.heap.size=m1:=by omega
      have HS5:Hid (W2.heap.size<=w5.heap.size):=Lib.hid (Nat.le_trans HH.out.2.2.2.2 hb35.size);have HB5':Hid (Below W2.heap.size w5 w5):=Below.refl _ _;have HL:Hid (((a2i b c).length+1)*24<=140737488355328):=by show _<=_;rw[a8c];omega
      have HO5:=Lib.hid (Kd.R_below HH.out.2.2.1 hb35);clear hq hb5 h15 hql hQ hb35;go_wp2_with (at_builtin;refine Kd.R_append kq (w0:=w5) (W:=w5) W2.heap.size rfl (.tmp 32) (.tmp 34) 24 84 (.slice none 0 0) 24 rfl Tryz.underlying24 a7H rfl (by decide) (by decide) (.slice A1 c c1) (a2i b c) Q [.slice Aq ql cq] (λ _=>True) (λ k=>wr.heap.size<=k) rfl (by simp[go_sem]) ⟨_,rfl,HQr.out⟩ (λ k hk=>⟨trivial,λ e=>by have:=(HOwn.out k e.symm).2;omega⟩) (λ _ _=>trivial) HO5.out HB5'.out HS5.out HL.out ?_;intro v1 w6 hr6 hb6 hg6 hat6;have h16:=a1g H15.out hg6 (λ e=>by have:=(HOwn.out _ e.symm).1;have:=hmm.out;omega);have H16:=Lib.hid h16;have H06:=Lib.hid (a1g H05.out hg6 (λ e=>by have:=(HOwn.out _ e.symm).1;have:=hmm.out;omega));obtain⟨⟨da,db,dc⟩,ga,gb,gc⟩:=cell3 h16;obtain⟨A2,c2,rfl⟩:=Kd.R_slice hr6;have hlen:(a2i b c++[Q]).length=c+1:=(by rw[List.length_append,a8c];rfl);rw[hlen] at hr6;have HR6:=Lib.hid hr6;have HB6:=Lib.hid hb6;rw[hlen];clear hr6 hb6 hg6 hat6 h16 hlen);go_roundw
      case rel=>
       refine⟨c+1,by omega,by go_num,Lib.hid (FMade.next hmm.out H06.out H16.out ?_ ?_ (Nat.le_trans HS5.out HB6.out.size))⟩
       · rw[b6J,<- HQQ.out];exact HR6.out
       · have hm:=hmm.out;have hs:=HH.out.2.2.2.2;exact(HH.out.2.2.2.1.trans (HB5.out.mono (by omega))).trans (HB6.out.mono (by omega))
      case measure=>simp[intOf];omega
    · have hpe:a0q b (c:Int)=[]:=List.eq_nil_of_length_eq_zero (by omega);rw[hpe,b6H];have HQ:Hid (a1l b c=[]):=by show _=_;unfold a1l;rw[if_neg hp0]
      clear hp0 hpe;rintro e w' ⟨rfl,rfl⟩;have h15:=a0h HH.out.1 HB3.out;have H05:=Lib.hid (a0h HH.out.2.1 HB3.out);obtain⟨⟨ca,cb,cc⟩,fa,fb,fc⟩:=cell3 h15;have H15:=Lib.hid h15;have hm1l:=a0g h15;have hm1n:¬ m1=w3.heap.size:=by omega
      have hm1n':¬ w3.heap.size=m1:=by omega
      have HS5:Hid (W2.heap.size<=w3.heap.size):=Lib.hid (Nat.le_trans HH.out.2.2.2.2 HB3.out.size);have HB5':Hid (Below W2.heap.size w3 w3):=Below.refl _ _;have HL:Hid (((a2i b c).length+1)*24<=140737488355328):=by show _<=_;rw[a8c];omega
      have HO5:=Lib.hid (Kd.R_below HH.out.2.2.1 HB3.out);clear h15;go_wp2_with (at_builtin;refine Kd.R_append kq (w0:=w3) (W:=w3) W2.heap.size rfl (.tmp 32) (.tmp 34) 24 84 (.slice none 0 0) 24 rfl Tryz.underlying24 a7H rfl (by decide) (by decide) (.slice A1 c c1) (a2i b c) [] [.slice none 0 0] (λ _=>True) (λ _=>False) rfl (by simp[go_sem]) ⟨_,rfl,Kd.R_nil _ _ _ _ _⟩ (λ _ h=>h.elim) (λ _ _=>trivial) HO5.out HB5'.out HS5.out HL.out ?_;intro v1 w6 hr6 hb6 hg6 hat6;have h16:=a1g H15.out hg6 (λ e=>by have:=(HOwn.out _ e.symm).1;have:=hmm.out;omega);have H16:=Lib.hid h16;have H06:=Lib.hid (a1g H05.out hg6 (λ e=>by have:=(HOwn.out _ e.symm).1;have:=hmm.out;omega));obtain⟨⟨da,db,dc⟩,ga,gb,gc⟩:=cell3 h16;obtain⟨A2,c2,rfl⟩:=Kd.R_slice hr6;have hlen:(a2i b c++[([]:List Int)]).length=c+1:=(by rw[List.length_append,a8c];rfl);rw[hlen] at hr6;have HR6:=Lib.hid hr6;have HB6:=Lib.hid hb6;rw[hlen];clear hr6 hb6 hg6 hat6 h16 hlen);go_roundw
      case rel=>
       refine⟨c+1,by omega,by go_num,Lib.hid (FMade.next hmm.out H06.out H16.out ?_ ?_ (Nat.le_trans HS5.out HB6.out.size))⟩
       · rw[b6J,HQ.out];exact HR6.out
       · have hm:=hmm.out;have hs:=HH.out.2.2.2.2;exact(HH.out.2.2.2.1.trans (HB3.out.mono (by omega))).trans (HB6.out.mono (by omega))
      case measure=>simp[intOf];omega
  · obtain rfl:c=256:=by omega
    obtain⟨A1,c1,h1,h2,h3,h4,h5⟩:=H.out;obtain⟨⟨ca,cb,cc⟩,fa,fb,fc⟩:=cell3 h1;obtain⟨⟨da,db,dc⟩,ga,gb,gc⟩:=cell3 h2;have HH:=Lib.hid (And.intro h2 (And.intro h3 (And.intro h4 h5)));clear h1 h2 h3 h4 h5 H;go_wp2_with fail;have hmm:m0<W2.heap.size:=a0g H2.out.2.2.2;refine bodyPost_ret (results_cell_row (fn:=Tryz.f142) (p:=6) (ty:=26) rfl _ _ _ _ _ _ _ rfl (a1x HH.out.1 _ _ _) Tryz.underlying26 rfl a5P) rfl ?_;have hw0:=HM0.out;subst hw0;refine⟨_,rfl,?_,((HH.out.2.2.1.setCell (Nat.le_refl _) _).setCell (Nat.le_refl _) _).setCell (Nat.le_refl _) _⟩;have e:a2i b 256=a0C b:=rfl;have h4:kq.R 84 wr w.heap.size (λ k=>k≠w.heap.size) (.slice A1 256 c1) (a0C b):=Kd.R_mono (Kd.R_lower (Kd.R_bound HH.out.2.1) (by omega)) (λ k hk=>by have:=hk.2.1;omega);exact Kd.R_mono (a2g h4 _ _ _) (λ _ _=>trivial)
def b6K (b:List Int) (w:World) (e:Ending) (w':World):Prop:=
 (b.length=0/\e=.returned (.tuple #[.agg #[.int .i64 0,.bool false,.slice none 0 0],.int .i64 1])/\Below w.heap.size w w') \/
 (0<b.length/\∃ Av cv,e=.returned (.tuple #[.agg #[.int .i64 (a0r b:Nat),.bool false,.slice Av 256 cv],.int .i64 0])/\kq.R 84 w' w.heap.size (λ _=>True) (.slice Av 256 cv) (a0C b)/\Below w.heap.size w w')
theorem c6Z (A:Option Addr) (cp:Nat) (w:World):Calls Tryz.prog 101 #[.slice A 0 cp] w (b6K [] w):=by
 obtain⟨W1,hW1⟩:∃ W1,W1=(w.alloc (.cells #[.slice A 0 cp] 22)).alloc (.cells #[.int .i64 0,.bool false,.slice none 0 0] 26):=⟨_,rfl⟩;have hb1:Below w.heap.size w W1:=by rw[hW1];exact((Below.refl w.heap.size w).alloc (Nat.le_refl _) _).alloc (by simp) _
 have hk1:W1.heap[w.heap.size+1]?=some (.cells #[.int .i64 0,.bool false,.slice none 0 0] 26 (0,0)):=by rw[hW1];exact a2l _ _ _
 have hk0:W1.heap[w.heap.size]?=some (.cells #[.slice A 0 cp] 22 (0,0)):=by rw[hW1];exact a0o (a0i _ _) _
 have hc0:W1.cell? ⟨w.heap.size,0,none⟩=some (.slice A 0 cp):=(a0a hk0 0).trans rfl;obtain⟨m,hm⟩:∃ m,m=w.heap.size+1:=⟨_,rfl⟩;have HM:=Lib.hid hm;rw[<- hm] at hk1;obtain⟨⟨ca,cb,cc⟩,fa,fb,fc⟩:=cell3 hk1;have HB:=Lib.hid hb1;have HK:=Lib.hid hk1;clear hb1 hk1 hk0;go_enter Tryz.func101,Tryz.ntmps101;go_wp2_with fail;rw[<- hW1,<- hm];clear hW1 hm;go_wp2_with fail;refine bodyPost_ret (a2h (fn:=Tryz.f101) (p:=2) (u:=3) (ty:=26) rfl _ _ _ _ rfl (a1h HK.out)) rfl ?_;exact .inl ⟨rfl,rfl,HB.out⟩
theorem a5j {w w':World} {m j:Nat} {c:Value} (hb:Below w.heap.size w w') (hc:w.cell? ⟨m,j,none⟩=some c) (hf:w.frozen? ⟨m,j,none⟩=false):w'.frozen? ⟨m,j,none⟩=false:=by
 rw[hb.frozen (p:=⟨m,j,none⟩) (World.block_lt_of_cell? w _ hc)];exact hf
def SF (W1:World) (p m n cp:Nat) (A:Option Addr) (W:World):Prop:=Below W1.heap.size W1 W/\W.cell? ⟨p,0,none⟩=some (.slice A n cp)/\W.cell? ⟨m,0,none⟩=some (.int .i64 0)/\W.cell? ⟨m,1,none⟩=some (.bool false)/\W.cell? ⟨m,2,none⟩=some (.slice none 0 0)/\W.frozen? ⟨m,0,none⟩=false/\W.frozen? ⟨m,1,none⟩=false/\W.frozen? ⟨m,2,none⟩=false
theorem SF.keep {W1 W w':World} {p m n cp:Nat} {A:Option Addr} (h:SF W1 p m n cp A W) (hb:Below W.heap.size W w'):SF W1 p m n cp A w':=
 ⟨a0f h.1 hb,a0p hb h.2.1,a0p hb h.2.2.1,a0p hb h.2.2.2.1,a0p hb h.2.2.2.2.1,a5j hb h.2.2.1 h.2.2.2.2.2.1,a5j hb h.2.2.2.1 h.2.2.2.2.2.2.1,a5j hb h.2.2.2.2.1 h.2.2.2.2.2.2.2⟩
theorem SF.drew {W1 W:World} {p m n cp:Nat} {A:Option Addr} (h:SF W1 p m n cp A W):SF W1 p m n cp A W.drew:=
 ⟨h.1.drew,h.2.1,h.2.2.1,h.2.2.2.1,h.2.2.2.2.1,h.2.2.2.2.2.1,h.2.2.2.2.2.2.1,h.2.2.2.2.2.2.2⟩
theorem b6L (A:Option Addr) (cp:Nat) (b:List Int) (w:World) (hr:(Kd.int .u8).C w A b.length b) (hb:Bytes b) (hl:b.length<=1000000) (h0:0<b.length) :
    Calls Tryz.prog 101 #[.slice A b.length cp] w (b6K b w):=by
 have hne:((b.length:Int)==0)=false:=by simp;intro e;subst e;simp at h0
 have hne2:¬ b=[]:=by intro e;subst e;simp at h0
 obtain⟨n,hn⟩:∃ n,n=b.length:=⟨_,rfl⟩;rw[<- hn] at hne;obtain⟨W1,hW1⟩:∃ W1,W1=(w.alloc (.cells #[.slice A n cp] 22)).alloc (.cells #[.int .i64 0,.bool false,.slice none 0 0] 26):=⟨_,rfl⟩;have hb1:Below w.heap.size w W1:=by rw[hW1];exact((Below.refl w.heap.size w).alloc (Nat.le_refl _) _).alloc (by simp) _
 have hk1:W1.heap[w.heap.size+1]?=some (.cells #[.int .i64 0,.bool false,.slice none 0 0] 26 (0,0)):=by rw[hW1];exact a2l _ _ _
 have hk0:W1.heap[w.heap.size]?=some (.cells #[.slice A n cp] 22 (0,0)):=by rw[hW1];exact a0o (a0i _ _) _
 have hc0:W1.cell? ⟨w.heap.size,0,none⟩=some (.slice A n cp):=(a0a hk0 0).trans rfl;obtain⟨m,hm⟩:∃ m,m=w.heap.size+1:=⟨_,rfl⟩;have HM:=Lib.hid hm;rw[<- hm] at hk1;obtain⟨p,hp⟩:∃ p,p=w.heap.size:=⟨_,rfl⟩;have HPp:=Lib.hid hp;rw[<- hp] at hk0 hc0;obtain⟨⟨ca,cb,cc⟩,fa,fb,fc⟩:=cell3 hk1;have s0:SF W1 p m n cp A W1:=⟨Below.refl _ _,hc0,ca,cb,cc,fa,fb,fc⟩;have HK:=Lib.hid (And.intro hk1 hk0);have hrz:=a2K b;have HX:=Lib.hid (And.intro hb (And.intro hl (And.intro h0 (And.intro hb1 hn))));have HR1:=Lib.hid (Kd.C_below hr hb1);have hW256:=a7x b 256;obtain⟨wd,hwd⟩:∃ wd,wd=widN b 256:=⟨_,rfl⟩;have hw256:wd<=256:=by omega
 have HWd:=Lib.hid hwd;have hn6:n<=1000000:=by omega
 have HCW:Hid (∀ W:World,Below W1.heap.size W1 W->Calls Tryz.prog 144 #[.slice A n cp] W λ e w'=>e=.returned (.int .i64 wd)/\Below W.heap.size W w'):=Lib.hid λ W hW=>by
  have:=c6W A cp b W (Kd.C_below HR1.out hW) hl hb;rw[<- hn,<- hwd] at this;exact this
 obtain⟨rz,hrz1⟩:∃ rz,rz=a0r b:=⟨_,rfl⟩;have HRZ:=Lib.hid hrz1;have hpk:pickI n wd 9=(rz:Int):=by rw[hn,hwd,hrz1];exact hrz.1
 have HPk:Hid (∀ W:World,Calls Tryz.prog 143 #[.int .i64 n,.int .i64 wd,.int .i64 9] W λ e w'=>e=.returned (.int .i64 rz)/\Below W.heap.size W w'):=Lib.hid λ W=>by
  have:=b5R n wd 9 W hn6 (by omega);rw[hpk] at this;exact this
 have HMd:Hid (∀ W:World,Below W1.heap.size W1 W->Calls Tryz.prog 142 #[.int .i64 rz,.int .i64 256,.func (Fn.func 145) #[] #[.pointer (some ⟨p,0,none⟩)]] W λ e w'=>∃ Av cv,e=.returned (.agg #[.int .i64 rz,.bool false,.slice Av 256 cv])/\kq.R 84 w' W1.heap.size (λ _=>True) (.slice Av 256 cv) (a0C b)/\Below W.heap.size W w'):=Lib.hid λ W hW=>by
  have h7:=a0h hk0 hW;rw[hn] at h7;have:=c6Y p cp A b W h7 (Kd.C_below HR1.out hW) hl hb;rw[<- hrz1] at this;refine this.mono ?_;rintro e w' ⟨v,rfl,hv,hb⟩;obtain⟨Av,cv,rfl⟩:=Kd.R_slice hv;rw[a7E] at hv ⊢;exact⟨Av,cv,rfl,Kd.R_lower hv hW.size,hb⟩
 have hmf:∀ (fn:Fn) (first cap:Array Value) (w:World),(Instr.makeFunc fn first cap).run Tryz.prog w=.ok (.func fn first cap) w:=λ _ _ _ _=>rfl;rw[<- hn];clear hr hb hl h0 hb1 hk1 hk0 hn hrz hwd hrz1 hpk hW256;go_enter Tryz.func101,Tryz.ntmps101;go_wp2_with fail;rw[<- hW1,<- hm,<- hp];clear hW1 hm hp;go_wp2_with fail
 go_region_law (first
  | (go_simp;go_at_call 144;refine(HCW.out _ (by first | exact And.left ‹SF _ _ _ _ _ _ _› | exact(SF.drew ‹SF _ _ _ _ _ _ _›).1)).mono ?_;rintro e w' ⟨rfl,hb⟩;have s1:=(by first | exact SF.keep ‹_› hb | exact SF.keep (SF.drew ‹_›) hb:SF W1 p m n cp A w');obtain⟨g0,g1,g2,g3,g4,g5,g6,g7⟩:=id s1)
  | (go_simp;go_at_call 143;refine(HPk.out _).mono ?_;rintro e w' ⟨rfl,hb⟩;have s1:=(by first | exact SF.keep ‹_› hb | exact SF.keep (SF.drew ‹_›) hb:SF W1 p m n cp A w');obtain⟨g0,g1,g2,g3,g4,g5,g6,g7⟩:=id s1)
  | (go_simp;go_at_call 142;refine(HMd.out _ (by first | exact And.left ‹SF _ _ _ _ _ _ _› | exact(SF.drew ‹SF _ _ _ _ _ _ _›).1)).mono ?_;rintro e w' ⟨Av,cv,rfl,hv,hb⟩;have s1:=(by first | exact SF.keep ‹_› hb | exact SF.keep (SF.drew ‹_›) hb:SF W1 p m n cp A w');obtain⟨g0,g1,g2,g3,g4,g5,g6,g7⟩:=id s1))
 all_goals
  have HV:=Lib.hid hv;have HS:=Lib.hid s1;go_wp2_with fail;refine bodyPost_ret (a2h (fn:=Tryz.f101) (p:=2) (u:=3) (ty:=26) rfl _ _ _ _ rfl (a1h (a1x (a0h HK.out.1 HS.out.1) _ _ _))) rfl ?_;have hle:w.heap.size<=m:=by have:=HM.out;omega
  have hlt:m<W1.heap.size:=a0g HK.out.1;have hB:Below w.heap.size w w':=a0f HX.out.2.2.2.1 HS.out.1;have h4:kq.R 84 w' w.heap.size (λ k=>k≠m) (.slice Av 256 cv) (a0C b):=Kd.R_mono (Kd.R_lower (Kd.R_bound HV.out) (by omega)) (λ k hk=>by have:=hk.2.1;omega);exact .inr ⟨HX.out.2.2.1,Av,cv,(by rw[<- HRZ.out];rfl),Kd.R_mono (a2g h4 _ _ _) (λ _ _=>trivial),((hB.setCell hle _).setCell hle _).setCell hle _⟩
theorem a5Y (A:Option Addr) (n c k:Nat) (hk:k<=n):∀ W:World,(Instr.slice 22 (.slice A n c) (some (.int .i64 (k:Int))) none none).run Tryz.prog W=.ok (.slice (if c=k then A else A.map (·.add (k*1))) (n-k) (c-k)) W:=by
 intro W;obtain⟨i0,hi0,hz0,hz1,hz2⟩:=info_parts a0I;have:=a6j (P:=Tryz.prog) 22 5 .i64 Tryz.underlying22 hi0 1 hz1 A n c (k:Int) (by omega) (by omega) W;simp only[Int.toNat_natCast] at this;exact this
def a3T (ps:List Int) (w:World) (e:Ending) (w':World):Prop:=
 ((a0z ps).1=0->∃ vm vp,e=.returned (.tuple #[.agg #[.int .i64 (a0z ps).2.1,.bool false,vm],vp,.int .i64 0])/\kq.R 84 w' w.heap.size (λ _=>True) vm (a0z ps).2.2.1/\(Kd.int .u8).R 5 w' w.heap.size (λ _=>True) vp (a0z ps).2.2.2) /\
 ((a0z ps).1≠0->e=.returned (.tuple #[.agg #[.int .i64 0,.bool false,.slice none 0 0],.slice none 0 0,.int .i64 (a0z ps).1]))/\Below w.heap.size w w'
theorem a3a {ps:List Int} {k:Int} {w w':World} (h:a0z ps=(k,0,[],[])) (hk:k≠0) (hb:Below w.heap.size w w'):a3T ps w (.returned (.tuple #[.agg #[.int .i64 0,.bool false,.slice none 0 0],.slice none 0 0,.int .i64 k])) w':=by
 unfold a3T;rw[h];exact⟨λ e=>absurd e hk,λ _=>rfl,hb⟩
def SR (w5:World) (mb rx m0:Nat) (a b c q:Value) (W:World):Prop:=Below w5.heap.size w5 W/\W.cell? ⟨mb,0,none⟩=some a/\W.cell? ⟨mb,1,none⟩=some b/\W.cell? ⟨mb,2,none⟩=some c/\W.cell? ⟨rx,0,none⟩=some q/\W.cell? ⟨m0,0,none⟩=some (.int .i64 0)/\W.cell? ⟨m0,1,none⟩=some (.bool false)/\W.cell? ⟨m0,2,none⟩=some (.slice none 0 0)/\W.frozen? ⟨m0,0,none⟩=false/\W.frozen? ⟨m0,1,none⟩=false/\W.frozen? ⟨m0,2,none⟩=false
theorem SR.keep {w5 W w':World} {mb rx m0:Nat} {a b c q:Value} (h:SR w5 mb rx m0 a b c q W) (hb:Below W.heap.size W w'):SR w5 mb rx m0 a b c q w':=by
 obtain⟨h0,h1,h2,h3,h4,h5,h6,h7,h8,h9,h10⟩:=h;exact⟨a0f h0 hb,a0p hb h1,a0p hb h2,a0p hb h3,a0p hb h4,a0p hb h5,a0p hb h6,a0p hb h7,a5j hb h5 h8,a5j hb h6 h9,a5j hb h7 h10⟩
theorem SR.drew {w5 W:World} {mb rx m0:Nat} {a b c q:Value} (h:SR w5 mb rx m0 a b c q W):SR w5 mb rx m0 a b c q W.drew:=by
 obtain⟨h0,h1,h2,h3,h4,h5,h6,h7,h8,h9,h10⟩:=h;exact⟨h0.drew,h1,h2,h3,h4,h5,h6,h7,h8,h9,h10⟩
theorem b6M (A:Option Addr) (c:Nat) (ps:List Int) (w:World) (hr:(Kd.int .u8).C w A ps.length ps) (hps:Bytes ps) (hl:ps.length<=1000000) (hc:ps.length<=c) :
    Calls Tryz.prog 21 #[.slice A ps.length c] w (a3T ps w):=by
 obtain⟨W,hW⟩:∃ W,W=w.alloc (.cells #[.int .i64 0,.bool false,.slice none 0 0] 26):=⟨_,rfl⟩;have hb1:Below w.heap.size w W:=by rw[hW];exact(Below.refl _ _).alloc (Nat.le_refl _) _
 have hk1:W.heap[w.heap.size]?=some (.cells #[.int .i64 0,.bool false,.slice none 0 0] 26 (0,0)):=by rw[hW];exact a0i _ _
 have HB1:=Lib.hid hb1;have HK1:=Lib.hid hk1;have HR:=Lib.hid (And.intro (Kd.C_below hr hb1) (And.intro hps (And.intro hl hc)));obtain⟨⟨ca,cb,cc⟩,fa,fb,fc⟩:=cell3 hk1
 by_cases h0:ps.length=0
 · have HE:=Lib.hid (show a0z ps=(3,0,[],[]) from by unfold a0z;rw[if_pos h0]);rw[h0];clear hr hps hl hc hb1 hk1 h0;go_enter Tryz.func21,Tryz.ntmps21;go_wp2_with fail;refine bodyPost_ret (a1y (fn:=Tryz.f21) (p:=2) (u:=3) (v:=4) (ty:=26) rfl _ _ _ _ rfl (a1h (a0i _ _))) rfl ?_;exact a3a HE.out (by decide) ((Below.refl _ _).alloc (Nat.le_refl _) _)
 have hne:((ps.length:Int)==0)=false:=by simp;intro e;subst e;simp at h0
 obtain⟨ad,hA,hcx⟩:=a0v (Kd.C_below hr hb1) 0 (by omega);subst hA;have e0:ad.add 0=ad:=by simp[Addr.add]
 rw[e0] at hcx;have hx:=hps _ (a1G (by omega:0<ps.length));obtain⟨v,hv⟩:∃ v:Nat,v=(ps.getD 0 0).toNat:=⟨_,rfl⟩;have hv2:ps.getD 0 0=(v:Int):=by omega
 rw[hv2] at hcx hx;have hI0:(0:Int)<(ps.length:Int):=by omega
 by_cases hlog:5<=v/\v<=9
 · have d1:decide ((v:Int)<5)=false:=decide_eq_false (by omega);have d2:decide ((9:Int)<(v:Int))=false:=decide_eq_false (by omega);have hcW:=hcx;rw[hW] at hcx;have hsl0:=a5Y (some ad) ps.length c 1 (by omega);obtain⟨A1,hA1⟩:∃ A1,A1=(if c=1 then some ad else (some ad).map (·.add (1*1))):=⟨_,rfl⟩;rw[<- hA1] at hsl0;have hsl:∀ W:World,(Instr.slice 22 (.slice (some ad) ps.length c) (some (.int .i64 1)) none none).run Tryz.prog W=.ok (.slice A1 (ps.length-1) (c-1)) W:=hsl0
   have hC1:(Kd.int .u8).C W A1 (ps.drop 1).length (ps.drop 1):=by
    have:=Kd.C_drop (c:=c) (m:=1) HR.out.1 (by omega) hc;rw[hA1];exact this
   have hl1:(ps.drop 1).length=ps.length-1:=List.length_drop;have hDT:=c6K A1 (c-1) (ps.drop 1) W hC1 (λ x hx=>hps x (List.mem_of_mem_drop hx)) (by omega) (by omega);rw[hl1] at hDT;unfold a2u at hDT;obtain⟨dt,hdt⟩:∃ dt,dt=dirT (ps.drop 1):=⟨_,rfl⟩;rw[<- hdt] at hDT;have HDT:=Lib.hid hDT;have HV:=Lib.hid (And.intro hv (And.intro hlog (And.intro hdt (And.intro h0 hcW))));clear hr hps hl hc hb1 hk1 h0 hv hv2 e0 hx hlog hA1 hC1 hl1 hDT hdt hcW hsl0;go_enter Tryz.func21,Tryz.ntmps21;go_wp2_with fail;rw[<- hW];clear hW hcx;refine HDT.out.mono ?_;rintro e w1 ⟨vl,rfl,hvl,hb⟩;have hk2:=a0h HK1.out hb;have hcx1:w1.cell? ad=some (.int .u8 v):=a0p hb HV.out.2.2.2.2;have HB2:=Lib.hid (a0f HB1.out hb);have HWs:=Lib.hid (a0g HK1.out);have HK2:=Lib.hid hk2;obtain⟨⟨ca,cb,cc⟩,fa,fb,fc⟩:=cell3 hk2
   by_cases hz:dt.1=0
   · have hlst:dt.2.length<=256/\(∀ x∈dt.2,0<=x/\x<256)/\33<=ps.length:=by
       have e:=HV.out.2.2.1;unfold dirT at e
       split at e
       · rw[e] at hz;cases hz
       · split at e
         · rw[e] at hz;cases hz
         · rename_i h32 _;rw[List.length_drop] at h32;rw[e];refine⟨a7T _ 256,λ x hx=>?_,by omega⟩;obtain⟨c,rfl,h1,_⟩:=a7U hx;omega
     obtain⟨Al,cl,rfl⟩:=Kd.R_slice hvl;have HL:=Lib.hid (And.intro hvl (And.intro hlst hb));have hmk:∀ w:World,(Instr.makeSlice 24 (.int .i64 256) (.int .i64 256)).run Tryz.prog w=.ok (.slice (some ⟨w.heap.size,0,none⟩) 256 256) (w.alloc (.cells (madeCells #[.slice none 0 0] 256) 84)):=λ w=>a9L 256 (by omega) w;have hwr:IntKind.i64.wrap (v:Int)=(v:Int):=i64_in _ (by have:=HV.out.2.1;omega);have hca1:∀ o:Obj,(w1.alloc o).cell? ad=some (.int .u8 v):=λ o=>a0p ((Below.refl _ _).alloc (Nat.le_refl _) o) hcx1;have hca2:∀ o o':Obj,((w1.alloc o).alloc o').cell? ad=some (.int .u8 v):=λ o o'=>a0p (((Below.refl w1.heap.size w1).alloc (Nat.le_refl _) o).alloc (by simp) o') hcx1;clear hvl hlst hb hk2;rw[hz];go_wp2_with fail;go_cut [7] (λ s7 wx=>a9O v w1 s7 wx)
     case first=>
      go_region
      all_goals
       go_wp2_with fail;go_meet;refine' b5l _ ?_ ?_ ?_ ?_ ?_ ?_
       rotate_left 1
       · repeat' (with_reducible (first | exact a0i _ _ | exact a2l _ _ _ | refine a9M ?_ | refine a0o ?_ _))
       · repeat' (with_reducible (first | refine a5Q _ _ _ ?_ ?_ | refine b5h _ _ _ _ ?_ ?_ | refine Kd.R_drew ?_ | refine Kd.R_alloc ?_ _))
         all_goals omega
       · exact(((Below.refl w1.heap.size w1).alloc (Nat.le_refl _) _).alloc (by simp) _).drew
       all_goals omega
     case rest=>
      obtain⟨mb,g,rfl,hmb,hg,hne7,hblk,hrow,hbl⟩:=hcut;have h33:=HL.out.2.1.2.2;have hsl0:=a5Y (some ad) ps.length c 33 h33;obtain⟨A3,hA3⟩:∃ A3,A3=(if c=33 then some ad else (some ad).map (·.add (33*1))):=⟨_,rfl⟩;rw[<- hA3] at hsl0;have hsl3:∀ W:World,(Instr.slice 22 (.slice (some ad) ps.length c) (some (.int .i64 33)) none none).run Tryz.prog W=.ok (.slice A3 (ps.length-33) (c-33)) W:=hsl0;have hBc:Below W.heap.size W wc:=a0f HL.out.2.2 hbl
      have hC3:(Kd.int .u8).C wc A3 (ps.drop 33).length (ps.drop 33):=by
       have:=Kd.C_drop (c:=c) (m:=33) (Kd.C_below HR.out.1 hBc) h33 HR.out.2.2.2;rw[hA3];exact this
      obtain⟨ps3,hps3⟩:∃ ps3,ps3=ps.drop 33:=⟨_,rfl⟩;have hl3:ps3.length=ps.length-33:=by rw[hps3];exact List.length_drop
      have hb3:Bytes ps3:=by rw[hps3];exact λ x hx=>HR.out.2.1 x (List.mem_of_mem_drop hx)
      rw[<- hps3] at hC3
      have hnw:=a9X A3 (c-33) ps3 wc hC3 (by have:=HR.out.2.2.1;omega) (by have:=HR.out.2.2.2;omega) (λ h=>by
       rw[hA3] at h;split at h <;> cases h)
      rw[hl3] at hnw;have HNw:=Lib.hid hnw;have HM:=Lib.hid (And.intro hmb (And.intro hg (And.intro hne7 (And.intro hblk (And.intro hrow hbl)))));have HP3:=Lib.hid (And.intro hps3 (And.intro hl3 (And.intro hb3 hBc)));clear hmb hg hne7 hblk hrow hbl h33 hsl0 hA3 hBc hC3 hps3 hl3 hb3 hnw;have hmf:∀ (fn:Fn) (first cap:Array Value) (w:World),(Instr.makeFunc fn first cap).run Tryz.prog w=.ok (.func fn first cap) w:=λ _ _ _ _=>rfl;go_wp2_with fail;refine HNw.out.mono ?_;rintro e w2 ⟨p,rfl,hp,hrd,hb⟩;obtain⟨w3,hw3⟩:∃ w3,w3=w2.alloc (.cells #[.pointer (some ⟨p,0,none⟩)] 87):=⟨_,rfl⟩;obtain⟨rx,hrx⟩:∃ rx,rx=w2.heap.size:=⟨_,rfl⟩;have hb23:Below w2.heap.size w2 w3:=by rw[hw3];exact(Below.refl _ _).alloc (Nat.le_refl _) _
      have hkx:w3.heap[rx]?=some (.cells #[.pointer (some ⟨p,0,none⟩)] 87 (0,0)):=by rw[hw3,hrx];exact a0i _ _
      obtain⟨_,_,hpb,_⟩:=hrd.ex;have hprx:p<rx:=by rw[hrx];exact a0g hpb
      have hbc3:Below wc.heap.size wc w3:=a0f hb hb23;have hmbl:=a0g HM.out.2.2.2.1;have hgl:=((Kd.R_bound HM.out.2.2.2.2.1).1 g rfl).2.2.1;have h1s:=HB2.out.size;have h2s:=HL.out.2.2.size
      have hS1:S1 rx mb g p wc.heap.size v W.heap.size ps3 (List.replicate 256 []) 0 W w3:=by
       refine⟨hrd.below hb23,hkx,a0h HM.out.2.2.2.1 hbc3,?_,a0f (a0f HL.out.2.2 HM.out.2.2.2.2.2) hbc3⟩;exact Kd.R_below (Kd.R_lower (Kd.R_mono (Kd.R_bound HM.out.2.2.2.2.1) (λ k hk=>⟨by have:=hk.2.2.1;omega,by have:=hk.2.2.1;omega,hk.1⟩)) h2s) hbc3
      have hL1:(Kd.int .i64).R 3 w3 W.heap.size (λ k=>k<g/\k<mb) (.slice Al dt.2.length cl) dt.2:=by
       have hx:=HL.out.1;have h3:=HM.out.1;have h4:=HM.out.2.1;exact Kd.R_below (Kd.R_below (Kd.R_mono (Kd.R_bound hx) (λ k hk=>⟨by have:=hk.2.2.1;omega,by have:=hk.2.2.1;omega⟩)) HM.out.2.2.2.2.2) hbc3
      have hEa:=c6M Al cl dt.2 rx mb g p wc.heap.size v W.heap.size ps3 (List.replicate 256 []) 0 W w3 hS1 hL1 HL.out.2.1.2.1 HL.out.2.1.1 HP3.out.2.2.1 (by have:=HP3.out.2.1;have:=HR.out.2.2.1;omega) (Nat.zero_le _) (by have:=HV.out.2.1;omega) (by have:=HV.out.2.1;omega) (by have:=HM.out.2.1;omega) hgl hp hprx hmbl (by have:=HM.out.1;omega) HM.out.2.2.1;unfold b6A at hEa;have hHe:(hdrsT ps3 v dt.2 (List.replicate 256 []) 0).1=0->(hdrsT ps3 v dt.2 (List.replicate 256 []) 0).2.2<=8*ps3.length:=b6n _ _ _ _ _ (Nat.zero_le _);obtain⟨T,hT⟩:∃ T,T=hdrsT ps3 v dt.2 (List.replicate 256 []) 0:=⟨_,rfl⟩;rw[<- hT] at hEa hHe;have HEa:=Lib.hid (And.intro hEa (And.intro hHe (And.intro hT hbc3)));have HPx:=Lib.hid (And.intro hp (And.intro hprx (And.intro hmbl hgl)));clear hS1 hL1 hEa hHe hT hrd hb hb23 hkx hpb hbc3 hmbl hgl h1s h2s hp hprx;go_wp2_with fail;rw[<- hw3,<- hrx];clear hw3 hrx
      have HSM:=Lib.hid (show a0z ps=if T.1≠0 then (T.1,0,[],[]) else if T.2.2%8≠0/\(ps3.getD (T.2.2/8) 0).toNat/2^(T.2.2%8)≠0 then (4,0,[],[]) else (0,v,T.2.1,ps3.drop ((T.2.2+7)/8)) from by
       have hlg:=HV.out.2.1;unfold a0z;rw[if_neg HV.out.2.2.2.1,<- HV.out.1,if_neg (by omega),<- HV.out.2.2.1,if_neg (λ h=>h hz),<- HP3.out.1];have e:a2t=List.replicate 256 []:=rfl;rw[e,<- HEa.out.2.2.1])
      refine HEa.out.1.mono ?_;rintro e w4 ⟨t1,t2⟩
      by_cases hT0:T.1=0
      · obtain⟨rfl,hS4⟩:=t1 hT0;have HS4:=Lib.hid hS4;have hkx4:=hS4.kb;have hcx4:w4.cell? ⟨rx,0,none⟩=some (.pointer (some ⟨p,0,none⟩)):=(a0a hkx4 0).trans rfl;have HPd:=Lib.hid (b5u wc.heap.size p ps3 T.2.2 w4 hS4.rd HP3.out.2.2.1 (by have:=HP3.out.2.1;have:=HR.out.2.2.1;omega) (HEa.out.2.1 hT0));clear t1 t2 hS4 hkx4;go_wp2_with fail;refine HPd.out.mono ?_;rintro e w5 ⟨rfl,p2,p3⟩;have hO5:=Lib.hid p3
        have hk5:w5.heap[w.heap.size]?=some (.cells #[.int .i64 0,.bool false,.slice none 0 0] 26 (0,0)):=by
         rw[p3.block _ (by have:=HS4.out.on.size;have:=HWs.out;omega) (by have:=HPx.out.1;have:=HP3.out.2.2.2.size;have:=HWs.out;omega)];exact(HS4.out.on.block _ HWs.out).trans HK1.out
        have HK5:=Lib.hid hk5;have HB5:Hid (Below w.heap.size w w5):=Lib.hid ((HB1.out.trans (HS4.out.on.mono HB1.out.size)).trans (p3.below (by have:=HB1.out.size;have:=HS4.out.on.size;omega) (λ k hk=>by have:=HPx.out.1;have:=HP3.out.2.2.2.size;have:=HB1.out.size;omega)));have hcx5:w5.cell? ⟨rx,0,none⟩=some (.pointer (some ⟨p,0,none⟩)):=(a0a ((p3.block rx (a0g HS4.out.kb) (by have:=HPx.out.2.1;omega)).trans HS4.out.kb) 0).trans rfl;obtain⟨⟨ca,cb,cc⟩,fa,fb,fc⟩:=cell3 hk5
        cases hpd:padOk ps3 T.2.2 with
        | false=>
         have HE:Hid (a0z ps=(4,0,[],[])):=by
          have:=HSM.out;rw[if_neg (λ h=>h hT0)] at this;unfold padOk at hpd;rw[if_pos (by have h:=of_decide_eq_false hpd;exact Classical.not_not.1 h)] at this;exact Lib.hid this
         clear p2 p3 hk5 hpd hT0;go_wp2_with fail;refine bodyPost_ret (a1y (fn:=Tryz.f21) (p:=2) (u:=3) (v:=4) (ty:=26) rfl _ _ _ _ rfl (a1h (a1x HK5.out _ _ _))) rfl ?_;exact a3a HE.out (by decide) (((HB5.out.setCell (Nat.le_refl _) _).setCell (Nat.le_refl _) _).setCell (Nat.le_refl _) _)
        | true=>
         have HE:Hid (a0z ps=(0,v,T.2.1,ps3.drop ((T.2.2+7)/8))):=by
          have:=HSM.out;rw[if_neg (λ h=>h hT0)] at this;unfold padOk at hpd;rw[if_neg (of_decide_eq_true hpd)] at this;exact Lib.hid this
         have km5:w5.heap[mb]?=some (.cells #[.int .i64 v,.bool false,.slice (some ⟨g,0,none⟩) 256 256] 26 (0,0)):=(p3.block mb (a0g HS4.out.km) (by have:=HPx.out.2.2.1;have:=HPx.out.1;omega)).trans HS4.out.km;obtain⟨⟨b0,b1,b2⟩,-⟩:=cell3 km5;have hle5:8*((T.2.2+7)/8)<=8*ps3.length:=by have:=HEa.out.2.1 hT0;omega
         have hl35:ps3.length<=1000000:=by have:=HP3.out.2.1;have:=HR.out.2.2.1;omega
         have HRs:Hid (∀ W':World,Below w5.heap.size w5 W'->Calls Tryz.prog 70 #[.pointer (some ⟨p,0,none⟩)] W' (b5v ps3 (8*((T.2.2+7)/8)) W')):=Lib.hid λ W' hW'=>b5w wc.heap.size p ps3 _ W' ((p2 hpd).below hW') hl35 hle5;have s0:SR w5 mb rx w.heap.size (.int .i64 v) (.bool false) (.slice (some ⟨g,0,none⟩) 256 256) (.pointer (some ⟨p,0,none⟩)) w5:=⟨Below.refl _ _,b0,b1,b2,hcx5,ca,cb,cc,fa,fb,fc⟩;clear p2 p3 hk5 hpd km5 hle5 hl35;go_wp2_with fail;go_region_law (go_simp;go_at_call 70;refine(HRs.out _ (by first | exact And.left ‹SR _ _ _ _ _ _ _ _ _› | exact(SR.drew ‹SR _ _ _ _ _ _ _ _ _›).1)).mono ?_;rintro e w6 ⟨vp,rfl,hvp,hb⟩;have s1:=(by first | exact SR.keep ‹_› hb | exact SR.keep (SR.drew ‹_›) hb:SR w5 mb rx w.heap.size (.int .i64 v) (.bool false) (.slice (some ⟨g,0,none⟩) 256 256) (.pointer (some ⟨p,0,none⟩)) w6);obtain⟨g0,g1,g2,g3,g4,g5,g6,g7,g8,g9,g10⟩:=id s1)
         all_goals
          have HV6:=Lib.hid (And.intro hvp s1);clear hvp hb;go_wp2_with fail;refine bodyPost_ret (a1y (fn:=Tryz.f21) (p:=2) (u:=3) (v:=4) (ty:=26) rfl _ _ _ _ rfl (a1h (a1x (a0h HK5.out HV6.out.2.1) _ _ _))) rfl ?_;have hlt5:w.heap.size<w5.heap.size:=a0g HK5.out;have hB6:Below w.heap.size w w6:=a0f HB5.out HV6.out.2.1;refine⟨(λ _=>?_),(λ h=>by rw[HE.out] at h;exact absurd rfl h),((hB6.setCell (Nat.le_refl _) _).setCell (Nat.le_refl _) _).setCell (Nat.le_refl _) _⟩;rw[HE.out];have e8:(8*((T.2.2+7)/8)+7)/8=(T.2.2+7)/8:=by omega
          have hp6:=HV6.out.1;rw[e8] at hp6;have hWlt:=HWs.out;refine⟨_,_,rfl,?_,?_⟩
          · have h4:kq.R 84 w5 W.heap.size (λ k=>W.heap.size<=k) (.slice (some ⟨g,0,none⟩) 256 256) T.2.1:=Kd.R_mono (Kd.R_bound (Kd.R_step HS4.out.row (λ k hk hlt=>hO5.out.block k hlt hk.1))) (λ k hk=>hk.2.1);have h5:kq.R 84 w6 w.heap.size (λ k=>k≠w.heap.size) (.slice (some ⟨g,0,none⟩) 256 256) T.2.1:=Kd.R_mono (Kd.R_lower (Kd.R_below h4 HV6.out.2.1) (Nat.le_of_lt hWlt)) (λ k hk=>by omega);exact Kd.R_mono (a2g h5 _ _ _) (λ _ _=>trivial)
          · have h4:(Kd.int .u8).R 5 w6 w.heap.size (λ k=>k≠w.heap.size) vp (ps3.drop ((T.2.2+7)/8)):=Kd.R_mono (Kd.R_lower (Kd.R_bound hp6) (Nat.le_of_lt hlt5)) (λ k hk=>Nat.ne_of_gt (Nat.lt_of_lt_of_le hlt5 hk.2.1));exact Kd.R_mono (a2g h4 _ _ _) (λ _ _=>trivial)
      · obtain⟨rfl,hb4⟩:=t2 hT0;have HE:Hid (a0z ps=(T.1,0,[],[])):=by have:=HSM.out;rw[if_pos hT0] at this;exact Lib.hid this
        have HB4:=Lib.hid (HB1.out.trans (hb4.mono HB1.out.size));have hk4:w4.heap[w.heap.size]?=some (.cells #[.int .i64 0,.bool false,.slice none 0 0] 26 (0,0)):=(hb4.block _ HWs.out).trans HK1.out;have HK4:=Lib.hid hk4;obtain⟨⟨ca,cb,cc⟩,fa,fb,fc⟩:=cell3 hk4;have hT2:(T.1 != 0)=true:=by simpa using hT0
        clear t1 t2 hb4 hk4;go_wp2_with fail;refine bodyPost_ret (a1y (fn:=Tryz.f21) (p:=2) (u:=3) (v:=4) (ty:=26) rfl _ _ _ _ rfl (a1h (a1x HK4.out _ _ _))) rfl ?_;exact a3a HE.out hT0 (((HB4.out.setCell (Nat.le_refl _) _).setCell (Nat.le_refl _) _).setCell (Nat.le_refl _) _)
   · have HE:=Lib.hid (show a0z ps=(dt.1,0,[],[]) from by
       have hlg:=HV.out.2.1;unfold a0z;rw[if_neg HV.out.2.2.2.1,<- HV.out.1,if_neg (by omega),<- HV.out.2.2.1,if_pos hz])
     have hz2:(dt.1 != 0)=true:=by simpa using hz
     obtain⟨Al,cl,rfl⟩:=Kd.R_slice hvl;clear hvl hb hk2;go_wp2_with fail;refine bodyPost_ret (a1y (fn:=Tryz.f21) (p:=2) (u:=3) (v:=4) (ty:=26) rfl _ _ _ _ rfl (a1h (a1x HK2.out _ _ _))) rfl ?_;exact a3a HE.out hz (((HB2.out.setCell (Nat.le_refl _) _).setCell (Nat.le_refl _) _).setCell (Nat.le_refl _) _)
 · have HE:=Lib.hid (show a0z ps=(13,0,[],[]) from by unfold a0z;rw[if_neg h0,<- hv,if_pos (by omega)])
   have hd:(decide ((v:Int)<5)=true)\/(decide ((v:Int)<5)=false/\decide ((9:Int)<(v:Int))=true):=by
    by_cases h5:v<5
    · exact .inl (decide_eq_true (by omega))
    · exact .inr ⟨decide_eq_false (by omega),decide_eq_true (by omega)⟩
   rw[hW] at hcx;clear hr hps hl hc hb1 hk1 h0 hv hv2 e0 hx hlog ca cb cc fa fb fc HB1 HK1 HR hW;rcases hd with hd | ⟨hd,hd2⟩
   all_goals
    go_enter Tryz.func21,Tryz.ntmps21;go_wp2_with fail;refine bodyPost_ret (a1y (fn:=Tryz.f21) (p:=2) (u:=3) (v:=4) (ty:=26) rfl _ _ _ _ rfl (a1h (a0i _ _))) rfl ?_;exact a3a HE.out (by decide) ((Below.refl _ _).alloc (Nat.le_refl _) _)
theorem b6P:a0k 0 1=[false]:=by decide
theorem b6Q:a0k 1 1=[true]:=by decide
theorem c7d {l:List Int} (h:Asc l) {i:Nat} (hi:i<=l.length):putN l i<=256:=by
 cases i with
 | zero=>exact Nat.zero_le _
 | succ i=>
  show(l.getD i 0).toNat+1<=256
  have:=h.hi _ (a1G (show i<l.length by omega));omega
theorem a8e {l:List Int} {n:Nat} (hn:n<=256):((dirB l).take n).length=n:=by
 rw[List.length_take,a2L];omega
def DRel (P:Nat) (l:List Int) (n:Nat) (W wr:World):Prop:=PutRel P P (.slice none 0 0) ((dirB l).take n) W wr
theorem DRel.cell {P n:Nat} {l:List Int} {W wr:World} (h:DRel P l n W wr) (hn:n<=256):wr.cell? ⟨P,1,none⟩=some (.int .i64 n):=by
 obtain⟨v,h1,_⟩:=h;have:=(a0a h1.blk 1).trans rfl;rw[a8e hn] at this;exact this
theorem DRel.below {P n:Nat} {l:List Int} {w W wr:World} (h:DRel P l n W wr) (hb:Below w.heap.size w W) (hp:w.heap.size<=P):Below w.heap.size w wr:=PutRel.bel h hb hp (λ k hk=>by simp[Value.ownBlock] at hk)
def c7e (l:List Int) (w:World) (e:Ending) (w':World):Prop:=∃ v,e=.returned (.tuple #[v,.bool true])/\(Kd.int .u8).R 5 w' w.heap.size (λ _=>True) v (dirL l)/\Below w.heap.size w w'
theorem c7f (A:Option Addr) (cp:Nat) (l:List Int) (w:World) (hr:(Kd.int .i64).C w A l.length l) (hA:Asc l) (hl:l.length<=256) :
    Calls Tryz.prog 151 #[.slice A l.length cp] w (c7e l w):=by
 obtain⟨ad,rfl,hcs⟩:=a5v hr hA.pos;have h00:=hcs 0 hA.pos;rw[hA.zero,Addr.add_zero'] at h00;obtain⟨W,hW⟩:∃ W,W=w.alloc (.cells #[.slice none 0 0,.int .i64 0] 229):=⟨_,rfl⟩;have hb1:Below w.heap.size w W:=by rw[hW];exact(Below.refl _ _).alloc (Nat.le_refl _) _
 have hw0:WrVal W w.heap.size w.heap.size (.slice none 0 0) []:=by rw[hW];exact b0j w
 obtain⟨P,hP⟩:∃ P,P=w.heap.size:=⟨_,rfl⟩;have HPW:Hid (P<=W.heap.size):=by rw[hP];exact Lib.hid hb1.size
 rw[<- hP] at hw0;have HP:=Lib.hid hP;have HR:=Lib.hid (And.intro hr (And.intro hA hl));have HW0:=Lib.hid (And.intro hb1 hw0);have hne:((l.length:Int)==0)=false:=by have:=hA.pos;simp;intro e;subst e;simp at this
 have hpos:0<l.length:=hA.pos;have hl256:l.length<=256:=hl;have hne0:¬ l=[]:=by intro e;subst e;simp at hpos
 clear hr hA hl hb1 hw0 hcs;go_enter Tryz.func151,Tryz.ntmps151;go_wp2_with fail;refine(a6R _).mono ?_;rw[<- hW,<- hP];clear hW hP h00;rintro e w1 ⟨rfl,rfl⟩;go_wp2_with fail;go_loopw [19] (λ kv wr=>∃ i:Nat,i<=l.length/\kv=.int .i64 i/\Hid (DRel P l (putN l i) w1 wr)) (λ kv _=>l.length-(intOf kv).toNat)
 case atStart=>exact⟨0,by omega,rfl,Lib.hid ⟨_,HW0.out.2,.inl rfl,Only.refl _ _⟩⟩
 case round=>
  obtain⟨i,hi,rfl,H⟩:=hrel
  by_cases hlt:i<l.length
  · obtain⟨c,hc,hc256⟩:=HR.out.2.1.get hlt;have hB:=H.out.below HW0.out.1 (by have:=HP.out;omega);obtain⟨ad2,hA2,hcx⟩:=a0v (Kd.C_below HR.out.1 hB) i hlt
    cases hA2
    rw[hc] at hcx
    have hgap:Hid ((¬ 0<i/\i=0)\/(0<i/\∃ j c':Nat,(i:Int)-1=(j:Int)/\wr.cell? (ad.add j)=some (.int .i64 c')/\c'<c/\(j:Int)<(l.length:Int))):=by
     rcases Nat.eq_zero_or_pos i with h0 | h0
     · exact Lib.hid (.inl ⟨by omega,h0⟩)
     · obtain⟨c',hc',_⟩:=HR.out.2.1.get (i:=i-1) (by omega);obtain⟨ad3,hA3,hcx'⟩:=a0v (Kd.C_below HR.out.1 hB) (i-1) (by omega)
       cases hA3
       rw[hc'] at hcx';have h2:=HR.out.2.1.asc (i-1) (by omega);rw[show i-1+1=i by omega] at h2;exact Lib.hid (.inr ⟨h0,i-1,c',by omega,hcx',by omega,by omega⟩)
    have hpl:=HR.out.2.1.put_le hlt hc;have HC:=Lib.hid (And.intro hc (And.intro hc256 (And.intro hpl hlt)));have hc2:c<256:=hc256;have HZ1:=Lib.hid (c6k (l:=l) hlt hc hc2);have HZ0:Hid (∀ n,putN l i<=n->n<c->(dirB l).take (n+1)=(dirB l).take n++[false]):=Lib.hid λ n g1 g2=>c6j HR.out.2.1 hlt hc hc2 g1 g2;obtain⟨i1,hi1⟩:∃ i1,i1=i+1:=⟨_,rfl⟩;rw[<- hi1] at HZ1;have HI:Hid (DRel P l (putN l i1) w1 wr->i1<=l.length/\(i1:Int)=(i:Int)+1):=Lib.hid λ _=>⟨by omega,by omega⟩;have HI1:Hid (i1<=l.length/\(i1:Int)=(i:Int)+1):=Lib.hid ⟨by omega,by omega⟩;obtain⟨N0,hN0⟩:∃ N0,N0=putN l i:=⟨_,rfl⟩;rw[<- hN0] at H hpl HZ0;have HPl:=Lib.hid hpl;clear hc hc256 hB hpl hN0 hi1 HC HI;have hd256:decide ((256:Int)<=(c:Int))=false:=decide_eq_false (by omega);rcases hgap.out with ⟨hz,hz0⟩ | ⟨hz,j,c',hij,hcy,hcc,hjl⟩
    · subst hz0;rw[Addr.add_zero'] at hcx;rw[show((0:Nat):Int)=0 from rfl] at HI1 ⊢;clear hz hgap;go_wp2_with fail;go_loopw [] (λ wr=>Hid (∃ n,N0<=n/\n<=c/\DRel P l n w1 wr)) (λ wr=>c-(intOf ((wr.cell? ⟨P,1,none⟩).getD undef)).toNat)
      case atStart=>exact Lib.hid ⟨_,Nat.le_refl _,HPl.out,H.out⟩
      case round=>
       obtain⟨n,hn1,hn2,hn3⟩:=hrel.out;obtain⟨v1,k1,k2,k3⟩:=hn3;have hcell:=DRel.cell ⟨v1,k1,k2,k3⟩ (show n<=256 by omega);have hlen:=a8e (l:=l) (show n<=256 by omega);have HK:=Lib.hid (And.intro k1 (And.intro k2 k3));have HBs:Hid (P<=wr.heap.size):=Lib.hid (Nat.le_trans HPW.out k3.size);have HN:=Lib.hid (And.intro hn1 hn2);have HBt:=Lib.hid (b3C P P v1 _ wr k1);rw[hlen] at HBt;have HLe:Hid (((dirB l).take n).length<=900000):=Lib.hid (by omega);have HCell:=Lib.hid hcell;clear k1 k2 k3 hn1 hlen hrel hcell;go_wp2_with fail;refine HBt.out.mono ?_;rintro e w2 ⟨rfl,rfl⟩
       by_cases hnc:n<c
       · have hz2:=HZ0.out n HN.out.1 hnc;have HZ2:=Lib.hid hz2;clear hz2;go_wp2_with fail;refine(a2q P P v1 _ 0 1 wr HK.out.1 HBs.out HLe.out (by decide) (by decide)).mono ?_;rintro e w3 ⟨rfl,hp⟩
         have HP3:Hid (DRel P l (n+1) w1 w3):=Lib.hid (by
          have:=PutRel.trans HK.out hp;unfold DRel;rw[HZ2.out,<- b6P];exact this)
         clear hp;go_wp2_with fail;go_roundw
         case rel=>exact Lib.hid ⟨n+1,by have:=HN.out.1;omega,by omega,HP3.out⟩
         case measure=>
          rw[HP3.out.cell (by omega),HCell.out];simp[intOf];omega
       · obtain rfl:n=c:=by omega
         go_wp2_with fail;refine(a2q P P v1 _ 1 1 wr HK.out.1 HBs.out HLe.out (by decide) (by decide)).mono ?_;rintro e w3 ⟨rfl,hp⟩
         have HP3:Hid (DRel P l (putN l i1) w1 w3):=Lib.hid (by
          have:=PutRel.trans HK.out hp;unfold DRel;rw[HZ1.out,<- b6Q];exact this)
         clear hp;go_wp2_with fail;go_roundw
         case rel=>exact⟨i1,HI1.out.1,by first | (rw[HI1.out.2];done) | (rw[HI1.out.2];rfl) | (rw[HI1.out.2];go_num),HP3.out⟩
         case measure=>first | (simp[intOf];done) | (simp[intOf];omega)
    · clear hgap;have hcd:decide (c<=c')=false:=decide_eq_false (by omega);clear hcc;go_wp2_with fail;go_loopw [] (λ wr=>Hid (∃ n,N0<=n/\n<=c/\DRel P l n w1 wr)) (λ wr=>c-(intOf ((wr.cell? ⟨P,1,none⟩).getD undef)).toNat)
      case atStart=>exact Lib.hid ⟨_,Nat.le_refl _,HPl.out,H.out⟩
      case round=>
       obtain⟨n,hn1,hn2,hn3⟩:=hrel.out;obtain⟨v1,k1,k2,k3⟩:=hn3;have hcell:=DRel.cell ⟨v1,k1,k2,k3⟩ (show n<=256 by omega);have hlen:=a8e (l:=l) (show n<=256 by omega);have HK:=Lib.hid (And.intro k1 (And.intro k2 k3));have HBs:Hid (P<=wr.heap.size):=Lib.hid (Nat.le_trans HPW.out k3.size);have HN:=Lib.hid (And.intro hn1 hn2);have HBt:=Lib.hid (b3C P P v1 _ wr k1);rw[hlen] at HBt;have HLe:Hid (((dirB l).take n).length<=900000):=Lib.hid (by omega);have HCell:=Lib.hid hcell;clear k1 k2 k3 hn1 hlen hrel hcell;go_wp2_with fail;refine HBt.out.mono ?_;rintro e w2 ⟨rfl,rfl⟩
       by_cases hnc:n<c
       · have hz2:=HZ0.out n HN.out.1 hnc;have HZ2:=Lib.hid hz2;clear hz2;go_wp2_with fail;refine(a2q P P v1 _ 0 1 wr HK.out.1 HBs.out HLe.out (by decide) (by decide)).mono ?_;rintro e w3 ⟨rfl,hp⟩
         have HP3:Hid (DRel P l (n+1) w1 w3):=Lib.hid (by
          have:=PutRel.trans HK.out hp;unfold DRel;rw[HZ2.out,<- b6P];exact this)
         clear hp;go_wp2_with fail;go_roundw
         case rel=>exact Lib.hid ⟨n+1,by have:=HN.out.1;omega,by omega,HP3.out⟩
         case measure=>
          rw[HP3.out.cell (by omega),HCell.out];simp[intOf];omega
       · obtain rfl:n=c:=by omega
         go_wp2_with fail;refine(a2q P P v1 _ 1 1 wr HK.out.1 HBs.out HLe.out (by decide) (by decide)).mono ?_;rintro e w3 ⟨rfl,hp⟩
         have HP3:Hid (DRel P l (putN l i1) w1 w3):=Lib.hid (by
          have:=PutRel.trans HK.out hp;unfold DRel;rw[HZ1.out,<- b6Q];exact this)
         clear hp;go_wp2_with fail;go_roundw
         case rel=>exact⟨i1,HI1.out.1,by first | (rw[HI1.out.2];done) | (rw[HI1.out.2];rfl) | (rw[HI1.out.2];go_num),HP3.out⟩
         case measure=>first | (simp[intOf];omega) | (simp[intOf];done)
  · obtain rfl:i=l.length:=by omega
    have hB:=H.out.below HW0.out.1 (by have:=HP.out;omega);have hpn:=c7d HR.out.2.1 (Nat.le_refl l.length);obtain⟨v1,k1,k2,k3⟩:=H.out;have hE:=c6m HR.out.2.1;obtain⟨n,hn⟩:∃ n,n=putN l l.length:=⟨_,rfl⟩;rw[<- hn] at k1 hE hpn;have hlen:=a8e (l:=l) hpn;obtain⟨bs,hbs⟩:∃ bs,bs=(dirB l).take n:=⟨_,rfl⟩;rw[<- hbs] at k1 hE hlen;have HK:=Lib.hid k1;have HE:=Lib.hid hE;have HB:=Lib.hid hB;have hbl:(packB bs).length=(n+7)/8:=by rw[a0B,hlen]
    have HL:=Lib.hid (And.intro hlen hbl);obtain⟨pb,hpb⟩:∃ pb,pb=packB bs:=⟨_,rfl⟩;obtain⟨q,hq⟩:∃ q,q=(n+7)/8:=⟨_,rfl⟩;have hq32:q<=32:=by omega
    rw[<- hpb,<- hq] at HE;have hpq:pb.length=q:=by rw[hpb,hq];exact hbl
    have HPQ:=Lib.hid (And.intro hpb hpq);clear k1 k2 k3 hE hB hn hlen hbs hbl hpb hq hpq;go_wp2_with fail;refine(a7J P P v1 bs wr HK.out (by have:=HL.out.1;omega)).mono ?_;rintro e w2 ⟨u2,rfl,hu2,hb2⟩;rw[<- HPQ.out.1] at hu2;obtain⟨A2,c2,rfl⟩:=Kd.R_slice hu2;rw[HPQ.out.2] at hu2 ⊢;have HK2:Hid (WrVal w2 P P v1 bs):=Lib.hid ⟨a0h HK.out.blk hb2,Kd.R_below HK.out.row hb2⟩;have HU2:=Lib.hid hu2;have HB2:=Lib.hid (a0f HB.out hb2);clear hu2 hb2;go_wp2_with fail;refine(a7J P P v1 bs w2 HK2.out (by have:=HL.out.1;omega)).mono ?_;rintro e w3 ⟨u3,rfl,hu3,hb3⟩;rw[<- HPQ.out.1] at hu3;obtain⟨A3,c3,rfl⟩:=Kd.R_slice hu3;rw[HPQ.out.2] at hu3 ⊢;have HU3:Hid ((Kd.int .u8).R 5 w3 w.heap.size (λ _=>True) (.slice A2 q c2) pb):=Lib.hid (Kd.R_lower (Kd.R_below HU2.out hb3) HB.out.size);have HB3:=Lib.hid (a0f HB2.out hb3);have HS3:=Lib.hid HB3.out.size;have HLn:Hid ((pb.length+((32:Int)-(q:Int)).toNat)*1<=140737488355328):=Lib.hid (by have:=HPQ.out.2;omega);have hge:(0:Int)<=32-(q:Int):=by omega
    have HGe:=Lib.hid hge;clear hu3 hb3;go_wp2_with (at_builtin;refine Kd.R_append_zeros (Kd.int .u8) (w0:=w) (W:=w3) w.heap.size rfl (.tmp 49) (.tmp 53) 22 3 5 (.int .u8 0) 1 rfl Tryz.underlying22 (k:=.i64) Tryz.underlying3 a0I rfl (by decide) (by decide) (.slice A2 q c2) pb (0:Int) (kx:=.i64) (32-(q:Int)) (λ _=>True) rfl rfl rfl (λ _ _=>trivial) HU3.out HGe.out HB3.out HS3.out HLn.out ?_;intro v4 w4 hr4 hb4 hg4 hat4;have HA4:=Lib.hid (And.intro hr4 hb4);clear hr4 hb4 hg4 hat4);go_ret2;refine⟨v4,rfl,?_,HA4.out.2⟩;rw[HE.out];have h9:=HA4.out.1;rw[show((32:Int)-(q:Int)).toNat=32-q by omega] at h9;exact h9
theorem b0E (r:Nat) (qs:List (List Int)) (c:Int):∀ l:List Int,hdrsB r qs (l++[c])=hdrsB r qs l++hdrB (qs.getD c.toNat []) 257 0 (2^r)
 | []=>by simp[hdrsB]
 | x :: l=>by
  show hdrB _ 257 0 (2^r)++hdrsB r qs (l++[c])=(hdrB _ 257 0 (2^r)++hdrsB r qs l)++_
  rw[b0E r qs c l,List.append_assoc]
theorem a5k {r:Nat} {qs:List (List Int)} (hr9:r<=9):∀ l:List Int,(∀ c∈l,Nrm (qs.getD c.toNat []) r)->(hdrsB r qs l).length<=l.length*3072
 | [],_=>by simp[hdrsB]
 | x :: l,h=>by
  have hn:=h x (by simp);have ih:=a5k hr9 l (λ c hc=>h c (by simp[hc]));have e2:(2:Int)^r=((2^r:Nat):Int):=by simp
  have h1:=a3S hn.r12 hn.len hn.nn 257 0 (2^r) (by omega) (by rw[List.drop_zero,hn.sum,e2]) (by rw[Nat.pow_succ];have:=Nat.two_pow_pos r;omega);have h2:(256-0)*(r+3)<=256*12:=Nat.mul_le_mul (by omega) (by omega)
  show(hdrB _ 257 0 (2^r)++hdrsB r qs l).length<=_
  rw[List.length_append,List.length_cons];omega
def a3U (r:Nat) (qs:List (List Int)) (l:List Int):List Int:=[(r:Int)]++dirL l++packB (hdrsB r qs l)
def c7g (r:Nat) (qs:List (List Int)) (l:List Int) (w:World) (e:Ending) (w':World):Prop:=∃ v,e=.returned v/\(Kd.int .u8).R 5 w' w.heap.size (λ _=>True) v (a3U r qs l)/\Below w.heap.size w w'
theorem c7h (r c cl:Nat) (A Al:Option Addr) (qs:List (List Int)) (l:List Int) (w:World) (hr:kq.C w A qs.length qs) (hq:qs.length=256) (hl:(Kd.int .i64).C w Al l.length l) (hA:Asc l) (hll:l.length<=256) (hr9:r<=9) (hN:∀ c∈l,Nrm (qs.getD c.toNat []) r) :
    Calls Tryz.prog 103 #[.agg #[.int .i64 r,.bool false,.slice A 256 c],.slice Al l.length cl] w (c7g r qs l w):=by
 obtain⟨W,hW⟩:∃ W,W=w.alloc (.cells #[.int .i64 r,.bool false,.slice A 256 c] 26):=⟨_,rfl⟩;have hb1:Below w.heap.size w W:=by rw[hW];exact(Below.refl _ _).alloc (Nat.le_refl _) _
 have hk1:W.heap[w.heap.size]?=some (.cells #[.int .i64 r,.bool false,.slice A 256 c] 26 (0,0)):=by rw[hW];exact a0i _ _
 obtain⟨mb,hmb⟩:∃ mb,mb=w.heap.size:=⟨_,rfl⟩;rw[<- hmb] at hk1;have HMb:=Lib.hid hmb;have HR:=Lib.hid (And.intro hr (And.intro hl (And.intro hA (And.intro hll (And.intro hN hq)))));have H1:=Lib.hid (And.intro hb1 hk1);have hll2:l.length<=256:=hll;clear hr hq hl hA hll hN hb1 hk1;go_enter Tryz.func103,Tryz.ntmps103;go_wp2_with fail;rw[<- hW,<- hmb];clear hW hmb;refine(c7f Al cl l W (Kd.C_below HR.out.2.1 H1.out.1) HR.out.2.2.1 HR.out.2.2.2.1).mono ?_;rintro e w2 ⟨vd,rfl,hvd,hb2⟩;obtain⟨Ad,cd,rfl⟩:=Kd.R_slice hvd;rw[a2Y] at hvd ⊢;have HD:=Lib.hid (Kd.R_reads' hvd).2.2;have HB2:=Lib.hid (a0f H1.out.1 hb2);have HK2:=Lib.hid (a0h H1.out.2 hb2);clear hvd hb2;go_wp2_with fail;refine(a6R _).mono ?_;rintro e w3 ⟨rfl,hw3⟩;have hw0:WrVal w3 w2.heap.size w2.heap.size (.slice none 0 0) []:=by rw[hw3];exact b0j w2
 have hb3:Below w2.heap.size w2 w3:=by rw[hw3];exact(Below.refl _ _).alloc (Nat.le_refl _) _
 obtain⟨P,hP⟩:∃ P,P=w2.heap.size:=⟨_,rfl⟩;rw[<- hP] at hw0 ⊢;have HW0:=Lib.hid (And.intro hw0 (And.intro hb3 hP));have HB3:=Lib.hid (a0f HB2.out hb3);clear hw3 hw0 hb3 hP;go_wp2_with fail;go_loopw [18] (λ kv wr=>∃ i:Nat,i<=l.length/\kv=.int .i64 i/\Hid (PutRel P P (.slice none 0 0) (hdrsB r qs (l.take i)) w3 wr)) (λ kv _=>l.length-(intOf kv).toNat)
 case atStart=>exact⟨0,by omega,rfl,Lib.hid ⟨_,HW0.out.1,.inl rfl,Only.refl _ _⟩⟩
 case round=>
  obtain⟨i,hi,rfl,H⟩:=hrel;have hBw2:Below w2.heap.size w2 wr:=PutRel.bel H.out HW0.out.2.1 (by have:=HW0.out.2.2;omega) (λ k hk=>by simp[Value.ownBlock] at hk);have hBw:Below w.heap.size w wr:=HB2.out.trans (hBw2.mono HB2.out.size);obtain⟨⟨ka,kb,kc⟩,-⟩:=cell3 (a0h HK2.out hBw2)
  by_cases hlt:i<l.length
  · obtain⟨cx,hc,hc256⟩:=HR.out.2.2.1.get hlt;obtain⟨ad,hA2,hcx⟩:=a0v (Kd.C_below HR.out.2.1 hBw) i hlt;subst hA2;rw[hc] at hcx;have hm:=a1G hlt;rw[hc] at hm;have hn:=HR.out.2.2.2.2.1 _ hm;rw[Int.toNat_natCast] at hn;obtain⟨aq,B,cq,hA3,hcq',-,hCq⟩:=kq_at HR.out.1 cx (by rw[HR.out.2.2.2.2.2];exact hc256);subst hA3;rw[hn.len] at hcq' hCq;have hcq:=a0p hBw hcq';have HCq:=Lib.hid hCq;have HBw:=Lib.hid (And.intro hBw hBw2);clear hcq';have ht:l.take (i+1)=l.take i++[(cx:Int)]:=by rw[List.take_succ_eq_append_getElem hlt,<- hc,List.getD_eq_getElem?_getD,List.getElem?_eq_getElem hlt,Option.getD_some]
    have hs:hdrsB r qs (l.take (i+1))=hdrsB r qs (l.take i)++hdrB (qs.getD cx []) 257 0 (2^r):=by rw[ht,b0E,Int.toNat_natCast]
    have hlb:=a5k (r:=r) (qs:=qs) hr9 (l.take i) (λ x hx=>HR.out.2.2.2.2.1 x (List.mem_of_mem_take hx));have hlb2:(hdrsB r qs (l.take i)).length<=800000:=by rw[List.length_take] at hlb;omega
    have HS:=Lib.hid hs;have HN:=Lib.hid (And.intro hn hlb2);have hc2:(cx:Int)<256:=by omega
    obtain⟨v1,k1,k2,k3⟩:=H.out;have HK:=Lib.hid (And.intro k1 (And.intro k2 k3));have HBs:Hid (P<=wr.heap.size):=Lib.hid (Nat.le_trans (by have:=HW0.out.2.2;have:=HW0.out.2.1.size;omega) k3.size);clear hc hm hn hCq ht hs hlb hlb2 k1 k2 k3 hBw2 hBw;go_wp2_with fail;refine(b5Z P P cq r B v1 (hdrsB r qs (l.take i)) (qs.getD cx []) w wr HK.out.1 HBs.out HN.out.2 HCq.out HBw.out.1 (by have:=HW0.out.2.2;have:=HB2.out.size;omega) (by have:=HW0.out.2.2;have:=HB2.out.size;omega) HN.out.1).mono ?_;rintro e w5 ⟨rfl,hp⟩;have HP5:=Lib.hid (PutRel.trans HK.out hp);clear hp;go_wp2_with fail;go_roundw
    case rel=>exact⟨i+1,by omega,by go_num,Lib.hid (by rw[HS.out];exact HP5.out)⟩
    case measure=>first | (simp[intOf];done) | (simp[intOf];omega)
  · obtain rfl:i=l.length:=by omega
    rw[List.take_length] at H;obtain⟨v1,k1,k2,k3⟩:=H.out;have hlb:=a5k (r:=r) (qs:=qs) hr9 l HR.out.2.2.2.2.1;have HX:=Lib.hid (And.intro k1 (by omega:(hdrsB r qs l).length<=800000));obtain⟨X,hX⟩:∃ X,X=packB (hdrsB r qs l):=⟨_,rfl⟩;have HXX:=Lib.hid hX;have HXl:Hid (X.length<=100001):=Lib.hid (by rw[hX,a0B];omega);have HBw:=Lib.hid hBw;have HD2:=Lib.hid (Kd.C_below HD.out hBw2);have hDl:=a2Y l;obtain⟨D,hD⟩:∃ D,D=dirL l:=⟨_,rfl⟩;rw[<- hD] at HD2 hDl;have HDD:=Lib.hid (And.intro hD hDl);clear k1 k2 k3 hlb hBw hBw2 hX hD hDl H;have hrw:IntKind.u8.wrap (r:Int)=(r:Int):=by rw[IntKind.wrap_u8];omega
    have hWl:Below w.heap.size w (wr.alloc (.cells #[.int .u8 (r:Int)] 5)):=HBw.out.alloc HBw.out.size _;have HWl:=Lib.hid (And.intro hWl hWl.size);have HO1:Hid ((Kd.int .u8).R 5 (wr.alloc (.cells #[.int .u8 (r:Int)] 5)) w.heap.size (λ _=>True) (.slice (some ⟨wr.heap.size,0,none⟩) 1 1) [(r:Int)]):=Lib.hid (a2W .u8 5 wr w.heap.size (λ _=>True) trivial HBw.out.size [(r:Int)] (by simp));have HD3:Hid ((Kd.int .u8).C (wr.alloc (.cells #[.int .u8 (r:Int)] 5)) Ad 32 D):=Lib.hid (by have:=Kd.C_alloc HD2.out (.cells #[.int .u8 (r:Int)] 5);rw[HDD.out.2] at this;exact this);have HL1:Hid ((([(r:Int)]:List Int).length+32)*1<=140737488355328):=Lib.hid (by simp);have HWr:Hid (WrVal wr P P v1 (hdrsB r qs l)):=HX.out.1;have HWr2:Hid (WrVal (wr.alloc (.cells #[.int .u8 (r:Int)] 5)) P P v1 (hdrsB r qs l)):=Lib.hid ⟨a0o HX.out.1.blk _,Kd.R_alloc HX.out.1.row _⟩;have HZ33:Hid (([(r:Int)]++D).length=33):=Lib.hid (by rw[List.length_append,HDD.out.2];rfl);clear hWl;go_wp2_with (at_builtin;refine Kd.R_append_rows (Kd.int .u8) (Rr:=(Kd.int .u8).K (wr.alloc (.cells #[.int .u8 (r:Int)] 5))) (w0:=w) (W:=wr.alloc (.cells #[.int .u8 (r:Int)] 5)) w.heap.size rfl (.tmp 33) (.tmp 34) 22 5 (.int .u8 0) 1 rfl Tryz.underlying22 a0I rfl (by decide) (by decide) (.slice (some ⟨wr.heap.size,0,none⟩) 1 1) [(r:Int)] D Ad 32 cd (λ _=>True) (λ _=>False) rfl rfl HO1.out HD3.out (λ _ _ h=>h) (λ _ h=>h.elim) (λ _ _=>trivial) HWl.out.1 HWl.out.2 HL1.out ?_;intro vi w5 hr5 hb5 hg5 hat5;have HG5:=Lib.hid (And.intro hg5 hat5);obtain⟨A5,c5,rfl⟩:=Kd.R_slice hr5;rw[HZ33.out] at hr5 ⊢;have HR5:=Lib.hid (And.intro hr5 hb5);clear hr5 hb5 hg5 hat5)
    have HW5:Hid (WrVal w5 P P v1 (hdrsB r qs l)):=Lib.hid ⟨a1g HWr2.out.blk HG5.out.1 (λ e=>by have:=a0g HWr.out.blk;simp[Value.ownBlock] at e;omega),Kd.R_mono (Kd.R_grown (Kd.R_alloc (Kd.R_bound HWr.out.row) _) HG5.out.1 (λ k hk e=>by have:=hk.2.2.1;simp[Value.ownBlock] at e;omega)) (λ k hk=>hk.1)⟩;have HX8:Hid ((hdrsB r qs l).length<=900000):=Lib.hid (by have:=HX.out.2;omega);obtain⟨Z,hZ⟩:∃ Z,Z=[(r:Int)]++D:=⟨_,rfl⟩;rw[<- hZ] at HR5;have HZ:=Lib.hid (And.intro hZ (by rw[hZ];exact HZ33.out:Z.length=33));clear hZ;refine(a7J P P v1 _ w5 HW5.out HX8.out).mono ?_;rintro e w6 ⟨v6,rfl,hv6,hb6⟩;rw[<- HXX.out] at hv6;obtain⟨A6,c6,rfl⟩:=Kd.R_slice hv6;have HO6:=Lib.hid (Kd.R_below HR5.out.1 hb6);have HX6:=Lib.hid (Kd.R_reads' hv6).2.2;have HB6:=Lib.hid (And.intro (a0f HR5.out.2 hb6) (a0f HR5.out.2 hb6).size);have HL6:Hid ((Z.length+X.length)*1<=140737488355328):=Lib.hid (by have:=HZ.out.2;have:=HXl.out;omega);clear hv6 hb6;go_wp2_with (at_builtin;refine Kd.R_append_rows (Kd.int .u8) (Rr:=(Kd.int .u8).K w6) (w0:=w) (W:=w6) w.heap.size rfl (.tmp 35) (.tmp 37) 22 5 (.int .u8 0) 1 rfl Tryz.underlying22 a0I rfl (by decide) (by decide) (.slice A5 33 c5) Z X A6 X.length c6 (λ _=>True) (λ _=>False) rfl rfl HO6.out HX6.out (λ _ _ h=>h) (λ _ h=>h.elim) (λ _ _=>trivial) HB6.out.1 HB6.out.2 HL6.out ?_;intro v7 w7 hr7 hb7 hg7 hat7;have HR7:=Lib.hid (And.intro hr7 hb7);clear hr7 hb7 hg7 hat7);go_ret;refine⟨v7,rfl,?_,HR7.out.2⟩;unfold a3U;rw[<- HXX.out,<- HDD.out.1,<- HZ.out.1];exact HR7.out.1
theorem b6R {b:List Int} (hb:Bytes b) (hl:b.length<=1000000):∀ c∈presN b 256,Nrm ((a0C b).getD c.toNat []) (a0r b):=by
 intro c hc;have hr:=a2K b;obtain⟨i,hi,e⟩:=a5V hc;obtain⟨c',h1,h2,h3⟩:=a7I b hi;have:c=(c':Int):=by rw[<- e,h1]
 subst this;rw[Int.toNat_natCast,a7F b h2];obtain⟨n1,n2,n3⟩:=a7V hb hl h2 h3;exact⟨n1,n2,n3,by omega,by omega⟩
def SLater (W1 W:World):Prop:=Below W1.heap.size W1 W
theorem SLater.keep {W1 W w':World} (h:SLater W1 W) (hb:Below W.heap.size W w'):SLater W1 w':=a0f h hb
theorem SLater.drew {W1 W:World} (h:SLater W1 W):SLater W1 W.drew:=Below.drew h
def c7i (b:List Int) (w:World) (e:Ending) (w':World):Prop:=∃ v,e=.returned (.tuple #[v,.int .i64 0])/\(Kd.int .u8).R 5 w' w.heap.size (λ _=>True) v (a1i b)/\Below w.heap.size w w'
theorem b6S (A:Option Addr) (cp:Nat) (w:World):Calls Tryz.prog 63 #[.slice A 0 cp] w (λ e w'=>e=.returned (.tuple #[.slice none 0 0,.int .i64 1])/\Below w.heap.size w w'):=by
 have HZ:=Lib.hid (c6Z A cp w);go_enter Tryz.func63,Tryz.ntmps63;go_wp2_with fail;refine HZ.out.mono ?_;rintro e w1 (⟨_,rfl,hb1⟩ | ⟨h,_⟩)
 · have HB1:=Lib.hid hb1;clear hb1;go_wp2_with fail;go_ret2;exact⟨rfl,HB1.out.alloc HB1.out.size _⟩
 · cases h
theorem c7j (A:Option Addr) (cp:Nat) (b:List Int) (w:World) (hr:(Kd.int .u8).C w A b.length b) (hb:Bytes b) (hl:b.length<=40000) (h0:0<b.length) :
    Calls Tryz.prog 63 #[.slice A b.length cp] w (c7i b w):=by
 have HR:=Lib.hid (And.intro hr (And.intro hb (And.intro hl h0)));have HCan:Hid (canM (a0r b:Nat) false (a0C b) b=true):=a3R (one:=false) hb (by omega) h0;have HZ:=Lib.hid (b6L A cp b w hr hb (by omega) h0);have HRok:=Lib.hid (a2K b);have HFit:=Lib.hid (a3O (a3P HCan.out).1 hb);have HNr:=Lib.hid (b6R hb (by omega:b.length<=1000000));obtain⟨r,hr'⟩:∃ r,r=a0r b:=⟨_,rfl⟩;obtain⟨q,hq'⟩:∃ q,q=a0C b:=⟨_,rfl⟩;have HQl:Hid (q.length=256):=Lib.hid (by rw[hq'];exact a7E b);have HRQ:=Lib.hid (And.intro hr' hq');rw[<- hr',<- hq'] at HCan HFit HNr;rw[<- hr'] at HRok;obtain⟨L,hL⟩:∃ L,L=presN b 256:=⟨_,rfl⟩;have HL:Hid (L=presN b 256/\Asc L/\L.length<=256):=Lib.hid ⟨hL,by rw[hL];exact b6j h0,by rw[hL];exact a4q b 256⟩;rw[<- hL] at HNr;clear hr hb hl h0 hL;go_enter Tryz.func63,Tryz.ntmps63;go_wp2_with fail;refine HZ.out.mono ?_;rintro e w1 (⟨h,_⟩ | ⟨_,Av,cv,rfl,hv,hb1⟩)
 · have:=HR.out.2.2.2;omega
 rw[<- hr'];rw[<- hq'] at hv;have HV:=Lib.hid (Kd.R_reads' hv).2.2;have HB1:=Lib.hid hb1;clear hv hb1 hr' hq';obtain⟨w2,hw2⟩:∃ w2,w2=w1.alloc (.cells #[.int .i64 r,.bool false,.slice Av 256 cv] 26):=⟨_,rfl⟩;have HB2:Hid (Below w.heap.size w w2):=Lib.hid (by rw[hw2];exact HB1.out.alloc HB1.out.size _);have HV2:Hid (kq.C w2 Av q.length q):=Lib.hid (by rw[hw2];exact Kd.C_alloc HV.out _);have hk2:w2.heap[w1.heap.size]?=some (.cells #[.int .i64 r,.bool false,.slice Av 256 cv] 26 (0,0)):=by rw[hw2];exact a0i _ _
 obtain⟨mb,hmb⟩:∃ mb,mb=w1.heap.size:=⟨_,rfl⟩;rw[<- hmb] at hk2;have HK2:=Lib.hid hk2;clear hk2;have HEnc:=b4a (r:Nat) false Av cv q A cp b w2 HV2.out (by have:=HQl.out;omega) (Kd.C_below HR.out.1 HB2.out) HR.out.2.1 (by have:=HR.out.2.2.1;omega);rw[HQl.out] at HEnc;have HE:=Lib.hid HEnc;clear HEnc;go_wp2_with fail;rw[<- hw2,<- hmb];clear hw2 hmb;refine HE.out.mono ?_;rintro e w3 ⟨_,h2,hb3⟩;obtain⟨vp,rfl,hvp⟩:=h2 HCan.out;obtain⟨Ap,cpp,rfl⟩:=Kd.R_slice hvp;have HB3:Hid (Below w.heap.size w w3):=Lib.hid (HB2.out.trans (hb3.mono HB2.out.size));have hk3:=a0h HK2.out hb3;have HV3:Hid (kq.C w3 Av q.length q):=Lib.hid (Kd.C_below HV2.out hb3);have HP3:=Lib.hid (Kd.R_reads' hvp).2.2;obtain⟨Pl,hPl⟩:∃ Pl,Pl=packB (a0R (r:Nat) false q b++[true]):=⟨_,rfl⟩;have HPl:=Lib.hid hPl;rw[<- hPl] at HP3 ⊢
 have HPlen:Hid (Pl.length<=700000):=Lib.hid (by
  rw[hPl,a0B,List.length_append];have:=HFit.out;have:=HR.out.2.2.1;simp only[List.length_singleton];omega)
 have HK3:=Lib.hid hk3;obtain⟨⟨ka,kb,kc⟩,-⟩:=cell3 hk3;have s0:SLater w3 w3:=Below.refl _ _
 have HPres:Hid (∀ W:World,SLater w3 W->Calls Tryz.prog 104 #[.slice A b.length cp] W λ e w'=>∃ Al cl,e=.returned (.slice Al L.length cl)/\(Kd.int .i64).C w' Al L.length L/\Below W.heap.size W w'):=Lib.hid λ W hW=>by
  refine(b6G A cp b W (Kd.C_below HR.out.1 (HB3.out.trans (Below.mono hW HB3.out.size))) (by have:=HR.out.2.2.1;omega) HR.out.2.1).mono ?_;rintro e w' ⟨v,rfl,hv,hb⟩;obtain⟨Al,cl,rfl⟩:=Kd.R_slice hv;rw[<- HL.out.1] at hv ⊢;exact⟨Al,cl,rfl,(Kd.R_reads' hv).2.2,hb⟩
 have HHead:Hid (∀ (W:World) (Al:Option Addr) (cl:Nat),SLater w3 W->(Kd.int .i64).C W Al L.length L->Calls Tryz.prog 103 #[.agg #[.int .i64 r,.bool false,.slice Av 256 cv],.slice Al L.length cl] W λ e w'=>∃ Ah ch,e=.returned (.slice Ah (a3U r q L).length ch)/\(Kd.int .u8).R 5 w' w3.heap.size (λ _=>True) (.slice Ah (a3U r q L).length ch) (a3U r q L)/\Below W.heap.size W w'):=Lib.hid λ W Al cl hW hC=>by
  refine(c7h r cv cl Av Al q L W (Kd.C_below HV3.out hW) HQl.out hC HL.out.2.1 HL.out.2.2 (by have:=HRok.out;omega) HNr.out).mono ?_;rintro e w' ⟨v,rfl,hv,hb⟩;obtain⟨Ah,ch,rfl⟩:=Kd.R_slice hv;exact⟨Ah,ch,rfl,Kd.R_lower hv (Below.size hW),hb⟩
 have HHl:Hid ((a3U r q L).length<=200000):=Lib.hid (by
  have h1:=a5k (r:=r) (qs:=q) (by have:=HRok.out;omega) L HNr.out;have h2:=HL.out.2.2;unfold a3U;rw[List.length_append,List.length_append,a2Y,a0B,List.length_singleton];omega)
 obtain⟨Hd,hHd⟩:∃ Hd,Hd=a3U r q L:=⟨_,rfl⟩;rw[<- hHd] at HHead HHl;have HHd:=Lib.hid hHd;have HLn:Hid ((Hd.length+Pl.length)*1<=140737488355328):=Lib.hid (by have:=HHl.out;have:=HPlen.out;omega);clear h2 hb3 hvp hk3 hPl hHd;go_wp2_with fail
 go_region_law (first
  | (go_simp;go_at_call 104;refine(HPres.out _ (by first | assumption | exact SLater.drew ‹_›)).mono ?_;rintro e w' ⟨Al,cl,rfl,hcl,hb⟩;have s1:=(by first | exact SLater.keep ‹_› hb | exact SLater.keep (SLater.drew ‹_›) hb:SLater w3 w');obtain⟨⟨ka,kb,kc⟩,-⟩:=cell3 (a0h HK3.out s1))
  | (go_simp;go_at_call 103;refine(HHead.out _ _ _ (by first | assumption | exact SLater.drew ‹_›) (by first | assumption | exact Kd.C_drew ‹_›)).mono ?_;rintro e w' ⟨Ah,ch,rfl,hvh,hb⟩;have s1:=(by first | exact SLater.keep ‹_› hb | exact SLater.keep (SLater.drew ‹_›) hb:SLater w3 w');have HVH:=Lib.hid (And.intro hvh s1);clear hvh hb)
  | (refine Kd.R_append_rows_step (Kd.int .u8) (Rr:=(Kd.int .u8).K w') (w0:=w) (W:=w') w.heap.size rfl (.tmp 27) (.tmp 28) 22 5 (.int .u8 0) 1 rfl Tryz.underlying22 a0I rfl (by decide) (by decide) _ Hd Pl Ap Pl.length cpp (λ _=>True) (λ _=>False) rfl rfl (Kd.R_lower HVH.out.1 HB3.out.size) (Kd.C_below HP3.out HVH.out.2) (λ _ _ h=>h) (λ _ h=>h.elim) (λ _ _=>trivial) (HB3.out.trans (Below.mono HVH.out.2 HB3.out.size)) (Nat.le_trans HB3.out.size (Below.size HVH.out.2)) HLn.out ?_;intro v9 w9 hr9 hb9 hg9 hat9;have HA:=Lib.hid (And.intro hr9 hb9);clear hr9 hb9 hg9 hat9))
 all_goals
  go_wp2_with fail;go_ret2;refine⟨v9,rfl,?_,HA.out.2⟩;have h9:=HA.out.1;have e:a1i b=Hd++Pl:=by unfold a1i;rw[HHd.out,HPl.out,HRQ.out.1,HRQ.out.2,HL.out.1];rfl
  rw[e];exact h9
theorem b0F (A:Option Addr) (cp:Nat) (b:List Int) (w:World) (hr:(Kd.int .u8).C w A b.length b) (hb:Bytes b) (hl:b.length<=40000) (h0:0<b.length) :
    Calls Tryz.prog 63 #[.slice A b.length cp] w (Told 0 (a1i b) w):=by
 refine(c7j A cp b w hr hb hl h0).mono ?_;rintro e w' ⟨v,rfl,hv,hbl⟩;obtain⟨A1,c1,rfl⟩:=Kd.R_slice hv;exact⟨A1,c1,rfl,hv,hbl⟩
theorem c7k (A:Option Addr) (c:Nat) (xs:List Int) (w:World) (hr:(Kd.int .u8).C w A xs.length xs) (hl:xs.length<=1000000) (hn:A=none->xs=[]) :
    Calls Tryz.prog 106 #[.slice A xs.length c] w (b3I xs w):=by
 cases A with
 | none=>
  have h0:=hn rfl;subst h0;have hq:=Lib.run_eql_slice_nil (P:=Tryz.prog) w 22 5 none 0 c 0 0 Tryz.underlying22;go_enter Tryz.func106,Tryz.ntmps106;go_wp2_with fail;go_ret;exact⟨_,rfl,Kd.R_nil _ _ _ _ _,Below.refl _ _⟩
 | some ad=>
  have HR:=Lib.hid (Kd.C_alloc hr (.cells #[] 5));have HE:=Lib.hid (a6P .u8 5 w w.heap.size (λ _=>True) (Nat.le_refl _) trivial);have HL:Hid ((([]:List Int).length+xs.length)*1<=140737488355328):=by show _<=_;simp;omega
  have hq:=Lib.run_eql_slice_nil (P:=Tryz.prog) w 22 5 (some ad) xs.length c 0 0 Tryz.underlying22;clear hr;go_enter Tryz.func106,Tryz.ntmps106;go_wp2_with (at_builtin;refine Kd.R_append_rows (Kd.int .u8) (Rr:=(Kd.int .u8).K (w.alloc (.cells #[] 5))) (w0:=w) (W:=w.alloc (.cells #[] 5)) w.heap.size rfl (.tmp 5) (.tmp 6) 22 5 (.int .u8 0) 1 rfl Tryz.underlying22 a0I rfl (by decide) (by decide) (.slice (some ⟨w.heap.size,0,none⟩) 0 0) [] xs (some ad) xs.length c (λ _=>True) (λ _=>False) rfl rfl HE.out HR.out (λ _ _ h=>h) (λ _ h=>h.elim) (λ _ _=>trivial) ((Below.refl _ _).alloc (Nat.le_refl _) _) (by simp) HL.out ?_;intro vi w2 hr2 hb2 hg2 hat2;have HR2:=Lib.hid hr2;have HB2:=Lib.hid hb2;clear hr2 hb2 hg2 hat2);go_ret;rw[List.nil_append] at HR2;exact⟨_,rfl,HR2.out,HB2.out⟩
theorem a5Z (k:Int) (w:World):Calls Tryz.prog 221 #[.int .i64 k] w λ e w'=>e=.returned (.bool (decide (k=0\/k=1)))/\w=w':=by
 by_cases h0:k=0
 · subst h0;go_enter Tryz.func221,Tryz.ntmps221;go_wp2_with fail;go_ret;exact⟨rfl,rfl⟩
 · have d0:(k==0)=false:=by simpa using h0
   by_cases h1:k=1
   · subst h1;go_enter Tryz.func221,Tryz.ntmps221;go_wp2_with fail;go_ret;exact⟨rfl,rfl⟩
   · have d1:(k==1)=false:=by simpa using h1
     have d2:decide (k=0\/k=1)=false:=decide_eq_false (λ h=>h.elim h0 h1);rw[d2];clear h0 h1 d2;go_enter Tryz.func221,Tryz.ntmps221;go_wp2_with fail;go_ret;exact⟨by simp,rfl⟩
def notB (b0 x:Int):Bool:=!decide (x=b0)
theorem c7l (ad:Addr) (c p n:Nat) (x y:Int) (w:World) (hp:w.cell? ⟨p,0,none⟩=some (.slice (some ad) n c)) (h0:0<n) (hx:w.cell? (ad.add 0)=some (.int .u8 x)) :
    Calls Tryz.prog 244 #[.int .u8 y,.pointer (some ⟨p,0,none⟩)] w λ e w'=>e=.returned (.bool (notB x y))/\w=w':=by
 have hz:(0:Int)<(n:Int):=by omega
 have hx2:w.cell? ad=some (.int .u8 x):=by have e:ad.add 0=ad:=by simp[Addr.add]
                                           rwa [e] at hx
 unfold notB
 by_cases h:y=x
 · have hd:=decide_eq_true h;rw[hd];clear h;go_enter Tryz.func244,Tryz.ntmps244;go_wp2_with fail;go_ret;exact⟨by simp_all,rfl⟩
 · have hd:=decide_eq_false h;rw[hd];clear h;go_enter Tryz.func244,Tryz.ntmps244;go_wp2_with fail;go_ret;exact⟨by simp_all,rfl⟩
theorem c7m (ad:Addr) (c p:Nat) (b:List Int) (w:World) (hp:w.cell? ⟨p,0,none⟩=some (.slice (some ad) b.length c)) (hr:(Kd.int .u8).C w (some ad) b.length b) (hl:b.length<=1000000) (h0:0<b.length) :
    Calls Tryz.prog 264 #[.slice (some ad) b.length c,.func (.func 244) #[] #[.pointer (some ⟨p,0,none⟩)]] w λ e w'=>∃ i:Int,e=.returned (.int .i64 i)/\(0<=i↔b.any (notB (b.getD 0 0))=true)/\w=w':=by
 obtain⟨a0,e0,hc0⟩:=a0v hr 0 h0;injection e0 with e0
 subst e0;have HR:=Lib.hid (And.intro hr (And.intro hp hc0));clear hr hp hc0;obtain⟨x0,hx0⟩:∃ x0,x0=b.getD 0 0:=⟨_,rfl⟩;rw[<- hx0] at HR ⊢;clear hx0;go_enter Tryz.func264,Tryz.ntmps264;go_wp2_with fail;go_loop [8] (λ kv=>∃ (k:Nat),kv=.int .i64 k/\k<=b.length/\Hid (∀ q∈b.take k,notB x0 q=false)) (λ kv=>b.length-(intOf kv).toNat)
 case atStart=>exact⟨0,rfl,by omega,λ q hq=>by simp at hq⟩
 case round=>
  obtain⟨k,rfl,hk,H⟩:=hrel
  by_cases hlt:k<b.length
  · obtain⟨a1,e1,hc⟩:=a0v HR.out.1 k hlt;injection e1 with e1
    subst e1;have hkI:(k:Int)<(b.length:Int):=by omega
    obtain⟨q,hq⟩:∃ q,q=b.getD k 0:=⟨_,rfl⟩;rw[<- hq] at hc;have HQ:=Lib.hid hq;clear hq;go_wp2_with fail;refine(c7l ad c p b.length x0 q w HR.out.2.1 h0 HR.out.2.2).mono ?_;obtain⟨b1,hb⟩:∃ b1,b1=notB x0 q:=⟨_,rfl⟩;rw[<- hb];rintro e w' ⟨rfl,rfl⟩;have hq2:b[k]=q:=by rw[HQ.out,List.getD_eq_getElem?_getD,List.getElem?_eq_getElem hlt];rfl
    have HB:=Lib.hid (And.intro hb hq2);clear hb hq2
    cases b1 with
    | true=>
     go_wp2_with fail;go_ret;exact⟨k,rfl,⟨λ _=>List.any_eq_true.2 ⟨q,HB.out.2 ▸ List.getElem_mem hlt,HB.out.1.symm⟩,λ _=>by omega⟩,rfl⟩
    | false=>
     go_wp2_with fail;go_round
     case rel=>
      refine⟨k+1,by go_num,by omega,λ x hx=>?_⟩;rw[List.take_succ_eq_append_getElem hlt] at hx;rcases List.mem_append.1 hx with h | h
      · exact H.out x h
      · rw[List.mem_singleton.1 h,HB.out.2];exact HB.out.1.symm
     case measure=>simp[intOf];omega
  · have hkn:k=b.length:=by omega
    go_wp2_with fail;go_ret;refine⟨-1,rfl,⟨λ h=>by omega,λ h=>?_⟩,rfl⟩;obtain⟨x,hx,hb⟩:=h;have:=H.out x (by rw[hkn,List.take_length];exact hx);rw[this] at hb;cases hb
theorem c7n (ad:Addr) (c p:Nat) (b:List Int) (w:World) (hp:w.cell? ⟨p,0,none⟩=some (.slice (some ad) b.length c)) (hr:(Kd.int .u8).C w (some ad) b.length b) (hl:b.length<=1000000) (h0:0<b.length) :
    Calls Tryz.prog 243 #[.slice (some ad) b.length c,.func (.func 244) #[] #[.pointer (some ⟨p,0,none⟩)]] w λ e w'=>e=.returned (.bool (b.any (notB (b.getD 0 0))))/\w=w':=by
 have HI:=Lib.hid (c7m ad c p b w hp hr hl h0);clear hr hp hl h0;obtain⟨z,hz⟩:∃ z,z=b.any (notB (b.getD 0 0)):=⟨_,rfl⟩;rw[<- hz] at HI ⊢;clear hz;go_enter Tryz.func243,Tryz.ntmps243;go_wp2_with fail;refine HI.out.mono ?_;rintro e w' ⟨i,rfl,hi,rfl⟩
 cases z with
 | true=>
  have h0:0<=i:=hi.2 rfl;clear hi;go_wp2_with fail;go_ret;exact⟨rfl,rfl⟩
 | false=>
  have h0:decide (0<=i)=false:=decide_eq_false (λ h=>by have:=hi.1 h;cases this);clear hi;go_wp2_with fail;go_ret;exact⟨by simp,rfl⟩
theorem c7o (b:List Int):a1u b=(decide (1<b.length) && !b.any (notB (b.getD 0 0))):=by
 unfold a1u
 congr 1
 rw[List.not_any_eq_all_not]
 congr 1
 funext x
 unfold notB;simp
theorem c7p (A:Option Addr) (c:Nat) (b:List Int) (w:World) (hr:(Kd.int .u8).C w A b.length b) (hl:b.length<=1000000) :
    Calls Tryz.prog 222 #[.slice A b.length c] w λ e w'=>e=.returned (.bool (a1u b))/\Below w.heap.size w w':=by
 rw[c7o];have hmf:∀ (fn:Fn) (first cap:Array Value) (w:World),(Instr.makeFunc fn first cap).run Tryz.prog w=.ok (.func fn first cap) w:=λ _ _ _ _=>rfl;obtain⟨W,hW⟩:∃ W,W=w.alloc (.cells #[.slice A b.length c] 22):=⟨_,rfl⟩;have hb1:Below w.heap.size w W:=by rw[hW];exact(Below.refl _ _).alloc (Nat.le_refl _) _
 have hc1:W.cell? ⟨w.heap.size,0,none⟩=some (.slice A b.length c):=by rw[hW];exact(a0a (a0i _ _) 0).trans rfl
 by_cases h1:1<b.length
 · obtain⟨ad,hA,_⟩:=a0v hr 0 (by omega);subst hA;have HP:=Lib.hid (c7n ad c w.heap.size b W hc1 (Kd.C_below hr hb1) hl (by omega));have HB:=Lib.hid hb1;obtain⟨z,hz⟩:∃ z,z=b.any (notB (b.getD 0 0)):=⟨_,rfl⟩;rw[<- hz] at HP ⊢;have d1:=decide_eq_true h1;rw[d1];have hI:(1:Int)<(b.length:Int):=by omega
   clear hr hz hb1 d1 h1;go_enter Tryz.func222,Tryz.ntmps222;go_wp2_with fail;rw[<- hW];clear hW;go_wp2_with fail;refine HP.out.mono ?_;rintro e w' ⟨rfl,rfl⟩;go_wp2_with fail;go_ret;exact⟨rfl,HB.out⟩
 · have d1:=decide_eq_false h1;rw[d1];have hI:decide ((1:Int)<(b.length:Int))=false:=decide_eq_false (by omega);have HB:=Lib.hid hb1;clear hr d1 h1 hb1;go_enter Tryz.func222,Tryz.ntmps222;go_wp2_with fail;rw[<- hW];clear hW;go_wp2_with fail;go_ret;exact⟨by simp,HB.out⟩
theorem c_nil {A:Option Addr} {b:List Int} {w:World} (hr:(Kd.int .u8).C w A b.length b) (h:A=none):b=[]:=by
 rcases Nat.eq_zero_or_pos b.length with h0 | h0
 · exact List.eq_nil_of_length_eq_zero h0
 · obtain⟨ad,hA,_⟩:=a0v hr 0 h0;rw[h] at hA;cases hA
theorem b0G {b:List Int} (hl:b.length<=40000):a1z 0 b=(0,b):=by
 unfold a1z;rw[if_neg (by omega),if_pos rfl]
theorem a8f {b:List Int} (hl:b.length<=40000) (ha:a1u b=true):a1z 1 b=(0,[b.getD 0 0]):=by
 unfold a1z;rw[if_neg (λ h=>by rcases h with h | h | h;(· omega);(· omega);rw[ha] at h;cases h.2),if_neg (by decide)]
theorem a8g {b:List Int} (ha:a1u b=false):a1z 1 b=(1,[]):=by
 unfold a1z;rw[if_pos (.inr (.inr ⟨rfl,ha⟩))]
theorem Told.nil (k:Int) {w w':World} (hb:Below w.heap.size w w'):Told k [] w (.returned (.tuple #[.slice none 0 0,.int .i64 k])) w':=⟨none,0,rfl,Kd.R_nil _ _ _ _ _,hb⟩
theorem c7q (A:Option Addr) (c:Nat) (b:List Int) (w:World) (hr:(Kd.int .u8).C w A b.length b) (hl:b.length<=40000) :
    Calls Tryz.prog 177 #[.int .i64 0,.slice A b.length c] w (Told 0 b w):=by
 have HR:=Lib.hid hr;have HN:=Lib.hid (c_nil hr);have hI:decide ((131072:Int)<(b.length:Int))=false:=decide_eq_false (by omega);have HL:=Lib.hid hl;clear hr hl;go_enter Tryz.func177,Tryz.ntmps177;go_wp2_with fail;refine(a5Z 0 w).mono ?_;rintro e w' ⟨rfl,rfl⟩;go_wp2_with fail;refine(c7k A c b w HR.out (by have:=HL.out;omega) HN.out).mono ?_;rintro e w' ⟨v,rfl,hv,hb⟩;obtain⟨A1,c1,rfl⟩:=Kd.R_slice hv;have H1:=Lib.hid (And.intro hv hb);clear hv hb;go_wp2_with fail;go_ret2;exact⟨A1,c1,rfl,H1.out.1,H1.out.2⟩
theorem c7r (A:Option Addr) (c:Nat) (b:List Int) (w:World) (hr:(Kd.int .u8).C w A b.length b) (hl:b.length<=40000) :
    Calls Tryz.prog 177 #[.int .i64 1,.slice A b.length c] w (Told (a1z 1 b).1 (a1z 1 b).2 w):=by
 have hI:decide ((131072:Int)<(b.length:Int))=false:=decide_eq_false (by omega);have HA:=Lib.hid (c7p A c b w hr (by omega));obtain⟨z,hz⟩:∃ z,z=a1u b:=⟨_,rfl⟩;rw[<- hz] at HA
 cases z with
 | false=>
  rw[a8g hz.symm];clear hr hl hz;go_enter Tryz.func177,Tryz.ntmps177;go_wp2_with fail;refine(a5Z 1 w).mono ?_;rintro e w' ⟨rfl,rfl⟩;go_wp2_with fail;refine HA.out.mono ?_;rintro e w' ⟨rfl,hb⟩;have HB:=Lib.hid hb;clear hb;go_wp2_with fail;go_ret2;exact Told.nil 1 HB.out
 | true=>
  rw[a8f hl hz.symm];have h1:=(b0t hz.symm).2;obtain⟨ad,hA,hc⟩:=a0v hr 0 (by omega);subst hA;have e0:ad.add 0=ad:=by simp[Addr.add]
  rw[e0] at hc;have HC:=Lib.hid hc;obtain⟨x,hx⟩:∃ x,x=b.getD 0 0:=⟨_,rfl⟩;rw[<- hx] at HC ⊢;have hI0:(0:Int)<(b.length:Int):=by omega
  clear hr hl hz hx h1 e0 hc;go_enter Tryz.func177,Tryz.ntmps177;go_wp2_with fail;refine(a5Z 1 w).mono ?_;rintro e w' ⟨rfl,rfl⟩;go_wp2_with fail;refine HA.out.mono ?_;rintro e w' ⟨rfl,hb⟩;have hc2:=a0p hb HC.out;have HB:=Lib.hid hb;clear hb;go_wp2_with fail;go_ret2;have hrow:(Kd.int .u8).R 5 (w'.alloc (.cells #[.int .u8 x] 5)) w.heap.size (λ _=>True) (.slice (some ⟨w'.heap.size,0,none⟩) 1 1) [x]:=a2W .u8 5 w' w.heap.size (λ _=>True) trivial HB.out.size [x] (by simp);exact⟨_,1,rfl,hrow,HB.out.alloc HB.out.size _⟩
def b0H (p:Nat) (may:FuncId):Value:=.agg #[.func (.func 176) #[] #[.pointer (some ⟨p,0,none⟩)],.func (.func 178) #[] #[.pointer (some ⟨p,0,none⟩)],.func (.func may) #[] #[]]
theorem a6a:(Tryz.prog.info? 102).map (·.size)=some 3:=by kernel_rfl
theorem b6T (k:Int) (may:FuncId) (w:World) :
    Calls Tryz.prog 127 #[.int .i64 k,.func (.func may) #[] #[]] w λ e w'=>e=.returned (b0H w.heap.size may)/\Below w.heap.size w w'/\w'.heap[w.heap.size]?=some (.cells #[.int .i64 k] 3 (0,0)):=by
 have hmf:∀ (fn:Fn) (first cap:Array Value) (w:World),(Instr.makeFunc fn first cap).run Tryz.prog w=.ok (.func fn first cap) w:=λ _ _ _ _=>rfl;go_enter Tryz.func127,Tryz.ntmps127;go_wp2_with fail;refine bodyPost_ret (results_cell_row (fn:=Tryz.f127) (p:=4) (ty:=102) rfl _ _ _ _ _ _ _ rfl (a2l _ _ _) Tryz.underlying102 rfl a6a) rfl ?_;exact⟨rfl,((Below.refl w.heap.size w).alloc (Nat.le_refl _) _).alloc (by simp) _,a0o (a0i _ _) _⟩
theorem c7s:(Tryz.prog.info? 103).map (·.size)=some 12:=by kernel_rfl
theorem c7t {w:World} {m t:Nat} (h:w.heap[m]?=some (.cells #[.nilFunc,.nilFunc,.nilFunc,.nilFunc,.nilFunc,.nilFunc,.nilFunc,.nilFunc,.nilFunc,.nilFunc,.nilFunc,.nilFunc] t (0,0))):(w.cell? ⟨m,0,none⟩=some .nilFunc/\w.cell? ⟨m,1,none⟩=some .nilFunc/\w.cell? ⟨m,2,none⟩=some .nilFunc/\w.cell? ⟨m,3,none⟩=some .nilFunc/\w.cell? ⟨m,4,none⟩=some .nilFunc/\w.cell? ⟨m,5,none⟩=some .nilFunc/\w.cell? ⟨m,6,none⟩=some .nilFunc/\w.cell? ⟨m,7,none⟩=some .nilFunc/\w.cell? ⟨m,8,none⟩=some .nilFunc/\w.cell? ⟨m,9,none⟩=some .nilFunc/\w.cell? ⟨m,10,none⟩=some .nilFunc/\w.cell? ⟨m,11,none⟩=some .nilFunc)/\(w.frozen? ⟨m,0,none⟩=false/\w.frozen? ⟨m,1,none⟩=false/\w.frozen? ⟨m,2,none⟩=false/\w.frozen? ⟨m,3,none⟩=false/\w.frozen? ⟨m,4,none⟩=false/\w.frozen? ⟨m,5,none⟩=false/\w.frozen? ⟨m,6,none⟩=false/\w.frozen? ⟨m,7,none⟩=false/\w.frozen? ⟨m,8,none⟩=false/\w.frozen? ⟨m,9,none⟩=false/\w.frozen? ⟨m,10,none⟩=false/\w.frozen? ⟨m,11,none⟩=false):=⟨⟨(a0a h 0).trans rfl,(a0a h 1).trans rfl,(a0a h 2).trans rfl,(a0a h 3).trans rfl,(a0a h 4).trans rfl,(a0a h 5).trans rfl,(a0a h 6).trans rfl,(a0a h 7).trans rfl,(a0a h 8).trans rfl,(a0a h 9).trans rfl,(a0a h 10).trans rfl,(a0a h 11).trans rfl⟩,a0e h 0,a0e h 1,a0e h 2,a0e h 3,a0e h 4,a0e h 5,a0e h 6,a0e h 7,a0e h 8,a0e h 9,a0e h 10,a0e h 11⟩
theorem c7u {w:World} {m t:Nat} (h:w.heap[m]?=some (.cells #[.nilFunc,.nilFunc,.nilFunc,.nilFunc,.nilFunc,.nilFunc,.nilFunc,.nilFunc,.nilFunc,.nilFunc,.nilFunc,.nilFunc] t (0,0))) (x0 x1 x2 x3 x4 x5 x6 x7 x8 x9 x10 x11:Value):((((((((((((w.setCell ⟨m,0,none⟩ x0).setCell ⟨m,1,none⟩ x1).setCell ⟨m,2,none⟩ x2).setCell ⟨m,3,none⟩ x3).setCell ⟨m,4,none⟩ x4).setCell ⟨m,5,none⟩ x5).setCell ⟨m,6,none⟩ x6).setCell ⟨m,7,none⟩ x7).setCell ⟨m,8,none⟩ x8).setCell ⟨m,9,none⟩ x9).setCell ⟨m,10,none⟩ x10).setCell ⟨m,11,none⟩ x11).heap[m]?=some (.cells #[x0,x1,x2,x3,x4,x5,x6,x7,x8,x9,x10,x11] t (0,0)):=by
 have h0:(w.setCell ⟨m,0,none⟩ x0).heap[m]?=some (.cells #[x0,.nilFunc,.nilFunc,.nilFunc,.nilFunc,.nilFunc,.nilFunc,.nilFunc,.nilFunc,.nilFunc,.nilFunc,.nilFunc] t (0,0)):=(a0x h 0 x0).trans rfl;have h1:((w.setCell ⟨m,0,none⟩ x0).setCell ⟨m,1,none⟩ x1).heap[m]?=some (.cells #[x0,x1,.nilFunc,.nilFunc,.nilFunc,.nilFunc,.nilFunc,.nilFunc,.nilFunc,.nilFunc,.nilFunc,.nilFunc] t (0,0)):=(a0x h0 1 x1).trans rfl;have h2:(((w.setCell ⟨m,0,none⟩ x0).setCell ⟨m,1,none⟩ x1).setCell ⟨m,2,none⟩ x2).heap[m]?=some (.cells #[x0,x1,x2,.nilFunc,.nilFunc,.nilFunc,.nilFunc,.nilFunc,.nilFunc,.nilFunc,.nilFunc,.nilFunc] t (0,0)):=(a0x h1 2 x2).trans rfl;have h3:((((w.setCell ⟨m,0,none⟩ x0).setCell ⟨m,1,none⟩ x1).setCell ⟨m,2,none⟩ x2).setCell ⟨m,3,none⟩ x3).heap[m]?=some (.cells #[x0,x1,x2,x3,.nilFunc,.nilFunc,.nilFunc,.nilFunc,.nilFunc,.nilFunc,.nilFunc,.nilFunc] t (0,0)):=(a0x h2 3 x3).trans rfl;have h4:(((((w.setCell ⟨m,0,none⟩ x0).setCell ⟨m,1,none⟩ x1).setCell ⟨m,2,none⟩ x2).setCell ⟨m,3,none⟩ x3).setCell ⟨m,4,none⟩ x4).heap[m]?=some (.cells #[x0,x1,x2,x3,x4,.nilFunc,.nilFunc,.nilFunc,.nilFunc,.nilFunc,.nilFunc,.nilFunc] t (0,0)):=(a0x h3 4 x4).trans rfl;have h5:((((((w.setCell ⟨m,0,none⟩ x0).setCell ⟨m,1,none⟩ x1).setCell ⟨m,2,none⟩ x2).setCell ⟨m,3,none⟩ x3).setCell ⟨m,4,none⟩ x4).setCell ⟨m,5,none⟩ x5).heap[m]?=some (.cells #[x0,x1,x2,x3,x4,x5,.nilFunc,.nilFunc,.nilFunc,.nilFunc,.nilFunc,.nilFunc] t (0,0)):=(a0x h4 5 x5).trans rfl;have h6:(((((((w.setCell ⟨m,0,none⟩ x0).setCell ⟨m,1,none⟩ x1).setCell ⟨m,2,none⟩ x2).setCell ⟨m,3,none⟩ x3).setCell ⟨m,4,none⟩ x4).setCell ⟨m,5,none⟩ x5).setCell ⟨m,6,none⟩ x6).heap[m]?=some (.cells #[x0,x1,x2,x3,x4,x5,x6,.nilFunc,.nilFunc,.nilFunc,.nilFunc,.nilFunc] t (0,0)):=(a0x h5 6 x6).trans rfl
 have h7:((((((((w.setCell ⟨m,0,none⟩ x0).setCell ⟨m,1,none⟩ x1).setCell ⟨m,2,none⟩ x2).setCell ⟨m,3,none⟩ x3).setCell ⟨m,4,none⟩ x4).setCell ⟨m,5,none⟩ x5).setCell ⟨m,6,none⟩ x6).setCell ⟨m,7,none⟩ x7).heap[m]?=some (.cells #[x0,x1,x2,x3,x4,x5,x6,x7,.nilFunc,.nilFunc,.nilFunc,.nilFunc] t (0,0)):=(a0x h6 7 x7).trans rfl;have h8:(((((((((w.setCell ⟨m,0,none⟩ x0).setCell ⟨m,1,none⟩ x1).setCell ⟨m,2,none⟩ x2).setCell ⟨m,3,none⟩ x3).setCell ⟨m,4,none⟩ x4).setCell ⟨m,5,none⟩ x5).setCell ⟨m,6,none⟩ x6).setCell ⟨m,7,none⟩ x7).setCell ⟨m,8,none⟩ x8).heap[m]?=some (.cells #[x0,x1,x2,x3,x4,x5,x6,x7,x8,.nilFunc,.nilFunc,.nilFunc] t (0,0)):=(a0x h7 8 x8).trans rfl;have h9:((((((((((w.setCell ⟨m,0,none⟩ x0).setCell ⟨m,1,none⟩ x1).setCell ⟨m,2,none⟩ x2).setCell ⟨m,3,none⟩ x3).setCell ⟨m,4,none⟩ x4).setCell ⟨m,5,none⟩ x5).setCell ⟨m,6,none⟩ x6).setCell ⟨m,7,none⟩ x7).setCell ⟨m,8,none⟩ x8).setCell ⟨m,9,none⟩ x9).heap[m]?=some (.cells #[x0,x1,x2,x3,x4,x5,x6,x7,x8,x9,.nilFunc,.nilFunc] t (0,0)):=(a0x h8 9 x9).trans rfl;have h10:(((((((((((w.setCell ⟨m,0,none⟩ x0).setCell ⟨m,1,none⟩ x1).setCell ⟨m,2,none⟩ x2).setCell ⟨m,3,none⟩ x3).setCell ⟨m,4,none⟩ x4).setCell ⟨m,5,none⟩ x5).setCell ⟨m,6,none⟩ x6).setCell ⟨m,7,none⟩ x7).setCell ⟨m,8,none⟩ x8).setCell ⟨m,9,none⟩ x9).setCell ⟨m,10,none⟩ x10).heap[m]?=some (.cells #[x0,x1,x2,x3,x4,x5,x6,x7,x8,x9,x10,.nilFunc] t (0,0)):=(a0x h9 10 x10).trans rfl;have h11:((((((((((((w.setCell ⟨m,0,none⟩ x0).setCell ⟨m,1,none⟩ x1).setCell ⟨m,2,none⟩ x2).setCell ⟨m,3,none⟩ x3).setCell ⟨m,4,none⟩ x4).setCell ⟨m,5,none⟩ x5).setCell ⟨m,6,none⟩ x6).setCell ⟨m,7,none⟩ x7).setCell ⟨m,8,none⟩ x8).setCell ⟨m,9,none⟩ x9).setCell ⟨m,10,none⟩ x10).setCell ⟨m,11,none⟩ x11).heap[m]?=some (.cells #[x0,x1,x2,x3,x4,x5,x6,x7,x8,x9,x10,x11] t (0,0)):=(a0x h10 11 x11).trans rfl
 exact h11
theorem far12 {w:World} {m p:Nat} {v:Value} (h:w.cell? ⟨p,0,none⟩=some v) (hm:m≠p) (x0 x1 x2 x3 x4 x5 x6 x7 x8 x9 x10 x11:Value):((((((((((((w.setCell ⟨m,0,none⟩ x0).setCell ⟨m,1,none⟩ x1).setCell ⟨m,2,none⟩ x2).setCell ⟨m,3,none⟩ x3).setCell ⟨m,4,none⟩ x4).setCell ⟨m,5,none⟩ x5).setCell ⟨m,6,none⟩ x6).setCell ⟨m,7,none⟩ x7).setCell ⟨m,8,none⟩ x8).setCell ⟨m,9,none⟩ x9).setCell ⟨m,10,none⟩ x10).setCell ⟨m,11,none⟩ x11).cell? ⟨p,0,none⟩=some v:=by
 have hne:∀ k,(⟨m,k,none⟩:Addr)≠⟨p,0,none⟩:=λ k e=>by injection e with e1;exact hm e1
 exact((World.cell?_setCell_other _ _ _ _ (hne 11)).trans ((World.cell?_setCell_other _ _ _ _ (hne 10)).trans ((World.cell?_setCell_other _ _ _ _ (hne 9)).trans ((World.cell?_setCell_other _ _ _ _ (hne 8)).trans ((World.cell?_setCell_other _ _ _ _ (hne 7)).trans ((World.cell?_setCell_other _ _ _ _ (hne 6)).trans ((World.cell?_setCell_other _ _ _ _ (hne 5)).trans ((World.cell?_setCell_other _ _ _ _ (hne 4)).trans ((World.cell?_setCell_other _ _ _ _ (hne 3)).trans ((World.cell?_setCell_other _ _ _ _ (hne 2)).trans ((World.cell?_setCell_other _ _ _ _ (hne 1)).trans ((World.cell?_setCell_other _ _ _ _ (hne 0)).trans h))))))))))))
def a1B (p q:Nat):Array Value:=#[.func (.func 176) #[] #[.pointer (some ⟨p,0,none⟩)],.func (.func 178) #[] #[.pointer (some ⟨p,0,none⟩)],.func (.func 128) #[] #[],
 .func (.func 176) #[] #[.pointer (some ⟨q,0,none⟩)],.func (.func 178) #[] #[.pointer (some ⟨q,0,none⟩)],.func (.func 129) #[] #[],
 .func (.func 130) #[] #[],.func (.func 131) #[] #[],.func (.func 132) #[] #[],
 .func (.func 63) #[] #[],.func (.func 23) #[] #[],.func (.func 132) #[] #[]]
def c7v (w:World) (e:Ending) (w':World):Prop:=∃ p q,e=.returned (.agg (a1B p q))/\w'.cell? ⟨p,0,none⟩=some (.int .i64 0)/\w'.cell? ⟨q,0,none⟩=some (.int .i64 1)/\Below w.heap.size w w'
theorem a2v (w:World):Calls Tryz.prog 80 #[] w (c7v w):=by
 obtain⟨W0,hW0⟩:∃ W0,W0=w.alloc (.cells #[.nilFunc,.nilFunc,.nilFunc,.nilFunc,.nilFunc,.nilFunc,.nilFunc,.nilFunc,.nilFunc,.nilFunc,.nilFunc,.nilFunc] 103):=⟨_,rfl⟩;have hb0:Below w.heap.size w W0:=by rw[hW0];exact(Below.refl _ _).alloc (Nat.le_refl _) _
 have hk0:W0.heap[w.heap.size]?=some (.cells #[.nilFunc,.nilFunc,.nilFunc,.nilFunc,.nilFunc,.nilFunc,.nilFunc,.nilFunc,.nilFunc,.nilFunc,.nilFunc,.nilFunc] 103 (0,0)):=by rw[hW0];exact a0i _ _
 have hs0:W0.heap.size=w.heap.size+1:=by rw[hW0];simp
 obtain⟨m,hm⟩:∃ m,m=w.heap.size:=⟨_,rfl⟩;rw[<- hm] at hk0;have HK:=Lib.hid (And.intro hk0 (And.intro hb0 (And.intro hm hs0)));clear hk0 hb0 hs0;go_enter Tryz.func80,Tryz.ntmps80;go_wp2_with fail;rw[<- hW0,<- hm];clear hW0 hm;refine(b6T 0 128 W0).mono ?_;rintro e w1 ⟨rfl,hb1,hp1⟩;obtain⟨p,hp⟩:∃ p,p=W0.heap.size:=⟨_,rfl⟩;rw[<- hp] at hp1 ⊢;have H1:=Lib.hid (And.intro hb1 (And.intro hp1 hp));clear hb1 hp1 hp;unfold b0H;go_wp2_with fail;refine(b6T 1 129 w1).mono ?_;rintro e w2 ⟨rfl,hb2,hq2⟩;obtain⟨q,hq⟩:∃ q,q=w1.heap.size:=⟨_,rfl⟩;rw[<- hq] at hq2 ⊢;have H2:=Lib.hid (And.intro hb2 (And.intro hq2 hq));have hk2:=a0h (a0h HK.out.1 H1.out.1) hb2;obtain⟨⟨c0,c1,c2,c3,c4,c5,c6,c7,c8,c9,c10,c11⟩,f0,f1,f2,f3,f4,f5,f6,f7,f8,f9,f10,f11⟩:=c7t hk2;have HK2:=Lib.hid hk2;clear hb2 hq2 hq hk2;unfold b0H;go_wp2_with fail;refine bodyPost_ret (results_cell_row (fn:=Tryz.f80) (p:=0) (ty:=103) rfl _ _ _ _ _ _ _ rfl (c7u HK2.out _ _ _ _ _ _ _ _ _ _ _ _) Tryz.underlying103 rfl c7s) rfl ?_;have hm:w.heap.size<=m:=by have:=HK.out.2.2.1;omega
 have hpm:m≠p:=by have h1:=H1.out.2.2;have h2:=HK.out.2.2.1;have h3:=HK.out.2.2.2;omega
 have hqm:m≠q:=by have h1:=H2.out.2.2;have h2:=HK.out.2.2.1;have h3:=HK.out.2.2.2;have h4:=H1.out.1.size;omega
 have HB:Below w.heap.size w w2:=a0f (a0f HK.out.2.1 H1.out.1) H2.out.1;have hp2:w2.cell? ⟨p,0,none⟩=some (.int .i64 0):=a0p H2.out.1 ((a0a H1.out.2.1 0).trans rfl);have hq2:w2.cell? ⟨q,0,none⟩=some (.int .i64 1):=(a0a H2.out.2.1 0).trans rfl;exact⟨p,q,rfl,far12 hp2 hpm _ _ _ _ _ _ _ _ _ _ _ _,far12 hq2 hqm _ _ _ _ _ _ _ _ _ _ _ _,((((((((((((HB.setCell hm _).setCell hm _).setCell hm _).setCell hm _).setCell hm _).setCell hm _).setCell hm _).setCell hm _).setCell hm _).setCell hm _).setCell hm _).setCell hm _)⟩
theorem a2N (k:Int) (w:World):Calls Tryz.prog 83 #[.int .i64 k] w λ e w'=>e=.returned (.bool (decide (0<=k/\k<4)))/\w=w':=by
 by_cases h0:0<=k
 · by_cases h1:k<4
   · have d:decide (0<=k/\k<4)=true:=decide_eq_true ⟨h0,h1⟩;rw[d];have d0:=decide_eq_true h0;have d1:=decide_eq_true h1;clear d;go_enter Tryz.func83,Tryz.ntmps83;go_wp2_with fail;go_ret;exact⟨rfl,rfl⟩
   · have d:decide (0<=k/\k<4)=false:=decide_eq_false (λ h=>h1 h.2);rw[d];have d1:=decide_eq_false h1;clear d h1;go_enter Tryz.func83,Tryz.ntmps83;go_wp2_with fail;go_ret;exact⟨by simp,rfl⟩
 · have d:decide (0<=k/\k<4)=false:=decide_eq_false (λ h=>h0 h.1);rw[d];have d0:=decide_eq_false h0;clear d h0;go_enter Tryz.func83,Tryz.ntmps83;go_wp2_with fail;go_ret;exact⟨by simp,rfl⟩
theorem b6U {x:Int×List Int} (A:Option Addr) (c p:Nat) (k:Int) (b:List Int) (w:World) (hp:w.cell? ⟨p,0,none⟩=some (.int .i64 k)) (h:Calls Tryz.prog 177 #[.int .i64 k,.slice A b.length c] w (Told x.1 x.2 w)) :
    Calls Tryz.prog 176 #[.slice A b.length c,.pointer (some ⟨p,0,none⟩)] w (Told x.1 x.2 w):=by
 have H:=Lib.hid h;clear h;go_enter Tryz.func176,Tryz.ntmps176;go_wp2_with fail;refine H.out.mono ?_;rintro e w' ⟨A1,c1,rfl,hv,hb⟩;have H1:=Lib.hid (And.intro hv hb);clear hv hb;go_wp2_with fail;go_ret2;exact⟨A1,c1,rfl,H1.out.1,H1.out.2⟩
theorem b0I (p q:Nat) (w:World):(Instr.index 103 (.agg (a1B p q)) (.int .i64 0)).run Tryz.prog w=.ok (.agg #[.func (.func 176) #[] #[.pointer (some ⟨p,0,none⟩)],.func (.func 178) #[] #[.pointer (some ⟨p,0,none⟩)],.func (.func 128) #[] #[]]) w:=by
 obtain⟨i0,hi0,hsz⟩:=Option.map_eq_some_iff.1 a6a;have hag:(isAgg 102).run Tryz.prog w=.ok true w:=by simp[isAgg,Tryz.underlying102,go_sem,run_underlying]
 unfold Instr.index a1B;simp[run_underlying (P:=Tryz.prog) Tryz.underlying103,asIntOf,sizeOf,typeInfo,hi0,hsz,part,hag,Result.andThen]
theorem b0J (p q:Nat) (w:World):(Instr.index 103 (.agg (a1B p q)) (.int .i64 1)).run Tryz.prog w=.ok (.agg #[.func (.func 176) #[] #[.pointer (some ⟨q,0,none⟩)],.func (.func 178) #[] #[.pointer (some ⟨q,0,none⟩)],.func (.func 129) #[] #[]]) w:=by
 obtain⟨i0,hi0,hsz⟩:=Option.map_eq_some_iff.1 a6a;have hag:(isAgg 102).run Tryz.prog w=.ok true w:=by simp[isAgg,Tryz.underlying102,go_sem,run_underlying]
 unfold Instr.index a1B;simp[run_underlying (P:=Tryz.prog) Tryz.underlying103,asIntOf,sizeOf,typeInfo,hi0,hsz,part,hag,Result.andThen]
theorem b0K (p q:Nat) (w:World):(Instr.index 103 (.agg (a1B p q)) (.int .i64 2)).run Tryz.prog w=.ok (.agg #[.func (.func 130) #[] #[],.func (.func 131) #[] #[],.func (.func 132) #[] #[]]) w:=by
 obtain⟨i0,hi0,hsz⟩:=Option.map_eq_some_iff.1 a6a;have hag:(isAgg 102).run Tryz.prog w=.ok true w:=by simp[isAgg,Tryz.underlying102,go_sem,run_underlying]
 unfold Instr.index a1B;simp[run_underlying (P:=Tryz.prog) Tryz.underlying103,asIntOf,sizeOf,typeInfo,hi0,hsz,part,hag,Result.andThen]
theorem b0L (p q:Nat) (w:World):(Instr.index 103 (.agg (a1B p q)) (.int .i64 3)).run Tryz.prog w=.ok (.agg #[.func (.func 63) #[] #[],.func (.func 23) #[] #[],.func (.func 132) #[] #[]]) w:=by
 obtain⟨i0,hi0,hsz⟩:=Option.map_eq_some_iff.1 a6a;have hag:(isAgg 102).run Tryz.prog w=.ok true w:=by simp[isAgg,Tryz.underlying102,go_sem,run_underlying]
 unfold Instr.index a1B;simp[run_underlying (P:=Tryz.prog) Tryz.underlying103,asIntOf,sizeOf,typeInfo,hi0,hsz,part,hag,Result.andThen]
theorem a8h (a b c:Value) (w:World):(Instr.field 102 (.agg #[a,b,c]) 0).run Tryz.prog w=.ok a w:=by kernel_rfl
theorem a8i (a b c:Value) (w:World):(Instr.field 102 (.agg #[a,b,c]) 1).run Tryz.prog w=.ok b w:=by kernel_rfl
theorem a8j (a b c:Value) (w:World):(Instr.field 102 (.agg #[a,b,c]) 2).run Tryz.prog w=.ok c w:=by kernel_rfl
theorem b6V {k:Int} {b:List Int} (h:¬ (0<=k/\k<4)):pickE k b=(10,[]):=by unfold pickE;rw[if_pos (by omega)]
theorem a5l {k:Int} {b:List Int} (h0:0<=k) (h1:k<=1):pickE k b=a1z k b:=by unfold pickE;rw[if_neg (by omega),if_pos h1]
theorem c7w {k:Int} {b:List Int} (h0:2<=k) (h1:k<=3) (hb:b.length=0):pickE k b=(1,[]):=by unfold pickE;rw[if_neg (by omega),if_neg (by omega),if_pos hb]
theorem b6W {b:List Int} (hb:0<b.length):pickE 2 b=(0,a1m b):=by unfold pickE;rw[if_neg (by decide),if_neg (by decide),if_neg (by omega),if_pos rfl]
theorem b6X {b:List Int} (hb:0<b.length):pickE 3 b=(0,a1i b):=by unfold pickE;rw[if_neg (by decide),if_neg (by decide),if_neg (by omega),if_neg (by decide)]
theorem c7x (A:Option Addr) (c:Nat) (k:Int) (b:List Int) (w:World) (h:¬ (0<=k/\k<4)) :
    Calls Tryz.prog 126 #[.int .i64 k,.slice A b.length c] w (Told 10 [] w):=by
 have hd:=decide_eq_false h;have HI:=Lib.hid (a2N k w);rw[hd] at HI;clear hd h;go_enter Tryz.func126,Tryz.ntmps126;go_wp2_with fail;refine HI.out.mono ?_;rintro e w' ⟨rfl,rfl⟩;go_wp2_with fail;go_ret2;exact Told.nil 10 (Below.refl _ _)
theorem c7y {x:Int×List Int} (A:Option Addr) (c:Nat) (b:List Int) (w:World) (h:∀ (W:World) (p q:Nat),Below w.heap.size w W->W.cell? ⟨p,0,none⟩=some (.int .i64 0)->W.cell? ⟨q,0,none⟩=some (.int .i64 1)->Calls Tryz.prog 176 #[.slice A b.length c,.pointer (some ⟨p,0,none⟩)] W (Told x.1 x.2 W)) :
    Calls Tryz.prog 126 #[.int .i64 0,.slice A b.length c] w (Told x.1 x.2 w):=by
 have H:=Lib.hid h;clear h;go_enter Tryz.func126,Tryz.ntmps126;go_wp2_with fail;refine(a2N 0 w).mono ?_;rintro e w' ⟨rfl,rfl⟩;go_wp2_with fail;refine(a2v w).mono ?_;rintro e w1 ⟨p,q,rfl,hp,hq,hb⟩;have H1:=Lib.hid (H.out w1 p q hb hp hq);have HB:=Lib.hid hb;have hix:=λ W=>b0I p q W;have hkf:=a8h;obtain⟨V,hV⟩:∃ V,V=a1B p q:=⟨_,rfl⟩;rw[<- hV] at hix ⊢;clear hb hp hq hV;go_wp2_with fail;refine H1.out.mono ?_;rintro e w2 ⟨A1,c1,rfl,hv,hb⟩;have H2:=Lib.hid (And.intro hv hb);clear hv hb hix hkf;go_wp2_with fail;go_ret2;exact⟨A1,c1,rfl,Kd.R_lower H2.out.1 HB.out.size,a0f HB.out H2.out.2⟩
theorem c7z {x:Int×List Int} (A:Option Addr) (c:Nat) (b:List Int) (w:World) (h:∀ (W:World) (p q:Nat),Below w.heap.size w W->W.cell? ⟨p,0,none⟩=some (.int .i64 0)->W.cell? ⟨q,0,none⟩=some (.int .i64 1)->Calls Tryz.prog 176 #[.slice A b.length c,.pointer (some ⟨q,0,none⟩)] W (Told x.1 x.2 W)) :
    Calls Tryz.prog 126 #[.int .i64 1,.slice A b.length c] w (Told x.1 x.2 w):=by
 have H:=Lib.hid h;clear h;go_enter Tryz.func126,Tryz.ntmps126;go_wp2_with fail;refine(a2N 1 w).mono ?_;rintro e w' ⟨rfl,rfl⟩;go_wp2_with fail;refine(a2v w).mono ?_;rintro e w1 ⟨p,q,rfl,hp,hq,hb⟩;have H1:=Lib.hid (H.out w1 p q hb hp hq);have HB:=Lib.hid hb;have hix:=λ W=>b0J p q W;have hkf:=a8h;obtain⟨V,hV⟩:∃ V,V=a1B p q:=⟨_,rfl⟩;rw[<- hV] at hix ⊢;clear hb hp hq hV;go_wp2_with fail;refine H1.out.mono ?_;rintro e w2 ⟨A1,c1,rfl,hv,hb⟩;have H2:=Lib.hid (And.intro hv hb);clear hv hb hix hkf;go_wp2_with fail;go_ret2;exact⟨A1,c1,rfl,Kd.R_lower H2.out.1 HB.out.size,a0f HB.out H2.out.2⟩
theorem b6Y {x:Int×List Int} (A:Option Addr) (c:Nat) (b:List Int) (w:World) (h:∀ (W:World) (p q:Nat),Below w.heap.size w W->W.cell? ⟨p,0,none⟩=some (.int .i64 0)->W.cell? ⟨q,0,none⟩=some (.int .i64 1)->Calls Tryz.prog 130 #[.slice A b.length c] W (Told x.1 x.2 W)) :
    Calls Tryz.prog 126 #[.int .i64 2,.slice A b.length c] w (Told x.1 x.2 w):=by
 have H:=Lib.hid h;clear h;go_enter Tryz.func126,Tryz.ntmps126;go_wp2_with fail;refine(a2N 2 w).mono ?_;rintro e w' ⟨rfl,rfl⟩;go_wp2_with fail;refine(a2v w).mono ?_;rintro e w1 ⟨p,q,rfl,hp,hq,hb⟩;have H1:=Lib.hid (H.out w1 p q hb hp hq);have HB:=Lib.hid hb;have hix:=λ W=>b0K p q W;have hkf:=a8h;obtain⟨V,hV⟩:∃ V,V=a1B p q:=⟨_,rfl⟩;rw[<- hV] at hix ⊢;clear hb hp hq hV;go_wp2_with fail;refine H1.out.mono ?_;rintro e w2 ⟨A1,c1,rfl,hv,hb⟩;have H2:=Lib.hid (And.intro hv hb);clear hv hb hix hkf;go_wp2_with fail;go_ret2;exact⟨A1,c1,rfl,Kd.R_lower H2.out.1 HB.out.size,a0f HB.out H2.out.2⟩
theorem b6Z {x:Int×List Int} (A:Option Addr) (c:Nat) (b:List Int) (w:World) (h:∀ (W:World) (p q:Nat),Below w.heap.size w W->W.cell? ⟨p,0,none⟩=some (.int .i64 0)->W.cell? ⟨q,0,none⟩=some (.int .i64 1)->Calls Tryz.prog 63 #[.slice A b.length c] W (Told x.1 x.2 W)) :
    Calls Tryz.prog 126 #[.int .i64 3,.slice A b.length c] w (Told x.1 x.2 w):=by
 have H:=Lib.hid h;clear h;go_enter Tryz.func126,Tryz.ntmps126;go_wp2_with fail;refine(a2N 3 w).mono ?_;rintro e w' ⟨rfl,rfl⟩;go_wp2_with fail;refine(a2v w).mono ?_;rintro e w1 ⟨p,q,rfl,hp,hq,hb⟩;have H1:=Lib.hid (H.out w1 p q hb hp hq);have HB:=Lib.hid hb;have hix:=λ W=>b0L p q W;have hkf:=a8h;obtain⟨V,hV⟩:∃ V,V=a1B p q:=⟨_,rfl⟩;rw[<- hV] at hix ⊢;clear hb hp hq hV;go_wp2_with fail;refine H1.out.mono ?_;rintro e w2 ⟨A1,c1,rfl,hv,hb⟩;have H2:=Lib.hid (And.intro hv hb);clear hv hb hix hkf;go_wp2_with fail;go_ret2;exact⟨A1,c1,rfl,Kd.R_lower H2.out.1 HB.out.size,a0f HB.out H2.out.2⟩
theorem c7A (A:Option Addr) (c:Nat) (k:Int) (b:List Int) (w:World) (hr:(Kd.int .u8).C w A b.length b) (hb:Bytes b) (hl:b.length<=40000) :
    Calls Tryz.prog 126 #[.int .i64 k,.slice A b.length c] w (Told (pickE k b).1 (pickE k b).2 w):=by
 by_cases h:0<=k/\k<4
 · by_cases k0:k=0
   · subst k0;exact c7y A c b w (λ W p q hB hp _=>b6U A c p 0 b W hp (by rw[a5l (by decide) (by decide),b0G hl];exact c7q A c b W (Kd.C_below hr hB) hl))
   by_cases k1:k=1
   · subst k1;exact c7z A c b w (λ W p q hB _ hq=>b6U A c q 1 b W hq (by rw[a5l (by decide) (by decide)];exact c7r A c b W (Kd.C_below hr hB) hl))
   rcases Nat.eq_zero_or_pos b.length with h0 | h0
   · rw[c7w (by omega) (by omega) h0]
     by_cases k2:k=2
     · subst k2
       exact b6Y (x:=(1,[])) A c b w (λ W p q hB _ _=>(b6b A c b W (Kd.C_below hr hB) hb hl).mono λ e w' h=>by
        rcases h with ⟨_,rfl,hbl⟩ | ⟨h,_⟩
        · exact Told.nil 1 hbl
        · omega)
     · obtain rfl:k=3:=by omega
       exact b6Z (x:=(1,[])) A c b w (λ W p q hB _ _=>by
        rw[h0];exact(b6S A c W).mono λ e w' ⟨he,hbl⟩=>by subst he;exact Told.nil 1 hbl)
   · by_cases k2:k=2
     · subst k2;rw[b6W h0];exact b6Y (x:=(0,a1m b)) A c b w (λ W p q hB _ _=>c5P A c b W (Kd.C_below hr hB) hb hl h0)
     · obtain rfl:k=3:=by omega
       rw[b6X h0];exact b6Z (x:=(0,a1i b)) A c b w (λ W p q hB _ _=>b0F A c b W (Kd.C_below hr hB) hb hl h0)
 · rw[b6V h];exact c7x A c k b w h
theorem c7B (n m:Int) (w:World):Calls Tryz.prog 128 #[.int .i64 n,.int .i64 m] w λ e w'=>e=.returned (.bool (mayB 0 n m))/\w=w':=by
 go_enter Tryz.func128,Tryz.ntmps128;go_wp2_with fail;go_ret;exact⟨rfl,rfl⟩
theorem c7C (n m:Int) (w:World):Calls Tryz.prog 129 #[.int .i64 n,.int .i64 m] w λ e w'=>e=.returned (.bool (mayB 1 n m))/\w=w':=by
 by_cases h:1<n
 · have d:=decide_eq_true h;have e:mayB 1 n m=decide (m=1):=by unfold mayB;rw[if_neg (by decide),if_pos rfl];simp[h]
   rw[e];go_enter Tryz.func129,Tryz.ntmps129;go_wp2_with fail;go_ret;exact⟨rfl,rfl⟩
 · have d:=decide_eq_false h;have e:mayB 1 n m=false:=by unfold mayB;rw[if_neg (by decide),if_pos rfl];simp[h]
   rw[e];clear h e;go_enter Tryz.func129,Tryz.ntmps129;go_wp2_with fail;go_ret;exact⟨by simp,rfl⟩
theorem b7a (k n m:Int) (hk:2<=k) (w:World):Calls Tryz.prog 132 #[.int .i64 n,.int .i64 m] w λ e w'=>e=.returned (.bool (mayB k n m))/\w=w':=by
 by_cases h:1<=m
 · have d:=decide_eq_true h;have e:mayB k n m=decide (m<n):=by unfold mayB;rw[if_neg (by omega),if_neg (by omega)];simp[h]
   rw[e];go_enter Tryz.func132,Tryz.ntmps132;go_wp2_with fail;go_ret;exact⟨by first | rfl | simp,rfl⟩
 · have d:=decide_eq_false h;have e:mayB k n m=false:=by unfold mayB;rw[if_neg (by omega),if_neg (by omega)];simp[h]
   rw[e];clear h e;go_enter Tryz.func132,Tryz.ntmps132;go_wp2_with fail;go_ret;exact⟨by simp,rfl⟩
def a1E (k n m:Int) (w:World) (e:Ending) (w':World):Prop:=e=.returned (.int .i64 (a0E k n m))/\Below w.heap.size w w'
theorem b0M {k n m:Int} (h:¬ (0<=k/\k<4)):a0E k n m=10:=by unfold a0E;rw[if_pos (by omega)]
theorem b0N {k n m:Int} (h:0<=k/\k<4) (hn:n<0\/131072<n):a0E k n m=11:=by unfold a0E;rw[if_neg (by omega),if_pos (by omega)]
theorem a3V {k n m:Int} (h:0<=k/\k<4) (hn:0<=n/\n<=131072) (hm:mayB k n m=true):a0E k n m=0:=by unfold a0E;rw[if_neg (by omega),if_neg (by rw[hm];simp;omega)]
theorem a2O {k n m:Int} (h:0<=k/\k<4) (hm:mayB k n m=false):a0E k n m=11:=by unfold a0E;rw[if_neg (by omega),if_pos (.inr (.inr hm))]
theorem c7D (k n m:Int) (w:World) (h:¬ (0<=k/\k<4)):Calls Tryz.prog 30 #[.int .i64 k,.int .i64 n,.int .i64 m] w (a1E k n m w):=by
 unfold a1E;rw[b0M h];have hd:=decide_eq_false h;have HI:=Lib.hid (a2N k w);rw[hd] at HI;clear hd h;go_enter Tryz.func30,Tryz.ntmps30;go_wp2_with fail;refine HI.out.mono ?_;rintro e w' ⟨rfl,rfl⟩;go_wp2_with fail;go_ret;exact⟨rfl,Below.refl _ _⟩
theorem c7E (k n m:Int) (w:World) (h:0<=k/\k<4) (hn:n<0\/131072<n):Calls Tryz.prog 30 #[.int .i64 k,.int .i64 n,.int .i64 m] w (a1E k n m w):=by
 unfold a1E;rw[b0N h hn];have hd:=decide_eq_true h;have HI:=Lib.hid (a2N k w);rw[hd] at HI
 have hn2:decide (n<0)=true\/(decide (n<0)=false/\decide (131072<n)=true):=by
  by_cases h5:n<0
  · exact .inl (decide_eq_true h5)
  · exact .inr ⟨decide_eq_false h5,decide_eq_true (by omega)⟩
 clear hd h hn;rcases hn2 with h1 | ⟨h1,h2⟩
 all_goals
  go_enter Tryz.func30,Tryz.ntmps30;go_wp2_with fail;refine HI.out.mono ?_;rintro e w' ⟨rfl,rfl⟩;go_wp2_with fail;go_ret;exact⟨rfl,Below.refl _ _⟩
theorem c7F (n m:Int) (w:World) (hn:0<=n/\n<=131072):Calls Tryz.prog 30 #[.int .i64 0,.int .i64 n,.int .i64 m] w (a1E 0 n m w):=by
 unfold a1E;have h1:decide (n<0)=false:=decide_eq_false (by omega);have h2:decide (131072<n)=false:=decide_eq_false (by omega);obtain⟨z,hz⟩:∃ z,z=mayB 0 n m:=⟨_,rfl⟩;have HM:=Lib.hid (λ W=>c7B n m W)
 have hE:a0E 0 n m=if z=true then 0 else 11:=by
  cases z with
  | true=>rw[a3V (by decide) hn hz.symm];rfl
  | false=>rw[a2O (by decide) hz.symm];rfl
 rw[<- hz] at HM;rw[hE];clear hz hE hn;go_enter Tryz.func30,Tryz.ntmps30;go_wp2_with fail;refine(a2N 0 w).mono ?_;rintro e w' ⟨rfl,rfl⟩;go_wp2_with fail;refine(a2v w).mono ?_;rintro e w1 ⟨p,q,rfl,-,-,hb⟩;have HB:=Lib.hid hb;have hix:=λ W=>b0I p q W;have hkf:=a8j;obtain⟨V,hV⟩:∃ V,V=a1B p q:=⟨_,rfl⟩;rw[<- hV] at hix ⊢;clear hb hV;go_wp2_with fail;refine(HM.out w1).mono ?_;rintro e w2 ⟨rfl,rfl⟩;clear hix hkf
 cases z with
 | true=>
  go_wp2_with fail;go_ret;exact⟨rfl,HB.out⟩
 | false=>
  go_wp2_with fail;go_ret;exact⟨rfl,HB.out⟩
theorem c7G (n m:Int) (w:World) (hn:0<=n/\n<=131072):Calls Tryz.prog 30 #[.int .i64 1,.int .i64 n,.int .i64 m] w (a1E 1 n m w):=by
 unfold a1E;have h1:decide (n<0)=false:=decide_eq_false (by omega);have h2:decide (131072<n)=false:=decide_eq_false (by omega);obtain⟨z,hz⟩:∃ z,z=mayB 1 n m:=⟨_,rfl⟩;have HM:=Lib.hid (λ W=>c7C n m W)
 have hE:a0E 1 n m=if z=true then 0 else 11:=by
  cases z with
  | true=>rw[a3V (by decide) hn hz.symm];rfl
  | false=>rw[a2O (by decide) hz.symm];rfl
 rw[<- hz] at HM;rw[hE];clear hz hE hn;go_enter Tryz.func30,Tryz.ntmps30;go_wp2_with fail;refine(a2N 1 w).mono ?_;rintro e w' ⟨rfl,rfl⟩;go_wp2_with fail;refine(a2v w).mono ?_;rintro e w1 ⟨p,q,rfl,-,-,hb⟩;have HB:=Lib.hid hb;have hix:=λ W=>b0J p q W;have hkf:=a8j;obtain⟨V,hV⟩:∃ V,V=a1B p q:=⟨_,rfl⟩;rw[<- hV] at hix ⊢;clear hb hV;go_wp2_with fail;refine(HM.out w1).mono ?_;rintro e w2 ⟨rfl,rfl⟩;clear hix hkf
 cases z with
 | true=>
  go_wp2_with fail;go_ret;exact⟨rfl,HB.out⟩
 | false=>
  go_wp2_with fail;go_ret;exact⟨rfl,HB.out⟩
theorem c7H (n m:Int) (w:World) (hn:0<=n/\n<=131072):Calls Tryz.prog 30 #[.int .i64 2,.int .i64 n,.int .i64 m] w (a1E 2 n m w):=by
 unfold a1E;have h1:decide (n<0)=false:=decide_eq_false (by omega);have h2:decide (131072<n)=false:=decide_eq_false (by omega);obtain⟨z,hz⟩:∃ z,z=mayB 2 n m:=⟨_,rfl⟩;have HM:=Lib.hid (λ W=>b7a 2 n m (by decide) W)
 have hE:a0E 2 n m=if z=true then 0 else 11:=by
  cases z with
  | true=>rw[a3V (by decide) hn hz.symm];rfl
  | false=>rw[a2O (by decide) hz.symm];rfl
 rw[<- hz] at HM;rw[hE];clear hz hE hn;go_enter Tryz.func30,Tryz.ntmps30;go_wp2_with fail;refine(a2N 2 w).mono ?_;rintro e w' ⟨rfl,rfl⟩;go_wp2_with fail;refine(a2v w).mono ?_;rintro e w1 ⟨p,q,rfl,-,-,hb⟩;have HB:=Lib.hid hb;have hix:=λ W=>b0K p q W;have hkf:=a8j;obtain⟨V,hV⟩:∃ V,V=a1B p q:=⟨_,rfl⟩;rw[<- hV] at hix ⊢;clear hb hV;go_wp2_with fail;refine(HM.out w1).mono ?_;rintro e w2 ⟨rfl,rfl⟩;clear hix hkf
 cases z with
 | true=>
  go_wp2_with fail;go_ret;exact⟨rfl,HB.out⟩
 | false=>
  go_wp2_with fail;go_ret;exact⟨rfl,HB.out⟩
theorem c7I (n m:Int) (w:World) (hn:0<=n/\n<=131072):Calls Tryz.prog 30 #[.int .i64 3,.int .i64 n,.int .i64 m] w (a1E 3 n m w):=by
 unfold a1E;have h1:decide (n<0)=false:=decide_eq_false (by omega);have h2:decide (131072<n)=false:=decide_eq_false (by omega);obtain⟨z,hz⟩:∃ z,z=mayB 3 n m:=⟨_,rfl⟩;have HM:=Lib.hid (λ W=>b7a 3 n m (by decide) W)
 have hE:a0E 3 n m=if z=true then 0 else 11:=by
  cases z with
  | true=>rw[a3V (by decide) hn hz.symm];rfl
  | false=>rw[a2O (by decide) hz.symm];rfl
 rw[<- hz] at HM;rw[hE];clear hz hE hn;go_enter Tryz.func30,Tryz.ntmps30;go_wp2_with fail;refine(a2N 3 w).mono ?_;rintro e w' ⟨rfl,rfl⟩;go_wp2_with fail;refine(a2v w).mono ?_;rintro e w1 ⟨p,q,rfl,-,-,hb⟩;have HB:=Lib.hid hb;have hix:=λ W=>b0L p q W;have hkf:=a8j;obtain⟨V,hV⟩:∃ V,V=a1B p q:=⟨_,rfl⟩;rw[<- hV] at hix ⊢;clear hb hV;go_wp2_with fail;refine(HM.out w1).mono ?_;rintro e w2 ⟨rfl,rfl⟩;clear hix hkf
 cases z with
 | true=>
  go_wp2_with fail;go_ret;exact⟨rfl,HB.out⟩
 | false=>
  go_wp2_with fail;go_ret;exact⟨rfl,HB.out⟩
theorem a4u (k n m:Int) (w:World):Calls Tryz.prog 30 #[.int .i64 k,.int .i64 n,.int .i64 m] w (a1E k n m w):=by
 by_cases h:0<=k/\k<4
 · by_cases hn:0<=n/\n<=131072
   · by_cases k0:k=0
     · subst k0;exact c7F n m w hn
     by_cases k1:k=1
     · subst k1;exact c7G n m w hn
     by_cases k2:k=2
     · subst k2;exact c7H n m w hn
     · obtain rfl:k=3:=by omega
       exact c7I n m w hn
   · exact c7E k n m w h (by omega)
 · exact c7D k n m w h
def bestN (b:List Int):Nat->Int×List Int
 | 0=>(0,b)
 | k+1=>a1f ((k+1:Nat):Int) b (bestN b k)
theorem c7M (b:List Int):bestN b 3=bestP b:=rfl
theorem b7d (b:List Int):∀ k,(bestN b k).2.length<=b.length
 | 0=>Nat.le_refl _
 | k+1=>Nat.le_trans (a7Z _ b _).1 (b7d b k)
theorem b7e {k:Int} {b:List Int} {x:Int×List Int} (h0:(pickE k b).1=0) (h1:(pickE k b).2.length<x.2.length):a1f k b x=(k,(pickE k b).2):=by unfold a1f;rw[if_pos ⟨h0,h1⟩]
theorem a8k {k:Int} {b:List Int} {x:Int×List Int} (h:¬ ((pickE k b).1=0/\(pickE k b).2.length<x.2.length)):a1f k b x=x:=by unfold a1f;rw[if_neg h]
def BestPost (b:List Int) (w:World) (e:Ending) (w':World):Prop:=
 ∃ A c,e=.returned (.tuple #[.int .i64 (bestP b).1,.slice A (bestP b).2.length c,.int .i64 0])/\(Kd.int .u8).R 5 w' w.heap.size (λ _=>True) (.slice A (bestP b).2.length c) (bestP b).2/\Below w.heap.size w w'
theorem a5m (A:Option Addr) (c:Nat) (b:List Int) (w:World) (hr:(Kd.int .u8).C w A b.length b) (hb:Bytes b) (hl:b.length<=40000) :
    Calls Tryz.prog 79 #[.slice A b.length c] w (BestPost b w):=by
 have HE:=Lib.hid (λ (k:Int) (W:World) (hB:Below w.heap.size w W)=>c7A A c k b W (Kd.C_below hr hB) hb hl);have HE0:=Lib.hid (HE.out 0 w (Below.refl _ _));have e0:pickE 0 b=(0,b):=by rw[a5l (by decide) (by decide),b0G hl]
 rw[e0] at HE0;have HL:=Lib.hid (And.intro hl e0);clear hr hb hl e0;go_enter Tryz.func79,Tryz.ntmps79;go_wp2_with fail;refine HE0.out.mono ?_;rintro e w1 ⟨A1,c1,rfl,hv1,hb1⟩;have H1:=Lib.hid (And.intro hv1 hb1);clear hv1 hb1;dsimp only;go_wp2_with fail;go_loopw [2,3,5,6,7] (λ nv bv kv xv fv wr=>∃ (k n:Nat) (y:List Int) (B:Option Addr) (cb:Nat),nv=.int .i64 n/\bv=.slice B y.length cb/\kv=.int .i64 ((k+1:Nat):Int)/\k<=3/\Hid (bestN b k=((n:Int),y)/\(Kd.int .u8).R 5 wr w.heap.size (λ _=>True) (.slice B y.length cb) y/\Below w.heap.size w wr)) (λ _ _ kv _ _ _=>4-(intOf kv).toNat)
 case atStart=>exact⟨0,0,b,A1,c1,rfl,rfl,rfl,by omega,Lib.hid ⟨rfl,H1.out.1,H1.out.2⟩⟩
 case round=>
  obtain⟨k,n,y,B,cb,rfl,rfl,rfl,hk,H⟩:=hrel
  by_cases hlt:k<3
  · have hI:((k+1:Nat):Int)<4:=by omega
    have HC:=Lib.hid (HE.out ((k+1:Nat):Int) wr H.out.2.2);have hyl:=b7d b k;rw[H.out.1] at hyl;have hyl2:y.length<=b.length:=hyl;obtain⟨x,hx⟩:∃ x,x=pickE ((k+1:Nat):Int) b:=⟨_,rfl⟩;have HX:=Lib.hid hx;rw[<- hx] at HC;obtain⟨f,z⟩:=x;have hz:Hid (f=0->z.length<=1000000\/True):=Lib.hid (λ _=>.inr trivial);clear hx hyl hz;go_wp2_with fail;refine HC.out.mono ?_;rintro e w2 ⟨A2,c2,rfl,hv2,hb2⟩;have H2:=Lib.hid (And.intro hv2 hb2);clear hv2 hb2;dsimp only at H2 ⊢;have HB2:=Lib.hid (a0f H.out.2.2 H2.out.2);have HR2:=Lib.hid (Kd.R_below H.out.2.1 H2.out.2)
    by_cases h0:f=0
    · subst h0
      by_cases h1:z.length<y.length
      · have hI1:decide (z.length<y.length)=true:=decide_eq_true h1
        have HN:=Lib.hid (show bestN b (k+1)=(((k+1:Nat):Int),z) from by
         have e1:bestN b (k+1)=a1f ((k+1:Nat):Int) b (bestN b k):=rfl;rw[e1,b7e (by rw[<- HX.out]) (by rw[<- HX.out,H.out.1];exact h1),<- HX.out])
        clear h1;go_wp2_with fail;go_roundw
        case rel=>exact⟨k+1,k+1,z,A2,c2,rfl,rfl,by go_num,by omega,Lib.hid ⟨HN.out,Kd.R_lower H2.out.1 H.out.2.2.size,HB2.out⟩⟩
        case measure=>simp[intOf];omega
      · have hI1:decide (z.length<y.length)=false:=decide_eq_false h1
        have HN:=Lib.hid (show bestN b (k+1)=((n:Int),y) from by
         have e1:bestN b (k+1)=a1f ((k+1:Nat):Int) b (bestN b k):=rfl;rw[e1,a8k (by rw[<- HX.out,H.out.1];exact λ h=>h1 h.2),H.out.1])
        clear h1;go_wp2_with fail;go_roundw
        case rel=>exact⟨k+1,n,y,B,cb,rfl,rfl,by go_num,by omega,Lib.hid ⟨HN.out,HR2.out,HB2.out⟩⟩
        case measure=>simp[intOf];omega
    · have hf:(f==0)=false:=by simpa using h0
      have HN:=Lib.hid (show bestN b (k+1)=((n:Int),y) from by
       have e1:bestN b (k+1)=a1f ((k+1:Nat):Int) b (bestN b k):=rfl;rw[e1,a8k (by rw[<- HX.out];exact λ h=>h0 h.1),H.out.1])
      clear h0;go_wp2_with fail;go_roundw
      case rel=>exact⟨k+1,n,y,B,cb,rfl,rfl,by go_num,by omega,Lib.hid ⟨HN.out,HR2.out,HB2.out⟩⟩
      case measure=>simp[intOf];omega
  · obtain rfl:k=3:=by omega
    go_wp2_with fail;go_ret3;have e3:=H.out.1;rw[c7M] at e3;unfold BestPost;rw[e3];exact⟨B,cb,rfl,H.out.2.1,H.out.2.2⟩
theorem c7O {k:Int} {b:List Int} (hb:Bytes b) (hl:b.length<=40000) (h0:0<b.length) (he:(pickE k b).1=0):0<(pickE k b).2.length:=by
 by_cases h:0<=k/\k<4
 · by_cases k0:k=0
   · subst k0;rw[a5l (by decide) (by decide),b0G hl];exact h0
   by_cases k1:k=1
   · subst k1;rw[a5l (by decide) (by decide)] at he ⊢
     cases ha:a1u b with
     | false=>rw[a8g ha] at he;cases he
     | true=>rw[a8f hl ha];exact Nat.one_pos
   by_cases k2:k=2
   · subst k2;rw[b6W h0];have:=b6e hb hl h0;show 0<(a1m b).length;omega
   · obtain rfl:k=3:=by omega
     rw[b6X h0];have:=b6q hb hl h0;show 0<(a1i b).length;omega
 · rw[b6V h] at he;cases he
theorem b7f {k:Int} {b:List Int} {x:Int×List Int} (hb:Bytes b) (hl:b.length<=40000) (h0:0<b.length) (h1:x.2.length<=1):a1f k b x=x:=by
 refine a8k ?_;rintro ⟨he,hlt⟩;have:=c7O hb hl h0 he;omega
theorem c7P:bestP []=(0,[]):=by
 have h1:∀ k x,a1f k [] (x,[])=(x,([]:List Int)):=λ k x=>a8k (λ h=>by simp at h);unfold bestP;rw[h1,h1,h1]
theorem c7Q {b:List Int} (hb:Bytes b) (hl:b.length<=40000) (ha:a1u b=true):bestP b=(1,[b.getD 0 0]):=by
 have h0:=(b0t ha).2
 have e:a1f 1 b (0,b)=(1,[b.getD 0 0]):=by
  have e1:pickE 1 b=(0,[b.getD 0 0]):=by rw[a5l (by decide) (by decide),a8f hl ha]
  rw[b7e (by rw[e1]) (by rw[e1];exact h0),e1]
 unfold bestP;have hs:∀ k,a1f k b (1,[b.getD 0 0])=(1,[b.getD 0 0]):=λ k=>b7f hb hl (by omega) (Nat.le_refl 1);rw[e,hs,hs]
theorem c7R {b:List Int} (hb:Bytes b) (h1:b.length=1):bestP b=(0,b):=by
 have hs:∀ k,a1f k b (0,b)=(0,b):=λ k=>b7f hb (by omega) (by omega) (by show b.length<=1;omega);unfold bestP;rw[hs,hs,hs]
theorem b4:Bytes [4]:=by intro x hx;simp at hx;omega
theorem b99:Bytes [9,9]:=by intro x hx;simp at hx;omega
theorem BestPost.out {b:List Int} {w:World} {e:Ending} {w':World} (h:BestPost b w e w') (hb:Bytes b):∃ A c,e=.returned (.tuple #[.int .i64 (bestP b).1,.slice A (bestP b).2.length c,.int .i64 0])/\BSl w' A c (bestP b).2/\Below w.heap.size w w':=by
 obtain⟨A,c,he,hr,hbl⟩:=h;exact⟨A,c,he,BSl.of hr (a5W hb),hbl⟩
theorem b0Q (w:World):Calls Tryz.prog 27 #[] w (Ret (.bool true) w):=by
 go_enter Tryz.func27,Tryz.ntmps27;go_wp2_with fail;refine(a5m none 0 [] w (Kd.R_reads' (Kd.R_nil (Kd.int .u8) 5 w w.heap.size (λ _=>True))).2.2 (by intro x hx;cases hx) (by decide)).mono ?_;intro e w1 h1;obtain⟨A1,c1,rfl,hs1,hb1⟩:=h1.out (by intro x hx;cases hx);rw[c7P] at hs1 ⊢;have HB1:=Lib.hid hb1;clear h1 hs1 hb1;go_wp2_with fail;obtain⟨w2,hw2⟩:∃ w2,w2=w1.alloc (.cells #[.int .u8 4] 5):=⟨_,rfl⟩;have HB2:Hid (Below w.heap.size w w2):=by show Below _ _ _;rw[hw2];exact HB1.out.alloc HB1.out.size _
 have HS2:Hid (BSl w2 (some ⟨w1.heap.size,0,none⟩) 1 [4]):=by show BSl _ _ _ _;rw[hw2];exact a7R [4] b4 (by decide)
 rw[<- hw2];clear hw2;refine(a5m (some ⟨w1.heap.size,0,none⟩) 1 [4] w2 HS2.out.row b4 (by decide)).mono ?_;intro e w3 h3;obtain⟨A3,c3,rfl,hs3,hb3⟩:=h3.out b4;rw[c7R b4 rfl] at hs3 ⊢;have HB3:=Lib.hid (a0f HB2.out hb3);have HS3:=Lib.hid hs3;clear h3 hs3 hb3;go_wp2_with fail;obtain⟨w4,hw4⟩:∃ w4,w4=w3.alloc (.cells #[.int .u8 9,.int .u8 9] 5):=⟨_,rfl⟩;have HB4:Hid (Below w.heap.size w w4):=by show Below _ _ _;rw[hw4];exact HB3.out.alloc HB3.out.size _
 have HB34:Hid (Below w3.heap.size w3 w4):=by show Below _ _ _;rw[hw4];exact(Below.refl _ _).alloc (Nat.le_refl _) _
 have HS4:Hid (BSl w4 (some ⟨w3.heap.size,0,none⟩) 2 [9,9]):=by show BSl _ _ _ _;rw[hw4];exact a7R [9,9] b99 (by decide)
 rw[<- hw4];clear hw4;refine(a5m (some ⟨w3.heap.size,0,none⟩) 2 [9,9] w4 HS4.out.row b99 (by decide)).mono ?_;intro e w5 h5;obtain⟨A5,c5,rfl,hs5,hb5⟩:=h5.out b99;rw[c7Q b99 (by decide) (by decide)] at hs5 ⊢;have HB5:=Lib.hid (a0f HB4.out hb5);have h35:=a0f HB34.out hb5;have v1:(convert 22 9 (.slice A3 1 c3)).run Tryz.prog w5=.ok (.string ⟨#[4]⟩) w5:=(HS3.out.below h35).str;have v2:(convert 22 9 (.slice A5 1 c5)).run Tryz.prog w5=.ok (.string ⟨#[9]⟩) w5:=hs5.str;clear h5 hs5 hb5 h35;go_wp2_with fail;go_ret;exact⟨rfl,HB5.out⟩
theorem c7V (A:Option Addr) (c:Nat) (b:List Int) (w:World) (hr:(Kd.int .u8).C w A b.length b) (hl:b.length<=131072) (hb:Bytes b) :
    Calls Tryz.prog 179 #[.int .i64 0,.slice A b.length c,.int .i64 b.length] w (Told 0 b w):=by
 have HR:=Lib.hid (And.intro hr (And.intro hl hb));have d1:decide ((b.length:Int)<0)=false:=decide_eq_false (by omega);have d2:decide ((131072:Int)<(b.length:Int))=false:=decide_eq_false (by omega);clear hr hl hb;go_enter Tryz.func179,Tryz.ntmps179;go_wp2_with fail;refine(a5Z 0 w).mono ?_;rintro e w' ⟨rfl,rfl⟩;go_wp2_with fail;go_loopw [8,9,45] (λ v _ kv wr=>∃ i:Nat,i<=b.length/\kv=.int .i64 i/\Hid ((Kd.int .u8).R 5 wr w.heap.size (λ _=>True) v (b.take i)/\Below w.heap.size w wr)) (λ _ _ kv _=>b.length-(intOf kv).toNat)
 case atStart=>exact⟨0,by omega,rfl,Lib.hid ⟨by rw[List.take_zero];exact Kd.R_nil _ _ _ _ _,Below.refl _ _⟩⟩
 case round=>
  obtain⟨i,hi,rfl,H⟩:=hrel
  by_cases hlt:i<b.length
  · obtain⟨Av,cv,rfl⟩:=Kd.R_slice H.out.1;obtain⟨ad,hA,hcx⟩:=a0v (Kd.C_below HR.out.1 H.out.2) i hlt;subst hA;obtain⟨y,hy⟩:∃ y,y=b.getD i 0:=⟨_,rfl⟩;rw[<- hy] at hcx;have hl6:b.length<=131072:=HR.out.2.1;have hI:(i:Int)<(b.length:Int):=by omega
    have HN:Hid (b.take (i+1)=b.take i++[y]):=Lib.hid (by rw[List.take_succ_eq_append_getElem hlt,hy,List.getD_eq_getElem?_getD,List.getElem?_eq_getElem hlt];rfl);obtain⟨L,hL⟩:∃ L,L=b.take i:=⟨_,rfl⟩;have hLl:L.length=i:=by rw[hL,List.length_take];omega
    rw[<- hL] at H HN ⊢;have HLn:Hid ((L.length+1)*1<=140737488355328):=Lib.hid (by omega);have HS:=Lib.hid H.out.2.size;clear hy hL;go_wp2_with (at_builtin;refine Kd.R_append (Kd.int .u8) (w0:=w) (W:=wr) w.heap.size rfl (.tmp 48) (.tmp 56) 22 5 (.int .u8 0) 1 rfl Tryz.underlying22 a0I rfl (by decide) (by decide) _ _ y [.int .u8 y] (λ _=>True) (λ _=>False) rfl rfl rfl (λ _ h=>h.elim) (λ _ _=>trivial) H.out.1 H.out.2 HS.out HLn.out ?_;intro v1 w3 hr3 hb3 hg3 hat3;have HA:=Lib.hid (And.intro hr3 hb3);clear hr3 hb3 hg3 hat3);go_roundw
    case rel=>exact⟨i+1,by omega,by go_num,Lib.hid ⟨by rw[HN.out];exact HA.out.1,HA.out.2⟩⟩
    case measure=>simp[intOf];omega
  · obtain rfl:i=b.length:=by omega
    obtain⟨Av,cv,rfl⟩:=Kd.R_slice H.out.1;go_wp2_with fail;go_ret2;have h1:=H.out.1;rw[List.take_length] at h1;rw[List.take_length];exact⟨Av,cv,rfl,h1,H.out.2⟩
theorem c7W (A:Option Addr) (c:Nat) (x:Int) (N:Nat) (w:World) (hr:(Kd.int .u8).C w A 1 [x]) (hl:N<=131072) (h2:2<=N) :
    Calls Tryz.prog 179 #[.int .i64 1,.slice A 1 c,.int .i64 N] w (Told 0 (List.replicate N x) w):=by
 have HR:=Lib.hid (And.intro hr (And.intro hl h2));have d3:decide ((N:Int)<2)=false:=decide_eq_false (by omega);have d1:decide ((N:Int)<0)=false:=decide_eq_false (by omega);have d2:decide ((131072:Int)<(N:Int))=false:=decide_eq_false (by omega);clear hr hl h2;go_enter Tryz.func179,Tryz.ntmps179;go_wp2_with fail;refine(a5Z 1 w).mono ?_;rintro e w' ⟨rfl,rfl⟩;go_wp2_with fail;go_loopw [8,9,45] (λ v _ kv wr=>∃ i:Nat,i<=N/\kv=.int .i64 i/\Hid ((Kd.int .u8).R 5 wr w.heap.size (λ _=>True) v (List.replicate i x)/\Below w.heap.size w wr)) (λ _ _ kv _=>N-(intOf kv).toNat)
 case atStart=>exact⟨0,by omega,rfl,Lib.hid ⟨by exact Kd.R_nil _ _ _ _ _,Below.refl _ _⟩⟩
 case round=>
  obtain⟨i,hi,rfl,H⟩:=hrel
  by_cases hlt:i<N
  · obtain⟨Av,cv,rfl⟩:=Kd.R_slice H.out.1;obtain⟨ad,hA,hcx⟩:=a0v (Kd.C_below HR.out.1 H.out.2) 0 (by decide);subst hA;have e0:ad.add 0=ad:=by simp[Addr.add]
    have hcy:wr.cell? ad=some (.int .u8 x):=by rw[e0] at hcx;exact hcx
    have hl6:N<=131072:=HR.out.2.1;have hI:(i:Int)<(N:Int):=by omega
    have HN:Hid (List.replicate (i+1) x=List.replicate i x++[x]):=Lib.hid List.replicate_succ';clear e0;obtain⟨L,hL⟩:∃ L,L=List.replicate i x:=⟨_,rfl⟩;have hLl:L.length=i:=by rw[hL,List.length_replicate]
    rw[<- hL] at H HN ⊢;have HLn:Hid ((L.length+1)*1<=140737488355328):=Lib.hid (by omega);have HS:=Lib.hid H.out.2.size;clear hL;go_wp2_with (at_builtin;refine Kd.R_append (Kd.int .u8) (w0:=w) (W:=wr) w.heap.size rfl (.tmp 48) (.tmp 56) 22 5 (.int .u8 0) 1 rfl Tryz.underlying22 a0I rfl (by decide) (by decide) _ _ x [.int .u8 x] (λ _=>True) (λ _=>False) rfl rfl rfl (λ _ h=>h.elim) (λ _ _=>trivial) H.out.1 H.out.2 HS.out HLn.out ?_;intro v1 w3 hr3 hb3 hg3 hat3;have HA:=Lib.hid (And.intro hr3 hb3);clear hr3 hb3 hg3 hat3);go_roundw
    case rel=>exact⟨i+1,by omega,by go_num,Lib.hid ⟨by rw[HN.out];exact HA.out.1,HA.out.2⟩⟩
    case measure=>simp[intOf];omega
  · obtain rfl:i=N:=by omega
    obtain⟨Av,cv,rfl⟩:=Kd.R_slice H.out.1;go_wp2_with fail;go_ret2;have h1:=H.out.1;exact⟨Av,cv,rfl,h1,H.out.2⟩
def b7g (r:Nat) (qs:List (List Int)) (p:List Int) (w:World) (e:Ending) (w':World):Prop:=
 ∃ Am cm Ap cp,e=.returned (.tuple #[.agg #[.int .i64 r,.bool false,.slice Am qs.length cm],.slice Ap p.length cp,.int .i64 0])/\kq.R 84 w' w.heap.size (λ _=>True) (.slice Am qs.length cm) qs/\(Kd.int .u8).R 5 w' w.heap.size (λ _=>True) (.slice Ap p.length cp) p/\Below w.heap.size w w'
theorem c7X (A:Option Addr) (c:Nat) (ps:List Int) {r:Nat} {qs:List (List Int)} {p:List Int} (w:World) (hr:(Kd.int .u8).C w A ps.length ps) (hps:Bytes ps) (hl:ps.length<=1000000) (hc:ps.length<=c) (h:a0z ps=(0,r,qs,p)) :
    Calls Tryz.prog 21 #[.slice A ps.length c] w (b7g r qs p w):=by
 refine(b6M A c ps w hr hps hl hc).mono ?_;intro e w' hp;unfold a3T at hp;rw[h] at hp;obtain⟨vm,vp,rfl,hm,hv⟩:=hp.1 rfl;obtain⟨Am,cm,rfl⟩:=Kd.R_slice hm;obtain⟨Ap,cp,rfl⟩:=Kd.R_slice hv;exact⟨Am,cm,Ap,cp,rfl,hm,hv,hp.2.2⟩
theorem c7Y (A:Option Addr) (c:Nat) (ps:List Int) {k:Int} (w:World) (hr:(Kd.int .u8).C w A ps.length ps) (hps:Bytes ps) (hl:ps.length<=1000000) (hc:ps.length<=c) (h:(a0z ps).1=k) (hk:k≠0) :
    Calls Tryz.prog 21 #[.slice A ps.length c] w (λ e w'=>e=.returned (.tuple #[.agg #[.int .i64 0,.bool false,.slice none 0 0],.slice none 0 0,.int .i64 k])/\Below w.heap.size w w'):=by
 refine(b6M A c ps w hr hps hl hc).mono ?_;intro e w' hp;unfold a3T at hp;rw[h] at hp;exact⟨hp.2.1 hk,hp.2.2⟩
theorem b0R (A:Option Addr) (c:Nat) (ps:List Int) (n:Int) (w:World) (hr:(Kd.int .u8).C w A ps.length ps) (hps:Bytes ps) (hl:ps.length<=1000000) (hc:ps.length<=c) :
    Calls Tryz.prog 23 #[.slice A ps.length c,.int .i64 n] w (ReadPost (dec1M ps n) w):=by
 obtain⟨k,r,q,p,hS⟩:∃ k r q p,a0z ps=(k,r,q,p):=⟨_,_,_,_,rfl⟩;have hpb:=a7X hps;have hpl:=(a7Y ps).1;have hql:=(a7Y ps).2;rw[hS] at hpb hpl hql
 by_cases hk:k=0
 · subst hk;have HD:Hid (dec1M ps n=decM (r:Nat) false q p n):=by show _=_;unfold dec1M;rw[hS,if_neg (λ h=>h rfl)]
   have HS:=Lib.hid (c7X A c ps w hr hps hl hc hS);have HP:=Lib.hid (And.intro hpb (And.intro (Nat.le_trans hpl hl) (show q.length<=256 from hql)));rw[HD.out];clear hr hps hl hc hS hpb hpl hql;go_enter Tryz.func23,Tryz.ntmps23;go_wp2_with fail;refine HS.out.mono ?_;rintro e w1 ⟨Am,cm,Ap,cp,rfl,hm,hv,hb1⟩;obtain⟨w2,hw2⟩:∃ w2,w2=w1.alloc (.cells #[.int .i64 r,.bool false,.slice Am q.length cm] 26):=⟨_,rfl⟩;have hb2:Below w1.heap.size w1 w2:=by rw[hw2];exact(Below.refl _ _).alloc (Nat.le_refl _) _
   have HB2:=Lib.hid (hb1.trans (hb2.mono hb1.size));have HM:=Lib.hid (Kd.C_below (Kd.R_reads' hm).2.2 hb2);have HV:=Lib.hid (Kd.C_below (Kd.R_reads' hv).2.2 hb2);clear hm hv hb1 hb2;go_wp2_with fail;rw[<- hw2];clear hw2;refine(b3Y r false Am cm q Ap cp p n w2 HM.out (by have:=HP.out.2.2;omega) HV.out HP.out.1 HP.out.2.1).mono ?_;rintro e w3 ⟨⟨v,rfl,hv⟩,hb3⟩;have H3:=Lib.hid (And.intro hv hb3);clear hv hb3;go_wp2_with fail;go_ret2;exact⟨⟨v,rfl,Kd.R_lower H3.out.1 HB2.out.size⟩,HB2.out.trans (H3.out.2.mono HB2.out.size)⟩
 · have HD:Hid (dec1M ps n=(k,[])):=by show _=_;unfold dec1M;rw[hS,if_pos hk]
   have HS:=Lib.hid (c7Y A c ps w hr hps hl hc (by rw[hS]) hk);have hkb:(k==0)=false:=beq_eq_false_iff_ne.2 hk;have hkn:(k != 0)=true:=by simp[hk]
   rw[HD.out];clear hr hps hl hc hS hpb hpl hql;go_enter Tryz.func23,Tryz.ntmps23;go_wp2_with fail;refine HS.out.mono ?_;rintro e w1 ⟨rfl,hb1⟩;have HB1:=Lib.hid hb1;clear hb1;go_wp2_with fail;go_ret2;exact⟨⟨_,rfl,Kd.R_nil _ _ _ _ _⟩,HB1.out.alloc HB1.out.size _⟩
theorem b7h {x:Int×List Int} (A:Option Addr) (c p:Nat) (k n:Int) (m:Nat) (w:World) (hp:w.cell? ⟨p,0,none⟩=some (.int .i64 k)) (h:Calls Tryz.prog 179 #[.int .i64 k,.slice A m c,.int .i64 n] w (Told x.1 x.2 w)) :
    Calls Tryz.prog 178 #[.slice A m c,.int .i64 n,.pointer (some ⟨p,0,none⟩)] w (Told x.1 x.2 w):=by
 have H:=Lib.hid h;clear h;go_enter Tryz.func178,Tryz.ntmps178;go_wp2_with fail;refine H.out.mono ?_;rintro e w' ⟨A1,c1,rfl,hv,hb⟩;have H1:=Lib.hid (And.intro hv hb);clear hv hb;go_wp2_with fail;go_ret2;exact⟨A1,c1,rfl,H1.out.1,H1.out.2⟩
theorem c7Z (A:Option Addr) (c m:Nat) (k n:Int) (w:World) (h:a0E k n m≠0) :
    Calls Tryz.prog 28 #[.int .i64 k,.slice A m c,.int .i64 n] w (Told (a0E k n m) [] w):=by
 have HI:=Lib.hid (a4u k n m w);unfold a1E at HI;obtain⟨z,hz⟩:∃ z,z=a0E k n m:=⟨_,rfl⟩;rw[<- hz] at HI h ⊢;have hz2:(z != 0)=true:=by simpa using h
 clear hz h;go_enter Tryz.func28,Tryz.ntmps28;go_wp2_with fail;refine HI.out.mono ?_;rintro e w' ⟨rfl,hb⟩;have HB:=Lib.hid hb;clear hb;go_wp2_with fail;go_ret2;exact Told.nil z HB.out
theorem c8a {x:Int×List Int} (A:Option Addr) (c m:Nat) (n:Int) (w:World) (h0:a0E 0 n m=0) (h:∀ (W:World) (p q:Nat),Below w.heap.size w W->W.cell? ⟨p,0,none⟩=some (.int .i64 0)->W.cell? ⟨q,0,none⟩=some (.int .i64 1)->Calls Tryz.prog 178 #[.slice A m c,.int .i64 n,.pointer (some ⟨p,0,none⟩)] W (Told x.1 x.2 W)) :
    Calls Tryz.prog 28 #[.int .i64 0,.slice A m c,.int .i64 n] w (Told x.1 x.2 w):=by
 have H:=Lib.hid h;have HI:=Lib.hid (a4u 0 n m w);unfold a1E at HI;rw[h0] at HI;clear h h0;go_enter Tryz.func28,Tryz.ntmps28;go_wp2_with fail;refine HI.out.mono ?_;rintro e w0 ⟨rfl,hb0⟩;have HB0:=Lib.hid hb0;clear hb0;go_wp2_with fail;refine(a2v w0).mono ?_;rintro e w1 ⟨p,q,rfl,hp,hq,hb⟩;have HB:=Lib.hid (a0f HB0.out hb);have H1:=Lib.hid (H.out w1 p q HB.out hp hq);have hix:=λ W=>b0I p q W;have hkf:=a8i;obtain⟨V,hV⟩:∃ V,V=a1B p q:=⟨_,rfl⟩;rw[<- hV] at hix ⊢;clear hb hp hq hV;go_wp2_with fail;refine H1.out.mono ?_;rintro e w2 ⟨A1,c1,rfl,hv,hb⟩;have H2:=Lib.hid (And.intro hv hb);clear hv hb hix hkf;go_wp2_with fail;go_ret2;exact⟨A1,c1,rfl,Kd.R_lower H2.out.1 HB.out.size,a0f HB.out H2.out.2⟩
theorem c8b {x:Int×List Int} (A:Option Addr) (c m:Nat) (n:Int) (w:World) (h0:a0E 1 n m=0) (h:∀ (W:World) (p q:Nat),Below w.heap.size w W->W.cell? ⟨p,0,none⟩=some (.int .i64 0)->W.cell? ⟨q,0,none⟩=some (.int .i64 1)->Calls Tryz.prog 178 #[.slice A m c,.int .i64 n,.pointer (some ⟨q,0,none⟩)] W (Told x.1 x.2 W)) :
    Calls Tryz.prog 28 #[.int .i64 1,.slice A m c,.int .i64 n] w (Told x.1 x.2 w):=by
 have H:=Lib.hid h;have HI:=Lib.hid (a4u 1 n m w);unfold a1E at HI;rw[h0] at HI;clear h h0;go_enter Tryz.func28,Tryz.ntmps28;go_wp2_with fail;refine HI.out.mono ?_;rintro e w0 ⟨rfl,hb0⟩;have HB0:=Lib.hid hb0;clear hb0;go_wp2_with fail;refine(a2v w0).mono ?_;rintro e w1 ⟨p,q,rfl,hp,hq,hb⟩;have HB:=Lib.hid (a0f HB0.out hb);have H1:=Lib.hid (H.out w1 p q HB.out hp hq);have hix:=λ W=>b0J p q W;have hkf:=a8i;obtain⟨V,hV⟩:∃ V,V=a1B p q:=⟨_,rfl⟩;rw[<- hV] at hix ⊢;clear hb hp hq hV;go_wp2_with fail;refine H1.out.mono ?_;rintro e w2 ⟨A1,c1,rfl,hv,hb⟩;have H2:=Lib.hid (And.intro hv hb);clear hv hb hix hkf;go_wp2_with fail;go_ret2;exact⟨A1,c1,rfl,Kd.R_lower H2.out.1 HB.out.size,a0f HB.out H2.out.2⟩
theorem c8c {x:Int×List Int} (A:Option Addr) (c m:Nat) (n:Int) (w:World) (h0:a0E 2 n m=0) (h:∀ (W:World) (p q:Nat),Below w.heap.size w W->W.cell? ⟨p,0,none⟩=some (.int .i64 0)->W.cell? ⟨q,0,none⟩=some (.int .i64 1)->Calls Tryz.prog 131 #[.slice A m c,.int .i64 n] W (Told x.1 x.2 W)) :
    Calls Tryz.prog 28 #[.int .i64 2,.slice A m c,.int .i64 n] w (Told x.1 x.2 w):=by
 have H:=Lib.hid h;have HI:=Lib.hid (a4u 2 n m w);unfold a1E at HI;rw[h0] at HI;clear h h0;go_enter Tryz.func28,Tryz.ntmps28;go_wp2_with fail;refine HI.out.mono ?_;rintro e w0 ⟨rfl,hb0⟩;have HB0:=Lib.hid hb0;clear hb0;go_wp2_with fail;refine(a2v w0).mono ?_;rintro e w1 ⟨p,q,rfl,hp,hq,hb⟩;have HB:=Lib.hid (a0f HB0.out hb);have H1:=Lib.hid (H.out w1 p q HB.out hp hq);have hix:=λ W=>b0K p q W;have hkf:=a8i;obtain⟨V,hV⟩:∃ V,V=a1B p q:=⟨_,rfl⟩;rw[<- hV] at hix ⊢;clear hb hp hq hV;go_wp2_with fail;refine H1.out.mono ?_;rintro e w2 ⟨A1,c1,rfl,hv,hb⟩;have H2:=Lib.hid (And.intro hv hb);clear hv hb hix hkf;go_wp2_with fail;go_ret2;exact⟨A1,c1,rfl,Kd.R_lower H2.out.1 HB.out.size,a0f HB.out H2.out.2⟩
theorem c8d {x:Int×List Int} (A:Option Addr) (c m:Nat) (n:Int) (w:World) (h0:a0E 3 n m=0) (h:∀ (W:World) (p q:Nat),Below w.heap.size w W->W.cell? ⟨p,0,none⟩=some (.int .i64 0)->W.cell? ⟨q,0,none⟩=some (.int .i64 1)->Calls Tryz.prog 23 #[.slice A m c,.int .i64 n] W (Told x.1 x.2 W)) :
    Calls Tryz.prog 28 #[.int .i64 3,.slice A m c,.int .i64 n] w (Told x.1 x.2 w):=by
 have H:=Lib.hid h;have HI:=Lib.hid (a4u 3 n m w);unfold a1E at HI;rw[h0] at HI;clear h h0;go_enter Tryz.func28,Tryz.ntmps28;go_wp2_with fail;refine HI.out.mono ?_;rintro e w0 ⟨rfl,hb0⟩;have HB0:=Lib.hid hb0;clear hb0;go_wp2_with fail;refine(a2v w0).mono ?_;rintro e w1 ⟨p,q,rfl,hp,hq,hb⟩;have HB:=Lib.hid (a0f HB0.out hb);have H1:=Lib.hid (H.out w1 p q HB.out hp hq);have hix:=λ W=>b0L p q W;have hkf:=a8i;obtain⟨V,hV⟩:∃ V,V=a1B p q:=⟨_,rfl⟩;rw[<- hV] at hix ⊢;clear hb hp hq hV;go_wp2_with fail;refine H1.out.mono ?_;rintro e w2 ⟨A1,c1,rfl,hv,hb⟩;have H2:=Lib.hid (And.intro hv hb);clear hv hb hix hkf;go_wp2_with fail;go_ret2;exact⟨A1,c1,rfl,Kd.R_lower H2.out.1 HB.out.size,a0f HB.out H2.out.2⟩
theorem b0S {k n m:Int} (h:a0E k n m=0):0<=k/\k<4/\0<=n/\n<=131072/\mayB k n m=true:=by
 unfold a0E at h
 by_cases h1:k<0\/3<k
 · rw[if_pos h1] at h;cases h
 rw[if_neg h1] at h
 by_cases h2:n<0\/131072<n\/mayB k n m=false
 · rw[if_pos h2] at h;cases h
 refine⟨by omega,by omega,by omega,by omega,?_⟩
 cases e:mayB k n m with
 | true=>rfl
 | false=>exact absurd (.inr (.inr e)) h2
theorem b7i (A:Option Addr) (c:Nat) (k n:Int) (ps:List Int) (w:World) (hr:(Kd.int .u8).C w A ps.length ps) (hps:Bytes ps) (hl:ps.length<=1000000) (hc:ps.length<=c) (hnil:A=none->c=0) :
    Calls Tryz.prog 28 #[.int .i64 k,.slice A ps.length c,.int .i64 n] w (Told (pickD k ps n).1 (pickD k ps n).2 w):=by
 by_cases h0:a0E k n ps.length=0
 · obtain⟨k0,k4,n0,n1,hm⟩:=b0S h0;have e:pickD k ps n=if k<=1 then a2m k ps n else if k=2 then dec0M ps n else dec1M ps n:=by unfold pickD;rw[if_neg (λ h=>h h0)]
   rw[e]
   by_cases e0:k=0
   · subst e0;have hn:n=ps.length:=by unfold mayB at hm;rw[if_pos rfl] at hm;exact of_decide_eq_true hm
     subst hn;have e2:a2m 0 ps ps.length=(0,ps):=by unfold a2m;rw[if_neg (by omega),if_neg (by omega),if_pos rfl]
     rw[if_pos (by decide),e2];exact c8a (x:=(0,ps)) A c ps.length ps.length w h0 (λ W p q hB hp _=>b7h (x:=(0,ps)) A c p 0 _ _ W hp (c7V A c ps W (Kd.C_below hr hB) (by omega) hps))
   by_cases e1:k=1
   · subst e1;have hn:1<n/\(ps.length:Int)=1:=by unfold mayB at hm;rw[if_neg (by decide),if_pos rfl] at hm;exact of_decide_eq_true hm
     obtain⟨N,rfl⟩:∃ N:Nat,n=N:=⟨n.toNat,by omega⟩;have hl1:ps.length=1:=by omega
     have e2:a2m 1 ps N=(0,List.replicate N (ps.getD 0 0)):=by unfold a2m;rw[if_neg (by omega),if_neg (by omega),if_neg (by decide)];rfl
     obtain⟨x,rfl⟩:=List.length_eq_one_iff.1 hl1;rw[if_pos (by decide),e2];exact c8b (x:=(0,List.replicate N x)) A c 1 N w h0 (λ W p q hB _ hq=>b7h (x:=(0,List.replicate N x)) A c q 1 _ _ W hq (c7W A c x N W (Kd.C_below hr hB) (by omega) (by omega)))
   rw[if_neg (by omega)]
   by_cases e2:k=2
   · subst e2;rw[if_pos rfl];exact c8c (x:=dec0M ps n) A c ps.length n w h0 (λ W p q hB _ _=>c5O A c ps n W (Kd.C_below hr hB) hps hl hc hnil rfl)
   · obtain rfl:k=3:=by omega
     rw[if_neg (by decide)];exact c8d (x:=dec1M ps n) A c ps.length n w h0 (λ W p q hB _ _=>(b0R A c ps n W (Kd.C_below hr hB) hps hl hc).mono λ e w' hp=>hp.told)
 · have e:pickD k ps n=(a0E k n ps.length,[]):=by unfold pickD;rw[if_pos h0]
   rw[e];exact c7Z A c ps.length k n w h0
theorem b7j {k n:Int} {ps:List Int} (h:Bytes ps):Bytes (pickD k ps n).2:=by
 unfold pickD
 split
 · intro x hx;cases hx
 · split
   · unfold a2m
     repeat' split
     · intro x hx;cases hx
     · intro x hx;cases hx
     · exact h
     · intro x hx;rw[(List.mem_replicate.1 hx).2];exact h.get 0
   · split
     · exact c6o h
     · exact c6p h
def a0P (k n m:Int) (w:World) (e:Ending) (w':World):Prop:=e=.returned (.int .i64 (a0E k n m))/\w=w'
theorem c8f (k n m:Int) (w:World) (h:k<0):Calls Tryz.prog 31 #[.int .i64 k,.int .i64 n,.int .i64 m] w (a0P k n m w):=by
 unfold a0P;rw[b0M (by omega)];have d:=decide_eq_true h;clear h;go_enter Tryz.func31,Tryz.ntmps31;go_wp2_with fail;go_ret;exact⟨rfl,rfl⟩
theorem c8g (k n m:Int) (w:World) (h:3<k):Calls Tryz.prog 31 #[.int .i64 k,.int .i64 n,.int .i64 m] w (a0P k n m w):=by
 unfold a0P;rw[b0M (by omega)];have d0:decide (k<0)=false:=decide_eq_false (by omega);have d:=decide_eq_true h;clear h;go_enter Tryz.func31,Tryz.ntmps31;go_wp2_with fail;go_ret;exact⟨rfl,rfl⟩
theorem c8h (k n m:Int) (w:World) (hk:0<=k/\k<=3) (h:n<0):Calls Tryz.prog 31 #[.int .i64 k,.int .i64 n,.int .i64 m] w (a0P k n m w):=by
 unfold a0P;rw[b0N (by omega) (.inl h)];have d0:decide (k<0)=false:=decide_eq_false (by omega);have d1:decide (3<k)=false:=decide_eq_false (by omega);have d:=decide_eq_true h;clear h hk;go_enter Tryz.func31,Tryz.ntmps31;go_wp2_with fail;go_ret;exact⟨rfl,rfl⟩
theorem c8i (k n m:Int) (w:World) (hk:0<=k/\k<=3) (h:131072<n):Calls Tryz.prog 31 #[.int .i64 k,.int .i64 n,.int .i64 m] w (a0P k n m w):=by
 unfold a0P;rw[b0N (by omega) (.inr h)];have d0:decide (k<0)=false:=decide_eq_false (by omega);have d1:decide (3<k)=false:=decide_eq_false (by omega);have d2:decide (n<0)=false:=decide_eq_false (by omega);have d:=decide_eq_true h;clear h hk;go_enter Tryz.func31,Tryz.ntmps31;go_wp2_with fail;go_ret;exact⟨rfl,rfl⟩
theorem c8j (k n m:Int) (w:World) (hk:k=0) (hn:0<=n/\n<=131072) (h:m=n):Calls Tryz.prog 31 #[.int .i64 k,.int .i64 n,.int .i64 m] w (a0P k n m w):=by
 unfold a0P;subst hk;subst h;rw[a3V (by omega) hn (by unfold mayB;first | (simp;done) | (simp;omega))];have d2:decide (m<0)=false:=decide_eq_false (by omega);have d3:decide (131072<m)=false:=decide_eq_false (by omega);have hmm:(m != m)=false:=by simp
 clear hn;go_enter Tryz.func31,Tryz.ntmps31;go_wp2_with fail;go_ret;exact⟨rfl,rfl⟩
theorem c8k (k n m:Int) (w:World) (hk:k=0) (hn:0<=n/\n<=131072) (h:m≠n):Calls Tryz.prog 31 #[.int .i64 k,.int .i64 n,.int .i64 m] w (a0P k n m w):=by
 unfold a0P;subst hk;rw[a2O (by omega) (by unfold mayB;first | (simp;done) | (simp;omega))];have d2:decide (n<0)=false:=decide_eq_false (by omega);have d3:decide (131072<n)=false:=decide_eq_false (by omega);have hmm:(m != n)=true:=by simpa using h
 clear h hn;go_enter Tryz.func31,Tryz.ntmps31;go_wp2_with fail;go_ret;exact⟨rfl,rfl⟩
theorem c8l (k n m:Int) (w:World) (hk:k=1) (hn:0<=n/\n<=131072) (h:m≠1):Calls Tryz.prog 31 #[.int .i64 k,.int .i64 n,.int .i64 m] w (a0P k n m w):=by
 unfold a0P;subst hk;rw[a2O (by omega) (by unfold mayB;first | (simp;done) | (simp;omega))];have d2:decide (n<0)=false:=decide_eq_false (by omega);have d3:decide (131072<n)=false:=decide_eq_false (by omega);have hmm:(m != 1)=true:=by simpa using h
 clear h hn;go_enter Tryz.func31,Tryz.ntmps31;go_wp2_with fail;go_ret;exact⟨rfl,rfl⟩
theorem c8m (k n m:Int) (w:World) (hk:k=1) (hn:0<=n/\n<=131072) (h:m=1) (h2:n<2):Calls Tryz.prog 31 #[.int .i64 k,.int .i64 n,.int .i64 m] w (a0P k n m w):=by
 unfold a0P;subst hk;subst h;rw[a2O (by omega) (by unfold mayB;first | (simp;done) | (simp;omega))];have d2:decide (n<0)=false:=decide_eq_false (by omega);have d3:decide (131072<n)=false:=decide_eq_false (by omega);have d:=decide_eq_true h2;clear h2 hn;go_enter Tryz.func31,Tryz.ntmps31;go_wp2_with fail;go_ret;exact⟨rfl,rfl⟩
theorem c8n (k n m:Int) (w:World) (hk:k=1) (hn:0<=n/\n<=131072) (h:m=1) (h2:¬ n<2):Calls Tryz.prog 31 #[.int .i64 k,.int .i64 n,.int .i64 m] w (a0P k n m w):=by
 unfold a0P;subst hk;subst h;rw[a3V (by omega) hn (by unfold mayB;first | (simp;done) | (simp;omega))];have d2:decide (n<0)=false:=decide_eq_false (by omega);have d3:decide (131072<n)=false:=decide_eq_false (by omega);have d:=decide_eq_false h2;clear h2 hn;go_enter Tryz.func31,Tryz.ntmps31;go_wp2_with fail;go_ret;exact⟨rfl,rfl⟩
theorem c8o (k n m:Int) (w:World) (hk:k=2) (hn:0<=n/\n<=131072) (h:m<1):Calls Tryz.prog 31 #[.int .i64 k,.int .i64 n,.int .i64 m] w (a0P k n m w):=by
 unfold a0P;subst hk;rw[a2O (by omega) (by unfold mayB;first | (simp;done) | (simp;omega))];have d2:decide (n<0)=false:=decide_eq_false (by omega);have d3:decide (131072<n)=false:=decide_eq_false (by omega);have d:=decide_eq_true h;clear h hn;go_enter Tryz.func31,Tryz.ntmps31;go_wp2_with fail;go_ret;exact⟨rfl,rfl⟩
theorem c8p (k n m:Int) (w:World) (hk:k=2) (hn:0<=n/\n<=131072) (h:¬ m<1) (h2:n-1<m):Calls Tryz.prog 31 #[.int .i64 k,.int .i64 n,.int .i64 m] w (a0P k n m w):=by
 unfold a0P;subst hk;rw[a2O (by omega) (by unfold mayB;first | (simp;done) | (simp;omega))];have d2:decide (n<0)=false:=decide_eq_false (by omega);have d3:decide (131072<n)=false:=decide_eq_false (by omega);have d4:=decide_eq_false h;have d:=decide_eq_true h2;have hw:IntKind.i64.wrap (n-1)=n-1:=i64_in _ (by omega);clear h h2;go_enter Tryz.func31,Tryz.ntmps31;go_wp2_with fail;go_ret;exact⟨rfl,rfl⟩
theorem c8q (k n m:Int) (w:World) (hk:k=2) (hn:0<=n/\n<=131072) (h:¬ m<1) (h2:¬ n-1<m):Calls Tryz.prog 31 #[.int .i64 k,.int .i64 n,.int .i64 m] w (a0P k n m w):=by
 unfold a0P;subst hk;rw[a3V (by omega) hn (by unfold mayB;first | (simp;done) | (simp;omega))];have d2:decide (n<0)=false:=decide_eq_false (by omega);have d3:decide (131072<n)=false:=decide_eq_false (by omega);have d4:=decide_eq_false h;have d:=decide_eq_false h2;have hw:IntKind.i64.wrap (n-1)=n-1:=i64_in _ (by omega);clear h h2;go_enter Tryz.func31,Tryz.ntmps31;go_wp2_with fail;go_ret;exact⟨rfl,rfl⟩
theorem c8r (k n m:Int) (w:World) (hk:k=3) (hn:0<=n/\n<=131072) (h:m<1):Calls Tryz.prog 31 #[.int .i64 k,.int .i64 n,.int .i64 m] w (a0P k n m w):=by
 unfold a0P;subst hk;rw[a2O (by omega) (by unfold mayB;first | (simp;done) | (simp;omega))];have d2:decide (n<0)=false:=decide_eq_false (by omega);have d3:decide (131072<n)=false:=decide_eq_false (by omega);have d:=decide_eq_true h;clear h hn;go_enter Tryz.func31,Tryz.ntmps31;go_wp2_with fail;go_ret;exact⟨rfl,rfl⟩
theorem c8s (k n m:Int) (w:World) (hk:k=3) (hn:0<=n/\n<=131072) (h:¬ m<1) (h2:n-1<m):Calls Tryz.prog 31 #[.int .i64 k,.int .i64 n,.int .i64 m] w (a0P k n m w):=by
 unfold a0P;subst hk;rw[a2O (by omega) (by unfold mayB;first | (simp;done) | (simp;omega))];have d2:decide (n<0)=false:=decide_eq_false (by omega);have d3:decide (131072<n)=false:=decide_eq_false (by omega);have d4:=decide_eq_false h;have d:=decide_eq_true h2;have hw:IntKind.i64.wrap (n-1)=n-1:=i64_in _ (by omega);clear h h2;go_enter Tryz.func31,Tryz.ntmps31;go_wp2_with fail;go_ret;exact⟨rfl,rfl⟩
theorem c8t (k n m:Int) (w:World) (hk:k=3) (hn:0<=n/\n<=131072) (h:¬ m<1) (h2:¬ n-1<m):Calls Tryz.prog 31 #[.int .i64 k,.int .i64 n,.int .i64 m] w (a0P k n m w):=by
 unfold a0P;subst hk;rw[a3V (by omega) hn (by unfold mayB;first | (simp;done) | (simp;omega))];have d2:decide (n<0)=false:=decide_eq_false (by omega);have d3:decide (131072<n)=false:=decide_eq_false (by omega);have d4:=decide_eq_false h;have d:=decide_eq_false h2;have hw:IntKind.i64.wrap (n-1)=n-1:=i64_in _ (by omega);clear h h2;go_enter Tryz.func31,Tryz.ntmps31;go_wp2_with fail;go_ret;exact⟨rfl,rfl⟩
theorem a6c (k n m:Int) (w:World):Calls Tryz.prog 31 #[.int .i64 k,.int .i64 n,.int .i64 m] w (a0P k n m w):=by
 by_cases a1:k<0
 · exact c8f k n m w a1
 by_cases a2:3<k
 · exact c8g k n m w a2
 by_cases a3:n<0
 · exact c8h k n m w (by omega) a3
 by_cases a4:131072<n
 · exact c8i k n m w (by omega) a4
 have hn:0<=n/\n<=131072:=by omega
 by_cases k0:k=0
 · by_cases h:m=n
   · exact c8j k n m w k0 hn h
   · exact c8k k n m w k0 hn h
 by_cases k1:k=1
 · by_cases h:m=1
   · by_cases h2:n<2
     · exact c8m k n m w k1 hn h h2
     · exact c8n k n m w k1 hn h h2
   · exact c8l k n m w k1 hn h
 by_cases h:m<1
 · by_cases k2:k=2
   · exact c8o k n m w k2 hn h
   · exact c8r k n m w (by omega) hn h
 by_cases h2:n-1<m
 · by_cases k2:k=2
   · exact c8p k n m w k2 hn h h2
   · exact c8s k n m w (by omega) hn h h2
 · by_cases k2:k=2
   · exact c8q k n m w k2 hn h h2
   · exact c8t k n m w (by omega) hn h h2
def hv (g:List Int) (m:Nat):Nat->Nat
 | 0=>0
 | d+1=>256*hv g m d+(g.getD (m-1-d) 0).toNat
end Go.Proofs.YtflfjpkmjnnodaaGreat
namespace Go.Proofs.YtflfjpkmjnnodaaGreat
open Go.RowKit Go.Proofs.YtflfjpkmjnnodaaGreat.PRef Go.Proofs.YtflfjpkmjnnodaaGreatW.PrintWords Go.Proofs.YtflfjpkmjnnodaaGreatW.PrintLast Go.Proofs.YtflfjpkmjnnodaaGreatW.PrintMore
def packT (l:List Bool) (i:Nat):List Int:=(List.range ((l.length+7)/8)).map (λ j=>(byteL (((l.take i).drop (8*j)).take 8):Int))
theorem a4w (l:List Bool) (i:Nat):(packT l i).length=(l.length+7)/8:=by simp[packT]
theorem a4x (l:List Bool) (i j:Nat) (h:j<(packT l i).length):(packT l i)[j]=(byteL (((l.take i).drop (8*j)).take 8):Int):=by simp[packT]
theorem c8w (l:List Bool):packT l 0=List.replicate ((l.length+7)/8) 0:=by
 refine List.ext_getElem (by rw[a4w,List.length_replicate]) λ j h1 h2=>?_;rw[a4x,List.getElem_replicate];simp[byteL]
theorem c8x (l:List Bool):packT l l.length=packB l:=by
 unfold packT packB;rw[List.take_length]
theorem a8l {l:List Bool} {i:Nat} (hi:i<l.length):(((l.take (i+1)).drop (8*(i/8))).take 8)=(((l.take i).drop (8*(i/8))).take 8)++[l[i]]/\(((l.take i).drop (8*(i/8))).take 8).length=i%8:=by
 have hl:(l.take i).length=i:=by rw[List.length_take];omega
 rw[List.take_succ_eq_append_getElem hi,List.drop_append_of_le_length (by omega)];have h2:((l.take i).drop (8*(i/8))).length=i%8:=by rw[List.length_drop,hl];omega
 rw[List.take_of_length_le (by rw[List.length_append,h2,List.length_singleton];omega),List.take_of_length_le (i:=8) (l:=(l.take i).drop (8*(i/8))) (by omega)];exact⟨rfl,h2⟩
theorem b7k {l:List Bool} {i j:Nat} (hi:i<l.length) (hj:j≠i/8):(((l.take (i+1)).drop (8*j)).take 8)=(((l.take i).drop (8*j)).take 8):=by
 have hl:(l.take i).length=i:=by rw[List.length_take];omega
 rw[List.take_succ_eq_append_getElem hi]
 by_cases h:8*j+8<=i
 · exact a9e _ _ _ (by omega)
 · rw[List.drop_of_length_le (by rw[List.length_append,hl,List.length_singleton];omega),List.drop_of_length_le (by omega)]
theorem c8y {l:List Bool} {i:Nat} (hi:i<l.length) (h:l[i]=false):packT l (i+1)=packT l i:=by
 refine List.ext_getElem (by rw[a4w,a4w]) λ j h1 h2=>?_;rw[a4x,a4x]
 by_cases hj:j=i/8
 · subst hj;rw[(a8l hi).1,h,a3o];simp
 · rw[b7k hi hj]
theorem c8z {l:List Bool} {i:Nat} (hi:i<l.length) (h:l[i]=true):packT l (i+1)=(packT l i).set (i/8) ((packT l i).getD (i/8) 0+2^(i%8)):=by
 have hlen:i/8<(packT l i).length:=by rw[a4w];omega
 refine List.ext_getElem (by rw[a4w,List.length_set,a4w]) λ j h1 h2=>?_;rw[List.getElem_set,a4x]
 by_cases hj:i/8=j
 · subst hj;rw[if_pos rfl,List.getD_eq_getElem?_getD,List.getElem?_eq_getElem hlen,Option.getD_some,a4x,(a8l hi).1,h,a3o,(a8l hi).2];simp
 · rw[if_neg hj,a4x,b7k hi (λ e=>hj e.symm)]
theorem c8A (l:List Bool) (i j:Nat) (hj:j<(packT l i).length):0<=(packT l i).getD j 0/\(packT l i).getD j 0<2^((((l.take i).drop (8*j)).take 8).length):=by
 rw[List.getD_eq_getElem?_getD,List.getElem?_eq_getElem hj,Option.getD_some,a4x];have:=a3N (((l.take i).drop (8*j)).take 8);have e:(2:Int)^((((l.take i).drop (8*j)).take 8).length)=((2^((((l.take i).drop (8*j)).take 8).length):Nat):Int):=by simp
 rw[e];omega
theorem c8B (k:Nat) (h:k<8):shl .u8 1 (k:Int)=2^k:=by
 have:k=0\/k=1\/k=2\/k=3\/k=4\/k=5\/k=6\/k=7:=by omega
 rcases this with rfl | rfl | rfl | rfl | rfl | rfl | rfl | rfl <;> decide
theorem c8C (l:List Bool) (hl:l.length<=1000000):∀ (d i:Nat),i+d=l.length->Ev (λ k=>puncheonref01_Bytes.l0 k l (packT l i) i) (packB l):=by
 intro d
 induction d with
 | zero=>
  intro i hi;refine Ev.step (λ k=>(show puncheonref01_Bytes.l0 (k+1) _ _ _=_ by simp only[puncheonref01_Bytes.l0];rw[if_neg (by omega)])) ?_;rw[show i=l.length by omega,c8x];exact Ev.now _
 | succ d ih=>
  intro i hi;have hlt:i<l.length:=by omega
  have c1:(i:Int)<(l.length:Int):=by omega
  have c2:(0:Int)<=i:=by omega
  have ih':=ih (i+1) (by omega)
  have hr:rdOf false l (i:Int)=l[i]:=by
   unfold rdOf;rw[Int.toNat_natCast,List.getD_eq_getElem?_getD,List.getElem?_eq_getElem hlt];rfl
  cases hb:l[i] with
  | false=>
   rw[c8y hlt hb] at ih';refine Ev.step (λ k=>(show puncheonref01_Bytes.l0 (k+1) _ _ _=_ by simp only[puncheonref01_Bytes.l0];rw[if_pos c1,if_pos c2,hr,hb,if_neg (by simp),wS i (by omega)])) ?_;exact ih'
  | true=>
   rw[c8z hlt hb] at ih';have hlen:i/8<(packT l i).length:=by rw[a4w];omega
   have e1:wrap64 (Int.tdiv (i:Int) 8)=((i/8:Nat):Int):=by
    rw[Int.tdiv_eq_ediv_of_nonneg (by omega),w64 (by omega)];simp
   have e2:Int.tmod (i:Int) 8=((i%8:Nat):Int):=by rw[Int.tmod_eq_emod_of_nonneg (by omega)];simp
   have hrg:=c8A l i (i/8) hlen;rw[(a8l hlt).2] at hrg
   have e3:((packT l i).getD (i/8) 0+2^(i%8))%256=(packT l i).getD (i/8) 0+2^(i%8):=by
    have h1:(2:Nat)^(i%8)<=2^7:=Nat.pow_le_pow_right (by omega) (by omega);have e:(2:Int)^(i%8)=((2^(i%8):Nat):Int):=by simp
    rw[e] at hrg ⊢;omega
   have c3:(0:Int)<=((i/8:Nat):Int):=by omega
   have c4:((i/8:Nat):Int)<((packT l i).length:Int):=by omega
   have c5:(0:Int)<=((i%8:Nat):Int):=by omega
   refine Ev.step (λ k=>(show puncheonref01_Bytes.l0 (k+1) _ _ _=_ by simp only[puncheonref01_Bytes.l0];rw[if_pos c1,if_pos c2,hr,hb,if_pos rfl,e1,e2,if_pos c3,if_pos c4,if_pos c5,a0G,c8B _ (by omega),e3,Int.toNat_natCast,wS i (by omega)])) ?_;exact ih'
theorem b7l (l:List Bool) (hl:l.length<=1000000):Ev (λ k=>puncheonref01_Bytes.f k l) (packB l):=by
 have h:=c8C l hl l.length 0 (by omega);rw[c8w] at h
 have e:wrap64 (Int.tdiv (wrap64 ((l.length:Int)+7)) 8)=(((l.length+7)/8:Nat):Int):=by
  rw[w64 (n:=(l.length:Int)+7) (by omega),Int.tdiv_eq_ediv_of_nonneg (by omega),w64 (by omega)];simp
 have c1:(0:Int)<=(((l.length+7)/8:Nat):Int):=by omega
 have c2:(((l.length+7)/8:Nat):Int).toNat<=281474976710656:=by omega
 refine Ev.congr (λ k=>(show puncheonref01_Bytes.f k l=puncheonref01_Bytes.l0 k l (List.replicate ((l.length+7)/8) 0) 0 by unfold puncheonref01_Bytes.f;rw[e,if_pos c1,if_pos c2,Int.toNat_natCast])) ?_;exact h
theorem b0T (qs:List (List Int)) (i:Nat):rd_L3 qs (i:Int)=qs.getD i []:=rfl
def okQ (lg:Int) (one:Bool) (q:List Int):Bool:=(decide (q.length=0) && !one)||decide ((logC q:Int)=lg)
theorem c8E (lg:Int) (one:Bool) (qs:List (List Int)) (hl:qs.length<=1000000):∀ (d i:Nat),i+d=qs.length->Ev (λ k=>puncheonref16_Right.l0 k (i:Int) lg one qs) ((qs.drop i).all (okQ lg one)):=by
 intro d
 induction d with
 | zero=>
  intro i hi;refine Ev.step (λ k=>(show puncheonref16_Right.l0 (k+1) _ _ _ _=_ by simp only[puncheonref16_Right.l0];rw[if_neg (by omega)])) ?_;rw[List.drop_of_length_le (by omega)];exact Ev.now _
 | succ d ih=>
  intro i hi;have hlt:i<qs.length:=by omega
  have c1:(i:Int)<(qs.length:Int):=by omega
  have c2:(0:Int)<=i:=by omega
  have hd:qs.drop i=qs.getD i [] :: qs.drop (i+1):=by rw[List.drop_eq_getElem_cons hlt,List.getD_eq_getElem?_getD,List.getElem?_eq_getElem hlt,Option.getD_some]
  rw[hd,List.all_cons];have ih':=ih (i+1) (by omega)
  have hj:∀ b:Bool,b=(decide ((qs.getD i []).length=0) && !one)->Ev (λ k=>puncheonref16_Right.j2 k (i:Int) b lg one qs) (okQ lg one (qs.getD i [])&&(qs.drop (i+1)).all (okQ lg one)):=by
   intro b hb;unfold okQ;rw[<- hb]
   cases b with
   | true=>
    refine Ev.step (λ k=>(show puncheonref16_Right.j2 (k+1) _ _ _ _ _=_ by simp only[puncheonref16_Right.j2];rw[if_pos trivial,wS i (by omega)])) ?_;rw[Bool.true_or,Bool.true_and];exact ih'
   | false=>
    refine Ev.step (λ k=>(show puncheonref16_Right.j2 (k+1) _ _ _ _ _=_ by simp only[puncheonref16_Right.j2];rw[if_neg (by decide),if_pos c2,if_pos c1,b0T])) ?_;refine Ev.bind (a5K _) ?_
    by_cases h:(logC (qs.getD i []):Int)=lg
    · refine Ev.congr (f:=λ k=>puncheonref16_Right.l0 k ((i+1:Nat):Int) lg one qs) (λ k=>by rw[if_pos h,wS i (by omega)]) ?_;rw[Bool.false_or,decide_eq_true h,Bool.true_and];exact ih'
    · refine Ev.congr (f:=λ k=>some false) (λ k=>by rw[if_neg h]) ?_;rw[Bool.false_or,decide_eq_false h,Bool.false_and];exact Ev.now _
  by_cases h0:(qs.getD i []).length=0
  · refine Ev.step (λ k=>(show puncheonref16_Right.l0 (k+1) _ _ _ _=_ by simp only[puncheonref16_Right.l0];rw[if_pos c1,if_pos c2,b0T,if_pos (by omega)])) ?_;exact hj (!one) (by rw[decide_eq_true h0,Bool.true_and])
  · refine Ev.step (λ k=>(show puncheonref16_Right.l0 (k+1) _ _ _ _=_ by simp only[puncheonref16_Right.l0];rw[if_pos c1,if_pos c2,b0T,if_neg (by omega)])) ?_;exact hj false (by rw[decide_eq_false h0,Bool.false_and])
theorem c8F {lg:Int} (h1:1<=lg) (q:List Int):okQ lg false q = !badQ lg q:=by
 unfold okQ badQ
 by_cases h0:q.length=0
 · have h2:¬ (0<q.length/\¬ (logC q≠0/\(logC q:Int)=lg)):=by omega
   rw[decide_eq_true h0,decide_eq_false h2];simp
 · rw[decide_eq_false h0,Bool.false_and,Bool.false_or]
   by_cases h:(logC q:Int)=lg
   · have h2:¬ (0<q.length/\¬ (logC q≠0/\(logC q:Int)=lg)):=by omega
     rw[decide_eq_true h,decide_eq_false h2];rfl
   · have h2:(0<q.length/\¬ (logC q≠0/\(logC q:Int)=lg)):=by omega
     rw[decide_eq_false h,decide_eq_true h2];rfl
theorem b7m {lg:Int} {one:Bool} {qs:List (List Int)} (h:1<=lg/\lg<=12) (hl:qs.length=(if one then 1 else 256)):qs.all (okQ lg one)=a0A lg one qs:=by
 unfold a0A;rw[if_neg (by omega)]
 have e:∀ l:List (List Int),l.all (okQ lg false) = !l.any (badQ lg):=λ l=>by
  induction l with
  | nil=>rfl
  | cons a l ih=>rw[List.all_cons,List.any_cons,ih,c8F h.1,Bool.not_or]
 cases one with
 | false=>
  rw[e]
  cases hb:qs.any (badQ lg) with
  | true=>rfl
  | false=>
   simp only[Bool.false_eq_true,if_false] at hl ⊢;rw[decide_eq_true hl];rfl
 | true=>
  simp only[if_true] at hl;obtain⟨q,rfl⟩:=List.length_eq_one_iff.1 hl;simp only[List.all_cons,List.all_nil,List.any_cons,List.any_nil,Bool.and_true,Bool.or_false,List.length_singleton,List.getD_cons_zero,true_and,if_true];unfold okQ badQ
  by_cases h0:q.length=0
  · have h3:=b3R h0;have h2:¬ (0<q.length/\¬ (logC q≠0/\(logC q:Int)=lg)):=by omega
    have h4:¬ ((logC q:Int)=lg):=by omega
    have h5:¬ (0<q.length):=by omega
    rw[decide_eq_true h0,Bool.not_true,Bool.and_false,Bool.false_or,decide_eq_false h4,decide_eq_false h2,decide_eq_false h5];rfl
  · rw[decide_eq_false h0,Bool.false_and,Bool.false_or];have h5:0<q.length:=by omega
    by_cases h:(logC q:Int)=lg
    · have h2:¬ (0<q.length/\¬ (logC q≠0/\(logC q:Int)=lg)):=by omega
      rw[decide_eq_true h,decide_eq_false h2,decide_eq_true h5];rfl
    · have h2:(0<q.length/\¬ (logC q≠0/\(logC q:Int)=lg)):=by omega
      rw[decide_eq_false h,decide_eq_true h2];rfl
theorem c8G (lg:Int) (one:Bool) (qs:List (List Int)) (hl:qs.length<=1000000):Ev (λ k=>puncheonref16_Right.f k lg one qs) (a0A lg one qs):=by
 have hj:∀ b:Bool,(b=true->a0A lg one qs=false)->(b=false->qs.all (okQ lg one)=a0A lg one qs)->Ev (λ k=>puncheonref16_Right.j0 k b lg one qs) (a0A lg one qs):=by
  intro b h1 h2
  cases b with
  | true=>
   refine Ev.step (λ k=>(show puncheonref16_Right.j0 (k+1) _ _ _ _=_ by simp only[puncheonref16_Right.j0];rw[if_pos trivial])) ?_;rw[h1 rfl];exact Ev.now _
  | false=>
   refine Ev.step (λ k=>(show puncheonref16_Right.j0 (k+1) _ _ _ _=_ by simp only[puncheonref16_Right.j0];rw[if_neg (by decide)])) ?_;have:=c8E lg one qs hl qs.length 0 (by omega);rw[List.drop_zero,h2 rfl] at this;exact this
 by_cases h1:lg<1
 · refine Ev.congr (λ k=>(show puncheonref16_Right.f k lg one qs=_ by unfold puncheonref16_Right.f;rw[if_pos h1])) ?_;exact hj true (λ _=>by unfold a0A;rw[if_pos (.inl h1)]) (λ h=>by cases h)
 · by_cases h2:lg>12
   · refine Ev.congr (λ k=>(show puncheonref16_Right.f k lg one qs=_ by unfold puncheonref16_Right.f;rw[if_neg h1,if_pos h2])) ?_;exact hj true (λ _=>by unfold a0A;rw[if_pos (.inr h2)]) (λ h=>by cases h)
   · have no:qs.length≠(if one then 1 else 256)->a0A lg one qs=false:=λ hne=>by
       cases hr:a0A lg one qs with
       | false=>rfl
       | true=>exact absurd (a1T hr).2.2.1 hne
     cases one with
     | true=>
      by_cases h3:(qs.length:Int)=1
      · refine Ev.congr (λ k=>(show puncheonref16_Right.f k lg true qs=_ by unfold puncheonref16_Right.f;rw[if_neg h1,if_neg h2,if_pos rfl,if_pos h3])) ?_;exact hj false (λ h=>by cases h) (λ _=>b7m (by omega) (by simp only[if_true];omega))
      · refine Ev.congr (λ k=>(show puncheonref16_Right.f k lg true qs=_ by unfold puncheonref16_Right.f;rw[if_neg h1,if_neg h2,if_pos rfl,if_neg h3])) ?_;exact hj true (λ _=>no (by simp only[if_true];omega)) (λ h=>by cases h)
     | false=>
      refine Ev.congr (λ k=>(show puncheonref16_Right.f k lg false qs=_ by unfold puncheonref16_Right.f;rw[if_neg h1,if_neg h2,if_neg (by decide)])) ?_
      by_cases h3:(qs.length:Int)=256
      · have e:((qs.length:Int)!=256)=false:=by simp;omega
        rw[e];exact hj false (λ h=>by cases h) (λ _=>b7m (by omega) (by simp only[Bool.false_eq_true,if_false];omega))
      · have e:((qs.length:Int)!=256)=true:=by simp;omega
        rw[e];exact hj true (λ _=>no (by simp only[Bool.false_eq_true,if_false];omega)) (λ h=>by cases h)
section
variable (A:Option Addr) (c:Nat) (w:World)
theorem b7n (lg:Int) (one:Bool) (qs:List (List Int)) (hr:kq.C w A qs.length qs) (hc:qs.length<=c) (hl:qs.length<=1000000):Calls Tryz.prog 121 #[.agg #[.int .i64 lg,.bool one,.slice A qs.length c]] w (Ret (.bool (a0A lg one qs)) w):=by
 obtain⟨k,hk⟩:=(c8G lg one qs hl).rounds;exact puncheonref16_Right.calls k lg one A c qs _ w hr hc hk
end
end Go.Proofs.YtflfjpkmjnnodaaGreat
namespace Go.Proofs.YtflfjpkmjnnodaaGreat
def symP (s:Int) (x:K3):Bool:=decide (x.2.2=s)
theorem b7o (l:List Int) (s:Int):∀ k,k<=l.length->(posN l s k).length=(l.take k).countP (λ x=>decide (x=s)):=by
 intro k
 induction k with
 | zero=>intro _;simp[a8Z]
 | succ k ih=>
  intro h;have e:l.getD k (-1)=l[k]:=by rw[List.getD_eq_getElem?_getD,List.getElem?_eq_getElem (by omega),Option.getD_some]
  rw[List.take_succ_eq_append_getElem (by omega),List.countP_append]
  by_cases h1:l.getD k (-1)=s
  · rw[a2H h1,List.length_append,ih (by omega)];rw[e] at h1;simp[h1]
  · rw[a3L h1,ih (by omega)];rw[e] at h1;simp[h1]
theorem b7p (l:List Int) (s:Int):∀ (k d:Nat),d<(posN l s k).length->∃ P:Nat,(posN l s k).getD d 0=P/\P<k/\l.getD P (-1)=s/\(posN l s P).length=d:=by
 intro k
 induction k with
 | zero=>intro d h;simp[a8Z] at h
 | succ k ih=>
  intro d h
  by_cases h1:l.getD k (-1)=s
  · rw[a2H h1] at h ⊢
    by_cases h2:d<(posN l s k).length
    · obtain⟨P,e1,e2,e3,e4⟩:=ih d h2;refine⟨P,?_,by omega,e3,e4⟩;rw[<- e1,List.getD_eq_getElem?_getD,List.getElem?_append_left h2,<- List.getD_eq_getElem?_getD]
    · rw[List.length_append,List.length_singleton] at h;have hd:d=(posN l s k).length:=by omega
      refine⟨k,?_,by omega,h1,hd.symm⟩;rw[List.getD_eq_getElem?_getD,hd,List.getElem?_append_right (Nat.le_refl _)];simp
  · rw[a3L h1] at h ⊢;obtain⟨P,e1,e2,e3,e4⟩:=ih d h;exact⟨P,e1,by omega,e3,e4⟩
open Go.RowKit
theorem b7r (q:List Int):(a0D q).Nodup:=by
 have h:∀ k,k<=q.length->(a0D (q.take k)).Nodup/\∀ x∈a0D (q.take k),x.2.2<(k:Int):=by
  intro k
  induction k with
  | zero=>intro _;simp[a0D]
  | succ k ih=>
   intro hk;obtain⟨h1,h2⟩:=ih (by omega);rw[a3k (by omega)]
   have h3:∀ x∈a1c (q.getD k 0) k,x.2.2=(k:Int):=λ x hx=>by
    unfold a1c at hx;rw[List.mem_map] at hx;obtain⟨d,_,rfl⟩:=hx;rfl
   refine⟨List.nodup_append.2 ⟨h1,?_,?_⟩,?_⟩
   · unfold a1c;unfold List.Nodup;rw[List.pairwise_map];have h4:(List.range (q.getD k 0).toNat).Pairwise (· ≠ ·):=List.nodup_range;refine h4.imp ?_;intro a b hne e;have:=congrArg Prod.fst e;simp only at this;omega
   · intro a ha b hb e;have:=h2 a ha;have:=h3 b hb;rw[e] at *;omega
   · intro x hx;rcases List.mem_append.1 hx with h | h
     · have:=h2 x h;omega
     · have:=h3 x h;omega
 have:=(h q.length (Nat.le_refl _)).1;rw[List.take_length] at this;exact this
theorem c8Q {q:List Int} (hq:Good q) {P:Nat} (hP:P<(a0t q).length):(a0D q).countP (λ x=>lessK x (a0t q)[P])=P:=by
 have hperm:=a3l hq;have hsort:=a6J hq;have hnd:(a0t q).Nodup:=hperm.nodup_iff.2 (b7r q);have hgood:∀ x∈a0t q,GK x:=λ x hx=>a3I hq x (hperm.mem_iff.1 hx);rw[<- hperm.countP_eq,show(a0t q).countP (λ x=>lessK x (a0t q)[P])=((a0t q).take P++(a0t q).drop P).countP (λ x=>lessK x (a0t q)[P]) by rw[List.take_append_drop],List.countP_append]
 have h1:((a0t q).take P).countP (λ x=>lessK x (a0t q)[P])=((a0t q).take P).length:=by
  rw[List.countP_eq_length];intro x hx;rw[List.mem_take_iff_getElem] at hx;obtain⟨i,hi,rfl⟩:=hx;have hle:leK (a0t q)[i] (a0t q)[P]:=List.pairwise_iff_getElem.1 hsort i P (by omega) hP (by omega)
  cases h:lessK (a0t q)[i] (a0t q)[P] with
  | true=>rfl
  | false=>
   have he:=b3k hq (hperm.mem_iff.1 (List.getElem_mem (by omega:i<(a0t q).length))) (hperm.mem_iff.1 (List.getElem_mem hP)) hle h;have:=(List.getElem_inj (i:=i) (j:=P) (h₀:=by omega) (h₁:=hP) hnd).1 he;omega
 have h2:((a0t q).drop P).countP (λ x=>lessK x (a0t q)[P])=0:=by
  rw[List.countP_eq_zero];intro x hx;rw[List.mem_drop_iff_getElem] at hx;obtain⟨i,hi,rfl⟩:=hx
  by_cases h0:i=0
  · subst h0;have:=a6G (hgood _ (List.getElem_mem hP));unfold leK at this;simp only[Nat.add_zero];rw[this];simp
  · have:leK (a0t q)[P] (a0t q)[P+i]:=List.pairwise_iff_getElem.1 hsort P (P+i) hP (by omega) (by omega);unfold leK at this;rw[this];simp
 rw[h1,h2,List.length_take];omega
def lowS (c:Int) (s e:Nat) (x:K3):Bool:=decide (x.2.2=(s:Int)/\x.1<c+e)
theorem c8R (e N:Nat) (h:e<=N):(List.range N).countP (λ j=>decide (j<e))=e:=by
 induction N with
 | zero=>simp;omega
 | succ N ih=>
  rw[List.range_succ,List.countP_append]
  by_cases h2:e<=N
  · rw[ih h2];simp;omega
  · have:e=N+1:=by omega
    subst this
    have h3:(List.range N).countP (λ j=>decide (j<N+1))=(List.range N).length:=by
     rw[List.countP_eq_length];intro x hx;rw[List.mem_range] at hx;simp;omega
    rw[h3];simp
theorem c8S {q:List Int} {s e:Nat} (hs:s<q.length) (he:(e:Int)<=q.getD s 0):(a0D q).countP (lowS (q.getD s 0) s e)=e:=by
 have h:∀ k,k<=q.length->(a0D (q.take k)).countP (lowS (q.getD s 0) s e)=if s<k then e else 0:=by
  intro k
  induction k with
  | zero=>intro _;simp[a0D]
  | succ k ih=>
   intro hk;rw[a3k (by omega),List.countP_append,ih (by omega)]
   by_cases hsk:s=k
   · subst hsk;rw[if_neg (by omega),if_pos (by omega)];unfold a1c;rw[List.countP_map]
     have:(lowS (q.getD s 0) s e∘λ (d:Nat)=>((q.getD s 0+(d:Int),q.getD s 0,(s:Int)):K3))=λ j=>decide (j<e):=by
      funext j;unfold lowS;simp[Function.comp]
     rw[this,c8R _ _ (by omega)];omega
   · have h0:(a1c (q.getD k 0) k).countP (lowS (q.getD s 0) s e)=0:=by
       rw[List.countP_eq_zero];intro x hx;unfold a1c at hx;rw[List.mem_map] at hx;obtain⟨d,_,rfl⟩:=hx;unfold lowS;simp;omega
     rw[h0]
     by_cases h1:s<k
     · rw[if_pos h1,if_pos (by omega),Nat.add_zero]
     · rw[if_neg h1,if_neg (by omega)]
 have:=h q.length (Nat.le_refl _);rw[List.take_length,if_pos hs] at this;exact this
theorem c8T {q:List Int} (hq:Good q) {s d:Nat} (hs:s<256) (hd:(d:Int)<q.getD s 0):∃ P:Nat,(a1k q s).getD d 0=P/\∃ h:P<(a0t q).length,(a0t q)[P]=(q.getD s 0+d,q.getD s 0,(s:Int)):=by
 have hc:=a1R hq s;have hlen:(posN (symsL q) s (symsL q).length).length=cntC q s:=rfl;obtain⟨P,e1,e2,e3,e4⟩:=b7p (symsL q) s (symsL q).length d (by omega);have hsl:s<q.length:=by rw[hq.len];exact hs
 have hP:P<(a0t q).length:=by unfold symsL at e2;rw[List.length_map] at e2;exact e2
 have hperm:=a3l hq;have hsort:=a6J hq;have hnd:(a0t q).Nodup:=hperm.nodup_iff.2 (b7r q);obtain⟨t,e,ht,he,hx⟩:=mem_allKeys.1 (hperm.mem_iff.1 (List.getElem_mem hP))
 have hsy:(symsL q).getD P (-1)=(a0t q)[P].2.2:=by
  unfold symsL;rw[List.getD_eq_getElem?_getD,List.getElem?_map,List.getElem?_eq_getElem hP];rfl
 rw[hsy,hx] at e3;have hts:t=s:=Int.ofNat.inj e3;subst hts;refine⟨P,e1,hP,?_⟩;rw[hx];have hgood:∀ x∈a0t q,GK x:=λ x hx=>a3I hq x (hperm.mem_iff.1 hx)
 have hdc:d=((a0t q).take P).countP (symP t):=by
  rw[<- e4,b7o _ _ _ (by omega)];unfold symsL;rw[<- List.map_take,List.countP_map];rfl
 have h1:=c8S hsl (e:=e) (by omega);rw[<- hperm.countP_eq,<- List.take_append_drop P (a0t q),List.countP_append] at h1;have hkey:=hgood _ (List.getElem_mem hP)
 have h2:((a0t q).drop P).countP (lowS (q.getD t 0) t e)=0:=by
  rw[List.countP_eq_zero];intro x hx';rw[List.mem_drop_iff_getElem] at hx';obtain⟨i,hi,rfl⟩:=hx'
  have h3:leK (a0t q)[P] (a0t q)[P+i]:=by
   by_cases h0:i=0
   · subst h0;exact a6G hkey
   · exact List.pairwise_iff_getElem.1 hsort P (P+i) hP (by omega) (by omega)
  have h4:=(a2p (hgood _ (List.getElem_mem _)) hkey).1 h3;obtain⟨t',f,_,hf,hxe⟩:=mem_allKeys.1 (hperm.mem_iff.1 (List.getElem_mem (by omega:P+i<(a0t q).length)));unfold lowS;simp only[decide_eq_true_eq];rintro ⟨h5,h6⟩;rw[hxe] at h5 h6 h4;rw[hx] at h4;have ht':t'=t:=Int.ofNat.inj h5;subst ht';simp only at h4 h6;have h7:(q.getD t' 0+e)*q.getD t' 0<=(q.getD t' 0+f)*q.getD t' 0:=by omega
  have:=Int.le_of_mul_le_mul_right h7 (by omega);omega
 have h3:((a0t q).take P).countP (lowS (q.getD t 0) t e)=((a0t q).take P).countP (symP t):=by
  refine List.countP_congr (λ x hx'=>?_);rw[List.mem_take_iff_getElem] at hx';obtain⟨i,hi,rfl⟩:=hx';have hle:leK (a0t q)[i] (a0t q)[P]:=List.pairwise_iff_getElem.1 hsort i P (by omega) hP (by omega);have h4:=(a2p hkey (hgood _ (List.getElem_mem (by omega:i<(a0t q).length)))).1 hle;obtain⟨t',f,_,hf,hxe⟩:=mem_allKeys.1 (hperm.mem_iff.1 (List.getElem_mem (by omega:i<(a0t q).length)))
  have hne:(a0t q)[i]≠(a0t q)[P]:=λ he=>by
   have:=(List.getElem_inj (i:=i) (j:=P) (h₀:=by omega) (h₁:=hP) hnd).1 he;omega
  unfold lowS symP;simp only[decide_eq_true_eq]
  constructor
  · exact λ h=>h.1
  · intro h5;refine⟨h5,?_⟩;rw[hxe] at h5 h4 hne ⊢;rw[hx] at h4 hne;have ht':t'=t:=Int.ofNat.inj h5;subst ht';simp only at h4 ⊢;have h7:(q.getD t' 0+f)*q.getD t' 0<=(q.getD t' 0+e)*q.getD t' 0:=by omega
    have:=Int.le_of_mul_le_mul_right h7 (by omega);have hfe:f≠e:=λ h=>hne (by rw[h]);omega
 have hde:d=e:=by omega
 rw[hde]
open Go.Proofs.YtflfjpkmjnnodaaGreat.PRef Go.Proofs.YtflfjpkmjnnodaaGreatW.PrintWords Go.Proofs.YtflfjpkmjnnodaaGreatW.PrintLast Go.Proofs.YtflfjpkmjnnodaaGreatW.PrintMore
def lessN (n:Int) (t:Nat) (x:K3) (d:Nat):Nat:=(List.range d).countP (λ (j:Nat)=>lessK (n+j,n,(t:Int)) x)
theorem c8U (n:Int) (t:Nat) (x:K3) (d:Nat):lessN n t x (d+1)=lessN n t x d+(if lessK (n+d,n,(t:Int)) x=true then 1 else 0):=by
 unfold lessN;rw[List.range_succ,List.countP_append];simp[List.countP_singleton]
theorem c8V (n:Int) (t:Nat) (x:K3) (d:Nat):lessN n t x d<=d:=by
 unfold lessN;have:=List.countP_le_length (p:=λ (j:Nat)=>lessK (n+j,n,(t:Int)) x) (l:=List.range d);rw[List.length_range] at this;exact this
theorem c8W {q:List Int} (hq:Good q) {t s:Nat} (ht:t<256) (hs:s<256) {i:Int} (hc:0<q.getD s 0) (hi:q.getD s 0<=i/\i<2*q.getD s 0):∀ (r d:Nat),(d+r:Int)=q.getD t 0->Ev (λ k=>puncheonref10_less.l0 k q t s i (lessN (q.getD t 0) t (i,q.getD s 0,(s:Int)) d:Nat) (q.getD t 0+d)) (lessN (q.getD t 0) t (i,q.getD s 0,(s:Int)) (q.getD t 0).toNat:Nat):=by
 have hl:=hq.len;have g1:=hq.get t;have g2:=hq.get s;have c1:(0:Int)<=t:=by omega
 have c2:(t:Int)<(q.length:Int):=by omega
 have c3:(0:Int)<=s:=by omega
 have c4:(s:Int)<(q.length:Int):=by omega
 obtain⟨n,hn⟩:∃ n,n=q.getD t 0:=⟨_,rfl⟩;obtain⟨c,hcc⟩:∃ c,c=q.getD s 0:=⟨_,rfl⟩;rw[<- hn] at g1 ⊢;rw[<- hcc] at g2 hc hi ⊢;intro r
 induction r with
 | zero=>
  intro d hd;refine Ev.step (λ k=>(show puncheonref10_less.l0 (k+1) q t s i _ _=_ by simp only[puncheonref10_less.l0];rw[if_pos c1,if_pos c2,a0G,<- hn,w64 (n:=2*n) (by omega),if_neg (by omega)])) ?_;rw[show n.toNat=d by omega];exact Ev.now _
 | succ r ih=>
  intro d hd;have hk:GK (n+d,n,(t:Int)):=rightB_iff.2 (by simp only[];omega);have hx:GK (i,c,(s:Int)):=rightB_iff.2 (by simp only[];omega);have m1:=a8V (x:=n+d) (y:=c) (by omega) (by omega) (by omega) (by omega);have m2:=a8V (x:=i) (y:=n) (by omega) (by omega) (by omega) (by omega);have hlt:n+(d:Int)<2*n:=by omega
  have w1:wrap64 ((n+(d:Int))*c)=(n+d)*c:=w64 (by omega);have w2:wrap64 (i*n)=i*n:=w64 (by omega);have w3:wrap64 (n+(d:Int)+1)=n+((d+1:Nat):Int):=by rw[w64 (by omega)];omega
  have hle:=c8V n t (i,c,(s:Int)) d;have w4:wrap64 (((lessN n t (i,c,(s:Int)) d:Nat):Int)+1)=((lessN n t (i,c,(s:Int)) d+1:Nat):Int):=wS _ (by omega);have hiff:=a8W hk hx;simp only at hiff;have ih':=ih (d+1) (by omega);rw[c8U] at ih'
  by_cases e1:(n+(d:Int))*c<i*n
  · refine Ev.step (λ k=>(show puncheonref10_less.l0 (k+1) q t s i _ _=_ by simp only[puncheonref10_less.l0];rw[if_pos c1,if_pos c2,a0G,<- hn,w64 (n:=2*n) (by omega),if_pos hlt,if_pos c3,if_pos c4,a0G,<- hcc,w1,w2,if_pos e1,w3,w4])) ?_;rw[if_pos (hiff.2 (.inl e1))] at ih';exact ih'
  · by_cases e2:(n+(d:Int))*c=i*n
    · by_cases e3:(t:Int)<s
      · refine Ev.step (λ k=>(show puncheonref10_less.l0 (k+1) q t s i _ _=_ by simp only[puncheonref10_less.l0];rw[if_pos c1,if_pos c2,a0G,<- hn,w64 (n:=2*n) (by omega),if_pos hlt,if_pos c3,if_pos c4,a0G,<- hcc,w1,w2,if_neg e1,if_pos e2,if_pos e3,w3,w4])) ?_;rw[if_pos (hiff.2 (.inr ⟨e2,e3⟩))] at ih';exact ih'
      · refine Ev.step (λ k=>(show puncheonref10_less.l0 (k+1) q t s i _ _=_ by simp only[puncheonref10_less.l0];rw[if_pos c1,if_pos c2,a0G,<- hn,w64 (n:=2*n) (by omega),if_pos hlt,if_pos c3,if_pos c4,a0G,<- hcc,w1,w2,if_neg e1,if_pos e2,if_neg e3,w3])) ?_;rw[if_neg (λ h=>by rcases hiff.1 h with h | h;exact e1 h;exact e3 h.2)] at ih';exact ih'
    · refine Ev.step (λ k=>(show puncheonref10_less.l0 (k+1) q t s i _ _=_ by simp only[puncheonref10_less.l0];rw[if_pos c1,if_pos c2,a0G,<- hn,w64 (n:=2*n) (by omega),if_pos hlt,if_pos c3,if_pos c4,a0G,<- hcc,w1,w2,if_neg e1,if_neg e2,w3])) ?_;rw[if_neg (λ h=>by rcases hiff.1 h with h | h;exact e1 h;exact e2 h.1)] at ih';exact ih'
theorem c8X {q:List Int} (hq:Good q) {t s:Nat} (ht:t<256) (hs:s<256) {i:Int} (hc:0<q.getD s 0) (hi:q.getD s 0<=i/\i<2*q.getD s 0):Ev (λ k=>puncheonref10_less.f k q t s i) (lessN (q.getD t 0) t (i,q.getD s 0,(s:Int)) (q.getD t 0).toNat:Nat):=by
 have hl:=hq.len;have h:=c8W hq ht hs hc hi (q.getD t 0).toNat 0 (by have:=hq.get t;omega);refine Ev.congr (λ k=>(show puncheonref10_less.f k q t s i=_ by unfold puncheonref10_less.f;rw[if_pos (by omega),if_pos (by omega),a0G])) ?_;have e:lessN (q.getD t 0) t (i,q.getD s 0,(s:Int)) 0=0:=rfl;rw[e] at h;simpa using h
theorem b7s (n:Int) (t:Nat) (x:K3):lessN n t x n.toNat=(a1c n t).countP (λ y=>lessK y x):=by
 unfold lessN a1c;rw[List.countP_map];rfl
theorem c8Y {q:List Int} (hq:Good q) {s:Nat} (hs:s<256) {i:Int} (hc:0<q.getD s 0) (hi:q.getD s 0<=i/\i<2*q.getD s 0):∀ (d t:Nat),t+d=q.length->Ev (λ k=>puncheonref10_Place.l0 k q s i ((a0D (q.take t)).countP (λ y=>lessK y (i,q.getD s 0,(s:Int))):Nat) (t:Int)) ((a0D q).countP (λ y=>lessK y (i,q.getD s 0,(s:Int))):Nat):=by
 have hl:=hq.len;intro d
 induction d with
 | zero=>
  intro t ht;refine Ev.step (λ k=>(show puncheonref10_Place.l0 (k+1) q s i _ _=_ by simp only[puncheonref10_Place.l0];rw[if_neg (by omega)])) ?_;rw[show t=q.length by omega,List.take_length];exact Ev.now _
 | succ d ih=>
  intro t ht;have hlt:(t:Int)<(q.length:Int):=by omega
  refine Ev.step (λ k=>(show puncheonref10_Place.l0 (k+1) q s i _ _=_ by simp only[puncheonref10_Place.l0];rw[if_pos hlt])) ?_;refine Ev.bind (c8X hq (by omega) hs hc hi) ?_;have ih':=ih (t+1) (by omega);rw[a3k (by omega),List.countP_append,<- b7s] at ih'
  have hb:(a0D (q.take t)).countP (λ y=>lessK y (i,q.getD s 0,(s:Int)))+lessN (q.getD t 0) t (i,q.getD s 0,(s:Int)) (q.getD t 0).toNat<=4096:=by
   rw[b7s,<- List.countP_append,<- a3k (by omega)];refine Nat.le_trans List.countP_le_length ?_;have h1:=a6H hq.nonneg;have h2:=hq.sum
   have h3:(a0D (q.take (t+1))).length<=(a0D q).length:=by
    have h5:∀ a b:List Int,a0D (a++b)=a0D a++(b.zipIdx a.length).flatMap (λ p=>a1c p.1 p.2):=λ a b=>by simp[a0D,List.zipIdx_append]
    have h4:=h5 (q.take (t+1)) (q.drop (t+1));rw[List.take_append_drop] at h4;rw[h4,List.length_append];omega
   omega
  rw[w64 (n:=_+_) (by omega),wS t (by omega)];rw[Int.natCast_add] at ih';exact ih'
theorem b7t {q:List Int} (hl:logC q≠0) {s:Nat} (hs:s<256) {i:Nat} (h1:cntC q s<=i) (h2:i<2*cntC q s):Ev (λ k=>puncheonref10_Place.f k q s i) ((a1k q s).getD (i-cntC q s) 0):=by
 have hq:=a1A hl;have hc:=a1R hq s;have hg:=hq.get s;have:=c8Y hq hs (i:=i) (by omega) (by omega) q.length 0 (by omega);have e0:(a0D (q.take 0)).countP (λ y=>lessK y ((i:Int),q.getD s 0,(s:Int)))=0:=by simp[a0D]
 rw[e0] at this;obtain⟨P,e1,hP,e2⟩:=c8T hq hs (d:=i-cntC q s) (by omega);have e3:=c8Q hq hP;rw[e2,show q.getD s 0+((i-cntC q s:Nat):Int)=i by omega] at e3;rw[e3] at this;rw[e1];exact this
theorem b0V (r:Nat) (h:r<=30):shl .i64 1 (r:Int)=((2^r:Nat):Int):=by
 unfold shl
 have e:min (r:Int).toNat IntKind.i64.bits=r:=by
  have:IntKind.i64.bits=64:=rfl;rw[this,Int.toNat_natCast];omega
 rw[e,Int.one_mul];have h2:(2:Nat)^r<=2^30:=Nat.pow_le_pow_right (by omega) h;have e2:(2:Int)^r=((2^r:Nat):Int):=by simp
 rw[e2];obtain⟨P,hP⟩:∃ P:Nat,P=2^r:=⟨_,rfl⟩;rw[<- hP] at h2 ⊢;exact Go.IntWalk.i64_in _ (by omega)
end Go.Proofs.YtflfjpkmjnnodaaGreat
namespace Go.Proofs.YtflfjpkmjnnodaaGreat
open Go.RowKit Go.IntWalk Go.Proofs.YtflfjpkmjnnodaaGreatW.PrintWords
theorem c9d (lg:Int) (one:Bool) (A:Option Addr) (c:Nat) (qs:List (List Int)) (w:World) (hr:kq.C w A qs.length qs) (h:a0A lg one qs=true) (h1:one=true->0<(qs.getD 0 []).length) :
    Calls Tryz.prog 121 #[.agg #[.int .i64 lg,.bool one,.slice A qs.length c]] w (Ret (.bool true) w):=by
 obtain⟨W1,hW1⟩:∃ W1,W1=w.alloc (.cells #[.int .i64 lg,.bool one,.slice A qs.length c] 26):=⟨_,rfl⟩;have HB:=Lib.hid ((Below.refl w.heap.size w).alloc (Nat.le_refl _) (.cells #[.int .i64 lg,.bool one,.slice A qs.length c] 26));have hk1:W1.heap[w.heap.size]?=some (.cells #[.int .i64 lg,.bool one,.slice A qs.length c] 26 (0,0)):=by rw[hW1];exact a0i _ _
 have HR:Hid (kq.C W1 A qs.length qs):=Lib.hid (by rw[hW1];exact Kd.C_alloc hr _);rw[<- hW1] at HB;obtain⟨l1,l2,l3,l4⟩:=a1T h;have HL:=Lib.hid (And.intro h1 (And.intro l3 l4));have HK:=Lib.hid hk1;have hn:Hid (qs.length<=256):=Lib.hid (by rw[l3];split <;> omega);have d1:decide (lg<1)=false:=decide_eq_false (by omega);have d2:decide (12<lg)=false:=decide_eq_false (by omega);have hd0:(one=true/\qs.length=1)\/(one=false/\qs.length=256):=by cases one <;> simp_all
 obtain⟨⟨m0,m1,m2⟩,_⟩:=cell3 hk1;clear hr h h1 l1 l2 l3 l4 hk1;obtain⟨n,hnn⟩:∃ n,n=qs.length:=⟨_,rfl⟩;rw[<- hnn] at hd0 hn m2 HR HK ⊢;rw[show(Obj.cells #[.int .i64 lg,.bool one,.slice A qs.length c] 26)=Obj.cells #[.int .i64 lg,.bool one,.slice A n c] 26 by rw[hnn]] at hW1;have HN:=Lib.hid hnn;clear hnn;have hcut:∀ (o:Bool) (q1 q2:Bool),True:=λ _ _ _=>trivial
 have HF:one=true->∀ i,i<n->(qs.getD i []).length≠0:=λ e i hi=>by
  rcases hd0 with ⟨_,e2⟩ | ⟨e1,_⟩
  · have:=HL.out.1 e;rw[show i=0 by omega];omega
  · rw[e] at e1;cases e1
 have HF':=Lib.hid HF;clear HF;have d3:one=true->((n:Int)!=1)=false:=λ e=>by rcases hd0 with ⟨_,e2⟩ | ⟨e1,_⟩ <;> simp_all
 have d4:one=false->((n:Int)!=256)=false:=λ e=>by rcases hd0 with ⟨e1,_⟩ | ⟨_,e2⟩ <;> simp_all
 have main:∀ o:Bool,one=o->Calls Tryz.prog 121 #[.agg #[.int .i64 lg,.bool one,.slice A n c]] w (Ret (.bool true) w):=by
  intro o ho;subst ho
  cases one
  all_goals
   first | have d5:=d3 rfl | have d5:=d4 rfl
   clear d3 d4 hd0 hcut;go_enter Tryz.func121,Tryz.ntmps121;go_wp2_with fail;rw[<- hW1];clear hW1 m0 m1 m2;go_loopw [3] (λ kv wr=>∃ (i:Nat),kv=.int .i64 i/\i<=n/\Hid (Below W1.heap.size W1 wr)) (λ kv _=>n-(intOf kv).toNat)
   case atStart=>exact⟨0,rfl,by omega,Lib.hid (Below.refl _ _)⟩
   case round=>
    obtain⟨i,rfl,hi,H⟩:=hrel;obtain⟨⟨m0,m1,m2⟩,_⟩:=cell3 (a0h HK.out H.out);have hn256:=hn.out
    by_cases hlt:i<n
    · obtain⟨ad,B,cb,rfl,hcell,hcb,hq⟩:=kq_at (Kd.C_below HR.out H.out) i hlt;have hqs:i<qs.length:=by rw[<- HN.out];exact hlt
      have HQL:Hid ((qs.getD i []).length≠0->(logC (qs.getD i []):Int)=lg):=Lib.hid (λ e=>(HL.out.2.2 _ (by rw[List.getD_eq_getElem?_getD,List.getElem?_eq_getElem hqs];exact List.getElem_mem hqs) e).2);have HFi:=λ e=>HF'.out e i hlt;obtain⟨q,hqq⟩:∃ q,q=qs.getD i []:=⟨_,rfl⟩;rw[<- hqq] at hcell hcb hq HQL HFi;clear hqq hqs;have HQ:=Lib.hid (And.intro hcb hq);have hiI:(i:Int)<(n:Int):=by omega
      by_cases h0:q.length=0
      · first
          | exact absurd h0 (HFi (by first | exact True.intro | rfl))
          | (have d6:((q.length:Int)==0)=true:=by rw[h0];rfl
             clear h0 hlt hcb hq HFi;go_wp2_with fail;go_roundw
             case rel=>exact⟨i+1,by go_num,by omega,H⟩
             case measure=>simp[intOf];omega)
      · have d6:((q.length:Int)==0)=false:=by simp;intro e;subst e;simp at h0
        have d7:((logC q:Int)!=lg)=false:=by simp;exact HQL.out h0
        clear h0 hcb hq HFi;go_wp2_with fail
        go_region_held3 (λ w'=>w'.cell? (ad.add i)=some (.slice B q.length cb)/\w'.cell? ⟨w.heap.size,0,none⟩=some (.int .i64 lg)/\w'.cell? ⟨w.heap.size,2,none⟩=some (.slice (some ad) n c)) ((repeat' apply And.intro) <;> first | assumption)
         (first | (go_at_call 172;refine(c3U B cb q _ (Kd.C_below HQ.out.2 (by first | exact(Below.refl _ _).drew | exact Below.refl _ _)) HQ.out.1).mono ?_;rintro e w2 ⟨rfl,hb2⟩;have k0:=a0p (w:=wr) ⟨hb2.os,hb2.tape,hb2.output,hb2.size,hb2.block⟩ hcell;have k1:=a0p (w:=wr) ⟨hb2.os,hb2.tape,hb2.output,hb2.size,hb2.block⟩ m0;have k2:=a0p (w:=wr) ⟨hb2.os,hb2.tape,hb2.output,hb2.size,hb2.block⟩ m2;have HV2:=Lib.hid (show Below wr.heap.size wr w2 from ⟨hb2.os,hb2.tape,hb2.output,hb2.size,hb2.block⟩);clear hb2))
        all_goals
         go_wp2_with fail;go_roundw
         case rel=>exact⟨i+1,by go_num,by omega,Lib.hid (a0f H.out HV2.out)⟩
         case measure=>simp[intOf];omega
    · obtain rfl:i=n:=by omega
      go_wp2_with fail;go_ret;exact⟨rfl,a0f HB.out H.out⟩
 exact main one rfl
def b0W (q:List Int) (w:World) (e:Ending) (w':World):Prop:=∃ (B:Option Addr) (cb:Nat),e=.returned (.slice B q.length cb)/\q.length<=cb/\(Kd.int .i64).C w' B q.length q/\Below w.heap.size w w'
theorem b0X (lg:Int) (one:Bool) (A:Option Addr) (c:Nat) (qs:List (List Int)) (x:Nat) (w:World) (hr:kq.C w A qs.length qs) (h:a0A lg one qs=true) (h1:one=true->0<(qs.getD 0 []).length) (hx:x<256) :
    Calls Tryz.prog 125 #[.agg #[.int .i64 lg,.bool one,.slice A qs.length c],.int .i64 x] w (b0W (qs.getD (listI one x) []) w):=by
 obtain⟨W1,hW1⟩:∃ W1,W1=w.alloc (.cells #[.int .i64 lg,.bool one,.slice A qs.length c] 26):=⟨_,rfl⟩;have HB:=Lib.hid ((Below.refl w.heap.size w).alloc (Nat.le_refl _) (.cells #[.int .i64 lg,.bool one,.slice A qs.length c] 26));have hk1:W1.heap[w.heap.size]?=some (.cells #[.int .i64 lg,.bool one,.slice A qs.length c] 26 (0,0)):=by rw[hW1];exact a0i _ _
 have HR:Hid (kq.C W1 A qs.length qs):=Lib.hid (by rw[hW1];exact Kd.C_alloc hr _);rw[<- hW1] at HB;have hlen:=(a1T h).2.2.1;have hi:listI one x<qs.length:=by rw[hlen];unfold listI;cases one <;> simp <;> omega
 have HX:=Lib.hid (c9d lg one A c qs W1 HR.out h h1);have HK:=Lib.hid hk1;have d1:decide ((x:Int)<0)=false:=decide_eq_false (by omega);have d2:decide (255<(x:Int))=false:=decide_eq_false (by omega);obtain⟨⟨m0,m1,m2⟩,_⟩:=cell3 hk1;have HI:=Lib.hid hi;obtain⟨q,hqq⟩:∃ q,q=qs.getD (listI one x) []:=⟨_,rfl⟩;rw[<- hqq];have HQQ:=Lib.hid hqq;clear hr h h1 hk1 hlen hi hqq;go_enter Tryz.func125,Tryz.ntmps125;go_wp2_with fail;rw[<- hW1];go_wp2_with fail;refine HX.out.mono ?_;rintro e w2 ⟨rfl,hb2⟩;obtain⟨⟨n0,n1,n2⟩,_⟩:=cell3 (a0h HK.out hb2);obtain⟨ad,B,cb,rfl,hcell,hcb,hq⟩:=kq_at (Kd.C_below HR.out hb2) _ HI.out;have HB2:=Lib.hid (a0f HB.out hb2);rw[<- HQQ.out] at hcell hcb hq;have HQ:=Lib.hid (And.intro hcb hq);clear hb2 hcb hq hW1 m0 m1 m2
 cases one
 · have e1:listI false x=x:=rfl;rw[e1] at hcell HI;have hiI:(x:Int)<(qs.length:Int):=by have:=HI.out;omega
   clear e1;go_wp2_with fail;go_ret;exact⟨B,cb,rfl,HQ.out.1,HQ.out.2,HB2.out⟩
 · have e1:listI true x=0:=rfl;rw[e1] at hcell HI;have hiI:(0:Int)<(qs.length:Int):=by have:=HI.out;omega
   have hcell0:w2.cell? ad=some (.slice B q.length cb):=hcell;clear e1;go_wp2_with fail;go_ret;exact⟨B,cb,rfl,HQ.out.1,HQ.out.2,HB2.out⟩
open Go.Proofs.YtflfjpkmjnnodaaGreat.PRef Go.Proofs.YtflfjpkmjnnodaaGreatW.PrintLast Go.Proofs.YtflfjpkmjnnodaaGreatW.PrintMore
theorem b0Y {lg:Int} {one:Bool} {qs:List (List Int)} (h:a0A lg one qs=true):one=true->0<(qs.getD 0 []).length:=by
 intro e;subst e;unfold a0A at h
 split at h
 · cases h
 · split at h
   · cases h
   · simp only[if_true,decide_eq_true_eq] at h;exact h.2
def MadeB (xs:List Bool) (w:World) (e:Ending) (w':World):Prop:=∃ v,e=.returned v/\Kd.bool.R 4 w' w.heap.size (λ _=>True) v xs/\Below w.heap.size w w'
def MadeU (xs:List Int) (w:World) (e:Ending) (w':World):Prop:=∃ v,e=.returned v/\(Kd.int .u8).R 5 w' w.heap.size (λ _=>True) v xs/\Below w.heap.size w w'
end Go.Proofs.YtflfjpkmjnnodaaGreat
namespace Go.Proofs.YtflfjpkmjnnodaaGreat
open Go.RowKit Go.IntWalk Go.Proofs.YtflfjpkmjnnodaaGreatW.PrintWords
theorem b7v (n:Nat) (w:World) (hn:n<=4096):Calls Tryz.prog 163 #[.int .i64 n] w (λ e w'=>e=.returned (.int .i64 (Lib.bitLen n:Nat))/\w=w'):=by
 go_enter Tryz.func163,Tryz.ntmps163;go_wp2_with fail;go_loop [0,3] (λ nv kv=>∃ m k:Nat,nv=.int .i64 m/\kv=.int .i64 k/\m<=4096/\k<=64/\k+Lib.bitLen m=Lib.bitLen n) (λ nv _=>(intOf nv).toNat)
 case atStart=>exact⟨n,0,rfl,rfl,hn,by omega,by omega⟩
 case round=>
  obtain⟨m,k,rfl,rfl,hm,hk,hs⟩:=hrel;have HS:=Lib.hid hs;have hb:=Lib.bitLen_le n 13 (by decide) (show n<2^13 from by omega);clear hs
  by_cases h0:m=0
  · subst h0
    have HE:Hid (k=Lib.bitLen n):=Lib.hid (by have:=HS.out;have e:Lib.bitLen 0=0:=by decide
                                              omega)
    clear HS hb;go_wp2_with fail;go_ret;exact⟨by rw[<- HE.out];rfl,rfl⟩
  · have hh:=Lib.bitLen_half m h0 (by omega);have hmI:(0:Int)<(m:Int):=by omega
    obtain⟨m2,hm2⟩:∃ m2,m2=m/2:=⟨_,rfl⟩;have hmd:(m:Int)/2=(m2:Int):=by omega
    have hmt:(m:Int).tdiv 2=(m2:Int):=by rw[Int.tdiv_eq_ediv_of_nonneg (by omega)];exact hmd
    rw[<- hm2] at hh;have HX:=Lib.hid (And.intro hh (And.intro hm2 hb));have hk63:k<=63:=by have:=HS.out;omega
    clear h0 hh hm2 hb hk;go_wp2_with fail;go_round
    case rel=>exact⟨m2,k+1,rfl,by go_num,by have:=HX.out;omega,by omega,by have:=HX.out;have:=HS.out;omega⟩
    case measure=>have:=HX.out;simp[intOf];omega
open Go.Proofs.YtflfjpkmjnnodaaGreat.PRef
theorem MadeB.out {xs:List Bool} {w:World} {e:Ending} {w':World} (h:MadeB xs w e w'):∃ A c,e=.returned (.slice A xs.length c)/\Kd.bool.C w' A xs.length xs/\xs.length<=c/\Below w.heap.size w w':=by
 obtain⟨v,rfl,hv,hb⟩:=h;obtain⟨A,c,rfl⟩:=Kd.R_slice hv;obtain⟨_,hc,hC⟩:=Kd.R_reads' hv;exact⟨A,c,rfl,hC,hc,hb⟩
theorem b1a (A:Option Addr) (cp n:Nat) (l:List Bool) (w:World) (hr:Kd.bool.C w A n l) (hn:l.length=n) (hc:l.length<=cp) (hl:l.length<=1000000):Calls Tryz.prog 114 #[.slice A n cp] w (MadeU (packB l) w):=by
 subst hn;obtain⟨k,hk⟩:=(b7l l hl).rounds;exact puncheonref01_Bytes.calls k A cp l _ w hr hc hk
end Go.Proofs.YtflfjpkmjnnodaaGreat
namespace Go.Proofs.YtflfjpkmjnnodaaGreat
open Go.RowKit Go.IntWalk Go.Proofs.YtflfjpkmjnnodaaGreatW.PrintWords
def RTold (k:Int) (y:List Int) (w:World) (e:Ending) (w':World):Prop:=
 ∃ A c,e=.returned (.tuple #[.slice A y.length c,.int .i64 k])/\((Kd.int .u8).C w' A y.length y/\y.length<=c)/\Below w.heap.size w w'
theorem RTold.nil (k:Int) {w w':World} (hb:Below w.heap.size w w'):RTold k [] w (.returned (.tuple #[.slice none 0 0,.int .i64 k])) w':=⟨none,0,rfl,⟨(Kd.R_reads' (Kd.R_nil (Kd.int .u8) 5 w' w'.heap.size (λ _=>True))).2.2,by simp⟩,hb⟩
theorem Told.rtold {k:Int} {y:List Int} {w:World} {e:Ending} {w':World} (h:Told k y w e w'):RTold k y w e w':=by
 obtain⟨A,c,he,hr,hb⟩:=h;exact⟨A,c,he,⟨(Kd.R_reads' hr).2.2,(Kd.R_reads' hr).2.1⟩,hb⟩
theorem c9C (A:Option Addr) (c:Nat) (b:List Int) (w:World) (hr:(Kd.int .u8).C w A b.length b) (hc:b.length<=c) (hl:b.length<=131072) :
    Calls Tryz.prog 82 #[.int .i64 0,.slice A b.length c,.int .i64 (b.length:Nat)] w (RTold 0 b w):=by
 have d1:decide ((b.length:Int)<0)=false:=decide_eq_false (by omega);have d2:decide ((131072:Int)<(b.length:Int))=false:=decide_eq_false (by omega);have HR:=Lib.hid (And.intro hr hc);clear hr hc hl;go_enter Tryz.func82,Tryz.ntmps82;go_wp2_with fail;go_ret2;exact⟨A,c,rfl,HR.out,Below.refl _ _⟩
def fillL (x:Int) (n i:Nat):List Int:=List.replicate i x++List.replicate (n-i) 0
theorem c9D (x:Int) {n i:Nat} (h:i<n):(fillL x n i).set i x=fillL x n (i+1):=by
 unfold fillL;obtain⟨d,hd⟩:∃ d,n-i=d+1:=⟨n-i-1,by omega⟩;rw[List.set_append_right _ _ (by simp),List.length_replicate,Nat.sub_self,hd,List.replicate_succ,List.set_cons_zero,show n-(i+1)=d by omega,List.replicate_succ',List.append_assoc];rfl
theorem c9E (A:Option Addr) (c:Nat) (b:List Int) (n:Nat) (w:World) (hr:(Kd.int .u8).C w A b.length b) (h1:b.length=1) (hn:2<=n) (hl:n<=131072) :
    Calls Tryz.prog 82 #[.int .i64 1,.slice A b.length c,.int .i64 n] w (RTold 0 (List.replicate n (b.getD 0 0)) w):=by
 obtain⟨ad,hA,hx⟩:=a0v hr 0 (by omega);subst hA;have e0:ad.add 0=ad:=by simp[Addr.add]
 rw[e0] at hx;obtain⟨x,hxe⟩:∃ x,x=b.getD 0 0:=⟨_,rfl⟩;rw[<- hxe] at hx ⊢;rw[h1];have HX:=Lib.hid hx;have d1:decide ((n:Int)<0)=false:=decide_eq_false (by omega);have d2:decide ((131072:Int)<(n:Int))=false:=decide_eq_false (by omega);have d3:decide ((n:Int)<2)=false:=decide_eq_false (by omega);obtain⟨W,hW⟩:∃ W,W=w.alloc (.cells (madeCells #[.int .u8 0] n) 5):=⟨_,rfl⟩;have hmk:=a9h n (by omega);have hmk2:∀ w:World,(Instr.makeSlice 22 (.int .i64 n) (.int .i64 n)).run Tryz.prog w=.ok (.slice (some ⟨w.heap.size,0,none⟩) n n) (w.alloc (.cells (madeCells #[.int .u8 0] n) 5)):=λ w=>hmk w;have H0:Hid ((Kd.int .u8).R 5 W w.heap.size (λ _=>True) (.slice (some ⟨w.heap.size,0,none⟩) n n) (fillL x n 0)/\Below w.heap.size w W):=Lib.hid ⟨by show(Kd.int .u8).R _ _ _ _ _ (List.replicate n 0);rw[hW];exact a9i n (by omega) w (λ _=>True) trivial w.heap.size (Nat.le_refl _),by rw[hW];exact(Below.refl _ _).alloc (Nat.le_refl _) _⟩;obtain⟨g,hg⟩:∃ g,g=w.heap.size:=⟨_,rfl⟩;rw[<- hg] at H0;have HG:=Lib.hid hg;clear hr hx hmk hxe h1 e0;go_enter Tryz.func82,Tryz.ntmps82;go_wp2_with fail;rw[<- hW,<- hg];clear hW hg hmk2;go_wp2_with fail;go_loopw [9] (λ kv wr=>∃ i:Nat,i<=n/\kv=.int .i64 i/\Hid ((Kd.int .u8).R 5 wr g (λ _=>True) (.slice (some ⟨g,0,none⟩) n n) (fillL x n i)/\Below g w wr)) (λ kv _=>n-(intOf kv).toNat)
 case atStart=>exact⟨0,by omega,rfl,H0⟩
 case round=>
  obtain⟨i,hi,rfl,H⟩:=hrel
  by_cases hlt:i<n
  · have hI:(i:Int)<(n:Int):=by omega
    have hcx:=a0p (by rw[<- HG.out];exact H.out.2) HX.out;obtain⟨cc,cf⟩:=a1D H.out.1 i hlt;have HS:=Lib.hid (c9D x hlt);have h9:=Kd.R_putn H.out.1 (i:Int) x;rw[Int.toNat_natCast] at h9;have H9:=Lib.hid (And.intro h9 (H.out.2.setCell (p:=⟨g,i,none⟩) (Nat.le_refl _) (.int .u8 x)));clear h9;go_wp2_with fail;go_roundw
    case rel=>exact⟨i+1,by omega,by go_num,Lib.hid (by rw[<- HS.out];exact H9.out)⟩
    case measure=>simp[intOf];omega
  · obtain rfl:i=n:=by omega
    have hf:fillL x i i=List.replicate i x:=by unfold fillL;rw[Nat.sub_self];simp
    have HH:=Lib.hid H.out;rw[hf] at HH;clear hf;go_wp2_with fail;go_ret2;refine⟨some ⟨g,0,none⟩,i,by simp,⟨(Kd.R_reads' HH.out.1).2.2,by simp⟩,by rw[<- HG.out];exact HH.out.2⟩
end Go.Proofs.YtflfjpkmjnnodaaGreat
namespace Go.Proofs.YtflfjpkmjnnodaaGreat
open Go.RowKit Go.Proofs.YtflfjpkmjnnodaaGreat.PRef Go.Proofs.YtflfjpkmjnnodaaGreatW.PrintWords Go.Proofs.YtflfjpkmjnnodaaGreatW.PrintLast Go.Proofs.YtflfjpkmjnnodaaGreatW.PrintMore
def a0K (ps:List Int) (n:Nat):List Bool:=(List.range n).map (λ i=>decide (bitI ps i=1))
theorem a1F (ps:List Int) (n:Nat):(a0K ps n).length=n:=by simp[a0K]
theorem c9F (ps:List Int) (n:Nat):a0K ps (n+1)=a0K ps n++[decide (bitI ps n=1)]:=by simp[a0K,List.range_succ]
theorem c9G (y k:Nat) (hy:y<256) (hk:k<8):((Go.bits .and .u8 (shr .u8 (y:Int) (k:Int)) 1)==1)=decide (y/2^k%2=1):=by
 have e1:shr .u8 (y:Int) (k:Int)=((y/2^k:Nat):Int):=by
  unfold shr
  have:min (k:Int).toNat IntKind.u8.bits=k:=by
   have:IntKind.u8.bits=8:=rfl;rw[this,Int.toNat_natCast];omega
  rw[this];simp
 rw[e1];have h2:=Nat.div_le_self y (2^k);obtain⟨z,hz⟩:∃ z,z=y/2^k:=⟨_,rfl⟩;rw[<- hz] at h2 ⊢;have h:=bits_mask .u8 8 (by decide) (λ n h0 h1=>by rw[IntKind.wrap_u8];omega) 1 (by decide) (z:Int) (by omega) (by omega);have e:((2:Int)^1-1)=1:=by decide
 rw[e] at h;rw[h]
 by_cases hh:z%2=1
 · rw[decide_eq_true hh,beq_iff_eq];omega
 · rw[decide_eq_false hh,beq_eq_false_iff_ne];omega
theorem c9H (ps:List Int) (hps:∀ x∈ps,0<=x/\x<256) (hl:ps.length<=1000000):∀ (d i k:Nat),8*i+k+d=8*ps.length->i<ps.length->k<=8->Ev (λ f=>puncheonref01_Bits.l1 f ps (a0K ps (8*i+k)) (i:Int) (k:Int)) (a0K ps (8*ps.length)):=by
 intro d
 induction d with
 | zero=>
  intro i k h1 h2 h3;refine Ev.step (λ f=>(show puncheonref01_Bits.l1 (f+1) _ _ _ _=_ by simp only[puncheonref01_Bits.l1];rw[if_neg (by omega),wS i (by omega)])) ?_;refine Ev.step (λ f=>(show puncheonref01_Bits.l0 (f+1) _ _ _=_ by simp only[puncheonref01_Bits.l0];rw[if_neg (by omega)])) ?_;rw[show 8*i+k=8*ps.length by omega];exact Ev.now _
 | succ d ih=>
  intro i k h1 h2 h3;have c1:(0:Int)<=i:=by omega
  have c2:(i:Int)<(ps.length:Int):=by omega
  have one:∀ (i k:Nat),8*i+k+(d+1)=8*ps.length->i<ps.length->k<8->Ev (λ f=>puncheonref01_Bits.l1 f ps (a0K ps (8*i+k)) (i:Int) (k:Int)) (a0K ps (8*ps.length)):=by
   intro i k h1 h2 h3;have hx:=hps _ (a2f h2);obtain⟨y,hy⟩:∃ y:Nat,ps.getD i 0=y:=⟨(ps.getD i 0).toNat,by omega⟩
   have hb:bitI ps (8*i+k)=y/2^k%2:=by
    unfold bitI;rw[show(8*i+k)/8=i by omega,show(8*i+k)%8=k by omega,hy,Int.toNat_natCast]
   have c1:(0:Int)<=i:=by omega
   have c2:(i:Int)<(ps.length:Int):=by omega
   have c3:(k:Int)<8:=by omega
   have c4:(0:Int)<=k:=by omega
   have c5:(a0K ps (8*i+k)).length<140737488355328:=by rw[a1F];omega
   refine Ev.step (λ f=>(show puncheonref01_Bits.l1 (f+1) _ _ _ _=_ by simp only[puncheonref01_Bits.l1];rw[if_pos c3,if_pos c1,if_pos c2,if_pos c4,if_pos c5,a0G,hy,c9G y k (by omega) h3,wS k (by omega),<- hb,<- c9F])) ?_;have:=ih i (k+1) (by omega) h2 (by omega);rw[show 8*i+(k+1)=8*i+k+1 by omega] at this;exact this
  by_cases h4:k<8
  · exact one i k h1 h2 h4
  · have h5:i+1<ps.length:=by omega
    have c3:((i+1:Nat):Int)<(ps.length:Int):=by omega
    refine Ev.step (λ f=>(show puncheonref01_Bits.l1 (f+1) _ _ _ _=_ by simp only[puncheonref01_Bits.l1];rw[if_neg (by omega),wS i (by omega)])) ?_;refine Ev.step (λ f=>(show puncheonref01_Bits.l0 (f+1) _ _ _=_ by simp only[puncheonref01_Bits.l0];rw[if_pos c3])) ?_;have:=one (i+1) 0 (by omega) h5 (by omega);rw[show 8*(i+1)+0=8*i+k by omega] at this;exact this
theorem b7z (ps:List Int) (hps:∀ x∈ps,0<=x/\x<256) (hl:ps.length<=1000000):Ev (λ f=>puncheonref01_Bits.f f ps) (a0K ps (8*ps.length)):=by
 by_cases h0:ps.length=0
 · refine Ev.step (g:=λ f=>puncheonref01_Bits.l0 f ps [] 0) (λ f=>(show puncheonref01_Bits.l0 (f+1) _ _ _=_ by simp only[puncheonref01_Bits.l0];rw[if_neg (by omega)])) ?_;rw[h0];exact Ev.now _
 · have c3:(0:Int)<(ps.length:Int):=by omega
   refine Ev.step (g:=λ f=>puncheonref01_Bits.l0 f ps [] 0) (λ f=>(show puncheonref01_Bits.l0 (f+1) _ _ _=_ by simp only[puncheonref01_Bits.l0];rw[if_pos c3])) ?_;exact c9H ps hps hl (8*ps.length) 0 0 (by omega) (by omega) (by omega)
theorem b7A {ps:List Int} (hps:∀ x∈ps,0<=x/\x<256) (h:¬ (ps.length=0\/lastB ps=0)):a0H ps<8*ps.length/\bitI ps (a0H ps)=1/\∀ i,a0H ps<i->i<8*ps.length->bitI ps i=0:=by
 have hm:lastB ps∈ps:=a2f (by omega);have hx:=hps _ hm;obtain⟨y,hy⟩:∃ y:Nat,lastB ps=y:=⟨(lastB ps).toNat,by omega⟩;obtain⟨a,b,c⟩:=a3m y (by omega) (by omega)
 have hb8:Lib.bitLen y<=8:=by
  have:¬ 9<=Lib.bitLen y:=λ e=>by
   have h2:2^8<=2^(Lib.bitLen y-1):=Nat.pow_le_pow_right (by omega) (by omega);omega
  omega
 have hbi:∀ j,j<8->bitI ps (8*(ps.length-1)+j)=y/2^j%2:=by
  intro j hj;unfold bitI;rw[show(8*(ps.length-1)+j)/8=ps.length-1 by omega,show(8*(ps.length-1)+j)%8=j by omega];have:ps.getD (ps.length-1) 0=(y:Int):=hy;rw[this,Int.toNat_natCast]
 have hB:a0H ps=8*(ps.length-1)+(Lib.bitLen y-1):=by unfold a0H;rw[hy,Int.toNat_natCast];omega
 refine⟨by omega,?_,λ i h1 h2=>?_⟩
 · rw[hB,hbi _ (by omega)]
   have h3:y/2^(Lib.bitLen y-1)=1:=by
    rw[Nat.div_eq_iff (Nat.two_pow_pos _)];have:2^Lib.bitLen y=2*2^(Lib.bitLen y-1):=by rw[<- Nat.pow_succ'];congr 1;omega
    omega
   rw[h3]
 · obtain⟨j,rfl⟩:∃ j,i=8*(ps.length-1)+j:=⟨i-8*(ps.length-1),by omega⟩;rw[hbi _ (by omega)];have h3:y<2^j:=Nat.lt_of_lt_of_le (by first | exact b | exact c) (Nat.pow_le_pow_right (by omega) (by omega));rw[Nat.div_eq_of_lt h3]
theorem b7B (ps:List Int) (n i:Nat) (h:i<n):rdOf false (a0K ps n) (i:Int)=decide (bitI ps i=1):=by
 unfold rdOf a0K;rw[Int.toNat_natCast,List.getD_eq_getElem?_getD,List.getElem?_map,List.getElem?_range h];rfl
theorem c9I {ps:List Int} (hps:∀ x∈ps,0<=x/\x<256) (hl:ps.length<=1000000) (h:¬ (ps.length=0\/lastB ps=0)):∀ (d n:Nat),n=a0H ps+d->n<8*ps.length->Ev (λ f=>puncheonref02_Open.l0 f (a0K ps (8*ps.length)) (n:Int)) (bitsL ps,0):=by
 obtain⟨m1,m2,m3⟩:=b7A hps h;have hlen:=a1F ps (8*ps.length);intro d
 induction d with
 | zero=>
  intro n hn h2;have hb:=b7B ps _ n h2;rw[show n=a0H ps by omega] at hb ⊢;rw[m2] at hb;have hb':rdOf false (a0K ps (8*ps.length)) ((a0H ps:Nat):Int)=true:=by rw[hb];decide
  refine Ev.step (λ f=>(show puncheonref02_Open.l0 (f+1) _ _=_ by simp only[puncheonref02_Open.l0];rw[if_pos (by omega),if_pos (by rw[hlen];omega),if_pos hb',if_pos (by rw[hlen];omega),Int.toNat_natCast])) ?_
  have e:(a0K ps (8*ps.length)).take (a0H ps)=bitsL ps:=by
   unfold a0K bitsL;rw[<- List.map_take,List.take_range,Nat.min_eq_left (by omega)]
  rw[e];exact Ev.now _
 | succ d ih=>
  intro n hn h2;have hb:=b7B ps _ n h2;rw[m3 n (by omega) h2] at hb;have hb':¬ rdOf false (a0K ps (8*ps.length)) (n:Int)=true:=by rw[hb];decide
  have e:wrap64 ((n:Int)-1)=((n-1:Nat):Int):=by rw[w64 (by omega)];omega
  refine Ev.step (λ f=>(show puncheonref02_Open.l0 (f+1) _ _=_ by simp only[puncheonref02_Open.l0];rw[if_pos (by omega),if_pos (by rw[hlen];omega),if_neg hb',e])) ?_;exact ih (n-1) (by omega) (by omega)
def openR (ps:List Int):List Bool×Int:=if ps.length=0\/lastB ps=0 then ([],2) else (bitsL ps,0)
theorem c9J (ps:List Int) (hps:∀ x∈ps,0<=x/\x<256) (hl:ps.length<=1000000):Ev (λ f=>puncheonref02_Open.f f ps) (openR ps):=by
 have hj:∀ b:Bool,b=decide (ps.length=0\/lastB ps=0)->Ev (λ f=>puncheonref02_Open.j0 f ps b) (openR ps):=by
  intro b hb
  cases b with
  | true=>
   have:=of_decide_eq_true hb.symm;refine Ev.step (λ f=>(show puncheonref02_Open.j0 (f+1) _ _=_ by simp only[puncheonref02_Open.j0];rw[if_pos trivial])) ?_;unfold openR;rw[if_pos this];exact Ev.now _
  | false=>
   have h0:=of_decide_eq_false hb.symm;refine Ev.step (λ f=>(show puncheonref02_Open.j0 (f+1) _ _=_ by simp only[puncheonref02_Open.j0];rw[if_neg (by decide)])) ?_;refine Ev.bind (b7z ps hps hl) ?_;have e:wrap64 (((a0K ps (8*ps.length)).length:Int)-1)=((8*ps.length-1:Nat):Int):=by rw[a1F,w64 (by omega)];omega
   refine Ev.congr (f:=λ f=>puncheonref02_Open.l0 f (a0K ps (8*ps.length)) ((8*ps.length-1:Nat):Int)) (λ f=>by rw[e]) ?_;have hm:=(b7A hps h0).1;unfold openR;rw[if_neg h0];exact c9I hps hl h0 (8*ps.length-1-a0H ps) _ (by omega) (by omega)
 by_cases h0:ps.length=0
 · refine Ev.congr (λ f=>(show puncheonref02_Open.f f ps=_ by unfold puncheonref02_Open.f;rw[if_pos (by omega)])) ?_;exact hj true (by rw[decide_eq_true (.inl h0)])
 · have e:wrap64 ((ps.length:Int)-1)=((ps.length-1:Nat):Int):=by rw[w64 (by omega)];omega
   refine Ev.congr (λ f=>(show puncheonref02_Open.f f ps=_ by unfold puncheonref02_Open.f;rw[if_neg (by omega),e,if_pos (by omega),if_pos (by omega),a0G])) ?_;refine hj _ ?_
   by_cases h1:lastB ps=0
   · rw[decide_eq_true (.inr h1),beq_iff_eq];exact h1
   · rw[decide_eq_false (λ h=>by rcases h with h | h;exact h0 h;exact h1 h),beq_eq_false_iff_ne];exact h1
open Go.IntWalk
theorem b7C {w:World} {A:Option Addr} {n:Nat} {xs:List Bool} (h:Kd.bool.C w A n xs) (i:Nat) (hi:i<n):∃ ad,A=some ad/\w.cell? (ad.add i)=some (.bool (xs.getD i false)):=by
 obtain⟨ad,e,hc⟩:=Kd.at_bool h (i:Int) (by omega) (by omega);exact⟨ad,e,hc⟩
theorem c9K {l:List Bool} {i:Nat} (h:i<l.length):byteL (l.drop i)=(l.getD i false).toNat+2*byteL (l.drop (i+1)):=by
 rw[List.drop_eq_getElem_cons h,List.getD_eq_getElem?_getD,List.getElem?_eq_getElem h];rfl
theorem b7D (A:Option Addr) (m cp:Nat) (l:List Bool) (w:World) (hm:m=l.length) (hr:Kd.bool.C w A m l) (hl:m<=24):Calls Tryz.prog 173 #[.slice A m cp] w λ e w'=>e=.returned (.int .u32 (byteL l))/\w=w':=by
 have HR:=Lib.hid (And.intro hm hr);clear hm hr;go_enter Tryz.func173,Tryz.ntmps173;go_wp2_with fail;go_loop [3,4] (λ vv kv=>∃ (k v:Nat),kv=.int .i64 ((m:Int)-1-k)/\vv=.int .u32 v/\k<=m/\Hid (v=byteL (l.drop (m-k)))) (λ _ kv=>((intOf kv)+1).toNat)
 case atStart=>exact⟨0,0,by go_num,rfl,by omega,Lib.hid (by rw[Nat.sub_zero,HR.out.1,List.drop_length];rfl)⟩
 case round=>
  obtain⟨k,v,rfl,rfl,hk,H⟩:=hrel
  by_cases hlt:k<m
  · obtain⟨i,hi⟩:∃ i,i=m-1-k:=⟨_,rfl⟩;rw[show((m:Int)-1-(k:Int))=(i:Int) by omega];have him:i<m:=by omega
    have hbd:=c9K (l:=l) (i:=i) (by have:=HR.out.1;omega);have hv:=a3N (l.drop (m-k));rw[<- H.out,List.length_drop] at hv;have hv2:2^(l.length-(m-k))<=2^23:=Nat.pow_le_pow_right (by omega) (by have:=HR.out.1;omega);have hv3:v<8388608:=by omega
    rw[show i+1=m-k by omega,<- H.out] at hbd;obtain⟨ad,rfl,hc⟩:=b7C HR.out.2 i him;obtain⟨b,hb⟩:∃ b,b=l.getD i false:=⟨_,rfl⟩;rw[<- hb] at hc hbd;have HN:=Lib.hid (And.intro hbd hi);have hiI:(i:Int)<(m:Int):=by omega
    clear hbd hi hv hv2 hb
    cases b
    all_goals
     go_wp2_with fail;go_round
     case rel=>exact⟨k+1,_,by rw[show((m:Int)-1-((k+1:Nat):Int))=(i:Int)-1 by have:=HN.out.2;omega],by first | rfl | go_num,by omega,Lib.hid (by rw[show m-(k+1)=i by have:=HN.out.2;omega,HN.out.1];simp;try omega)⟩
     case measure=>first | (simp[intOf];done) | (simp[intOf];omega)
  · obtain rfl:k=m:=by omega
    rw[show((k:Int)-1-(k:Int))=(-1:Int) by omega];go_wp2_with fail;go_ret;have h:=H.out;rw[Nat.sub_self,List.drop_zero] at h;subst h;exact⟨rfl,rfl⟩
theorem b1c:(Tryz.prog.info? 4).map (·.size)=some 1:=by kernel_rfl
theorem b1d (A:Option Addr) (m cp n:Nat) (l:List Bool) (w:World) (hm:m=l.length) (hcp:m<=cp) (hr:Kd.bool.C w A m l) (hn:n<=24) (hl:n<=m) (hm2:m<=1000000):Calls Tryz.prog 123 #[.slice A m cp,.int .i64 n] w (Ret (.tuple #[.slice A (m-n:Nat) cp,.int .u32 (byteL (l.drop (m-n))),.bool true]) w):=by
 obtain⟨k,hk⟩:∃ k,k=m-n:=⟨_,rfl⟩;rw[<- hk];obtain⟨i0,hi0,hsz⟩:=Option.map_eq_some_iff.1 b1c
 have hcut1:∀ W:World,(Instr.slice 142 (.slice A m cp) none (some (.int .i64 (k:Int))) none).run Tryz.prog W=.ok (.slice A k cp) W:=by
  have:=a5o (P:=Tryz.prog) 142 4 .i64 Tryz.underlying142 hi0 A m cp (k:Int) (by omega) (by omega) hcp;simpa using this
 obtain⟨A2,hA2⟩:∃ A2,A2=(if cp=k then A else A.map (·.add (k*1))):=⟨_,rfl⟩
 have hcut2:∀ W:World,(Instr.slice 142 (.slice A m cp) (some (.int .i64 (k:Int))) none none).run Tryz.prog W=.ok (.slice A2 n (cp-k)) W:=by
  have:=a6j (P:=Tryz.prog) 142 4 .i64 Tryz.underlying142 hi0 1 hsz A m cp (k:Int) (by omega) (by omega);simp only[Int.toNat_natCast] at this;rw[<- hA2,show m-k=n by omega] at this;exact this
 have hC:Kd.bool.C w A2 n (l.drop k):=by
  have h2:=Kd.C_drop (c:=cp) (m:=k) (by rw[<- hm];exact hr) (by omega) (by omega);have e:(l.drop k).length=n:=by rw[List.length_drop];omega
  rw[e] at h2;rw[hA2];exact h2
 have HN:=Lib.hid (λ W (h:Below w.heap.size w W)=>b7D A2 n (cp-k) (l.drop k) W (by rw[List.length_drop];omega) (Kd.C_below hC h) hn);have d1:decide ((n:Int)<0)=false:=decide_eq_false (by omega);have d2:decide ((24:Int)<(n:Int))=false:=decide_eq_false (by omega);have d3:decide ((m:Int)<(n:Int))=false:=decide_eq_false (by omega);have d3n:decide (m<n)=false:=decide_eq_false (by omega);have hmk:(m:Int)-(n:Int)=(k:Int):=by omega
 have HX:=Lib.hid (And.intro hm hr);have hk0:(0:Int)<=k:=by omega
 have hkm:(k:Int)<=(m:Int):=by omega
 have hkc:(k:Int)<=(cp:Int):=by omega
 have hwk:IntKind.i64.wrap (k:Int)=k:=i64_in _ (by omega);clear hk hA2 hC hm hr hi0 hsz;go_enter Tryz.func123,Tryz.ntmps123;go_wp2_with fail;go_quiet ((go_at_call 173;refine Calls.quiet_of_same ((HN.out _ (a0b (Below.refl _ _) _)).mono λ e w' h=>⟨h.1,h.2.symm⟩)))
 all_goals
  go_wp2_with fail;go_ret3;exact⟨rfl,by first | exact Below.refl _ _ | exact a0b (Below.refl _ _) _⟩
theorem a8p (A:Option Addr) (m cp n:Nat) (w:World) (hn:n<=24) (hl:m<n):Calls Tryz.prog 123 #[.slice A m cp,.int .i64 n] w (Ret (.tuple #[.slice A m cp,.int .u32 0,.bool false]) w):=by
 have d1:decide ((n:Int)<0)=false:=decide_eq_false (by omega);have d2:decide ((24:Int)<(n:Int))=false:=decide_eq_false (by omega);have d3:decide ((m:Int)<(n:Int))=true:=decide_eq_true (by omega);have d3n:decide (m<n)=true:=decide_eq_true (by omega);go_enter Tryz.func123,Tryz.ntmps123;go_wp2_with fail;go_ret3;exact⟨rfl,Below.refl _ _⟩
end Go.Proofs.YtflfjpkmjnnodaaGreat
