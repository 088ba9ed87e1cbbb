/- What a call leaves of the memory that was there; small words for contracts. No program in sight but the loaded one. -/
import Derived.Test.YtflfjpkmjnnodaaGreatProg
import Derived.WalkKit
import Derived.WalkSpells
import Derived.WalkLawsBesides
import Derived.Lib.Hide
import Derived.OpenShut
import Derived.BigQuiet
import Derived.Deep.QuietTactic
import Derived.Test.YtflfjpkmjnnodaaGreatNS1
import Derived.Deep.LoopGhost
import Derived.Deep.RegionHeld3
import Derived.Deep.DeepCutAuto
import Derived.ChangeKeysEq
import Derived.Deep.RegionLaw
import Derived.Laws.ResultCell
import Derived.Maps.OwnSet
import Derived.Maps.Views
import Derived.Carry
import Derived.Test.YtflfjpkmjnnodaaGreatNM0
import Derived.Laws.BitsLemmas
import Derived.Laws.Bits64
import Derived.BigRegion
import Derived.Laws.MakeOwn
set_option maxRecDepth 100000
set_option maxHeartbeats 1000000
namespace Go.Proofs.YtflfjpkmjnnodaaGreat
open Go.RowKit Go.Proofs.YtflfjpkmjnnodaaGreatW.PrintWords
def Ret (v:Value) (w:World) (e:Ending) (w':World):Prop:=e=.returned v/\Below w.heap.size w w'
theorem bcell {W w1:World} (hb:Below W.heap.size W w1):(∀ b o,b<W.heap.size->w1.cell? ⟨b,o,none⟩=W.cell? ⟨b,o,none⟩)/\(∀ b o,b<W.heap.size->w1.frozen? ⟨b,o,none⟩=W.frozen? ⟨b,o,none⟩):=
 ⟨λ b o h=>hb.cell (p:=⟨b,o,none⟩) h,λ b o h=>hb.frozen (p:=⟨b,o,none⟩) h⟩
structure Only (S:Nat->Prop) (w w':World):Prop where
 os:w'.os=w.os
 tape:w'.tape=w.tape
 output:w'.output=w.output
 size:w.heap.size<=w'.heap.size
 block:∀ k,k<w.heap.size->¬ S k->w'.heap[k]?=w.heap[k]?
theorem Only.refl (S:Nat->Prop) (w:World):Only S w w:=⟨rfl,rfl,rfl,Nat.le_refl _,λ _ _ _=>rfl⟩
theorem Only.trans {S:Nat->Prop} {a b c:World} (h:Only S a b) (k:Only S b c):Only S a c:=
 ⟨k.os.trans h.os,k.tape.trans h.tape,k.output.trans h.output,Nat.le_trans h.size k.size,λ i hi hs=>(k.block i (Nat.lt_of_lt_of_le hi h.size) hs).trans (h.block i hi hs)⟩
theorem Only.mono {S S':Nat->Prop} {a b:World} (h:Only S a b) (hs:∀ k,k<a.heap.size->S k->S' k):Only S' a b:=
 ⟨h.os,h.tape,h.output,h.size,λ k hk hn=>h.block k hk (λ x=>hn (hs k hk x))⟩
theorem Only.of_below {S:Nat->Prop} {a b:World} (h:Below a.heap.size a b):Only S a b:=⟨h.os,h.tape,h.output,h.size,λ k hk _=>h.block k hk⟩
theorem Only.below {S:Nat->Prop} {a b:World} {B:Nat} (h:Only S a b) (hB:B<=a.heap.size) (hs:∀ k,S k->B<=k):Below B a b:=
 ⟨h.os,h.tape,h.output,h.size,λ k hk=>h.block k (Nat.lt_of_lt_of_le hk hB) (λ x=>by have:=hs k x;omega)⟩
theorem Only.of_grown {S:Nat->Prop} {a b:World} {row:Option Nat} (h:a.grownBy b row) (hs:∀ k,row=some k->S k):Only S a b:=
 ⟨h.os,h.tape,h.output,h.size,λ k hk hn=>h.block k hk (λ e=>hn (hs k e.symm))⟩
theorem Only.setCell {S:Nat->Prop} {a b:World} (h:Only S a b) {p:Addr} (hp:S p.block) (u:Value):Only S a (b.setCell p u):=
 h.trans ⟨rfl,rfl,rfl,by simp[World.setCell],λ k _ hn=>Below.heap_setCell _ _ _ _ (λ e=>hn (e ▸ hp))⟩
theorem Only.alloc {S:Nat->Prop} {a b:World} (h:Only S a b) (o:Obj):Only S a (b.alloc o):=h.trans (Only.of_below ((Below.refl _ _).alloc (Nat.le_refl _) o))
theorem Only.drew {S:Nat->Prop} {a b:World} (h:Only S a b):Only S a b.drew:=⟨h.os,h.tape,h.output,h.size,h.block⟩
theorem Only.drewN {S:Nat->Prop} {a b:World} (h:Only S a b) (n:Nat):Only S a (b.drewN n):=⟨h.os,h.tape,h.output,h.size,h.block⟩
theorem Only.trans2 {S T:Nat->Prop} {a b c:World} (h:Only S a b) (k:Only T b c) (hs:∀ i,i<a.heap.size->T i->S i):Only S a c:=
 ⟨k.os.trans h.os,k.tape.trans h.tape,k.output.trans h.output,Nat.le_trans h.size k.size,λ i hi hn=>(k.block i (Nat.lt_of_lt_of_le hi h.size) (λ x=>hn (hs i hi x))).trans (h.block i hi hn)⟩
theorem Only.set1 {a b:World} {g:Nat} (h:Only (λ k=>k=g) a b) (o:Nat) (u:Value):Only (λ k=>k=g) a (b.setCell ⟨g,o,none⟩ u):=h.setCell (p:=⟨g,o,none⟩) rfl u
theorem a5r {P:Program} {ops:Array Oper} {o:Oper} {a:Act} {Q:Exit->Act->World->Prop} {Kc:Act->World->Prop} {α:Type} (d:Kd α) {w0 W:World} (base:Nat) (hw:Region.wanted o (yielded ops a.tmps)=true) (s x:Operand) (t e:TypeId) (z:Value) (bytes:Nat)
    (ho:o.op=.call { callee:=.builtin .append,args:=#[s,x],argTypes:=#[t,t] })
    (ht:P.underlying t=some (.slice e)) (hinfo:(P.info? e).map (λ i=>(i.zero,i.size,i.bytes))=some (some z,d.sz,bytes)) (hz:z.cells.size=d.sz) (hs0:0<d.sz) (hb0:0<bytes)
    (v:Value) (xs:List α) (p:α) (cs:List Value) (ok okp:Nat->Prop) (hs:a.eval s=v) (hx:a.eval x=.slice (some ⟨W.heap.size,0,none⟩) 1 1) (hp:d.M W base okp p cs) (hokp:∀ k,okp k->ok k/\some k≠v.ownBlock) (hfresh:∀ k,W.heap.size<=k->ok k)
    (HO:d.R e W base ok v xs) (HB:Below base w0 W) (hbase:base<=W.heap.size) (hl:(xs.length+1)*bytes<=140737488355328)
    (h:∀ v1 w1,d.R e w1 base ok v1 (xs++[p])->Below base w0 w1->W.grownBy w1 v.ownBlock->(v1.ownBlock=v.ownBlock\/∃ b,v1.ownBlock=some b/\W.heap.size<=b)->Kc (a.put o.dst v1) w1) :
    if Region.wanted o (yielded ops a.tmps)=true then Oper.wp P o a (W.alloc (.cells cs.toArray e)).drew Kc Q else Kc (a.put o.dst undef) (W.alloc (.cells cs.toArray e)).drew:=by
 have e1:(W.alloc (.cells cs.toArray e)).drew=W.drew.alloc (.cells cs.toArray e):=rfl;rw[e1]
 exact Kd.R_append_step d (W:=W.drew) (w0:=w0) base hw s x t e z bytes ho ht hinfo hz hs0 hb0 v xs p cs ok okp hs hx (Kd.M_below hp (Below.refl _ _).drew) hokp hfresh (Kd.R_drew HO) HB.drew hbase hl
  (λ v1 w1 a1 a2 a3 a4=>h v1 w1 a1 a2 ⟨a3.os,a3.tape,a3.output,a3.size,a3.block⟩ a4)
theorem a1J {k:IntKind} {a b:Int} (h:a=b):Ending.returned (.int k a)=.returned (.int k b):=by rw[h]
theorem a0W {a b:Bool} (h:a=b):Ending.returned (.bool a)=.returned (.bool b):=by rw[h]
theorem w64 {n:Int} (h : -9223372036854775808<=n/\n<9223372036854775808):wrap64 n=n:=by unfold wrap64;omega
section
variable {P:Program} {ops:Array Oper} {o:Oper} {rest:List Oper} {a:Act} {Q:Exit->Act->World->Prop} {α:Type}
theorem b9P (d:Kd α) {w0 W:World} (hgd:o.guard=none) (s x:Operand) (t e:TypeId) (z:Value) (bytes:Nat)
    (ho:o.op=.call { callee:=.builtin .append,args:=#[s,x],argTypes:=#[t,t] })
    (ht:P.underlying t=some (.slice e)) (hinfo:(P.info? e).map (λ i=>(i.zero,i.size,i.bytes))=some (some z,d.sz,bytes)) (hz:z.cells.size=d.sz) (hs0:0<d.sz) (hb0:0<bytes)
    (v:Value) (xs:List α) (p:α) (cs:List Value) (hs:a.eval s=v) (hx:a.eval x=.slice (some ⟨W.heap.size,0,none⟩) 1 1) (hp:d.M W w0.heap.size (λ _=>False) p cs)
    (HO:d.R e W w0.heap.size (λ _=>True) v xs) (HB:Below w0.heap.size w0 W) (hl:(xs.length+1)*bytes<=140737488355328)
    (h:∀ v1 w1,d.R e w1 w0.heap.size (λ _=>True) v1 (xs++[p])->Below w0.heap.size w0 w1->W.grownBy w1 v.ownBlock->(v1.ownBlock=v.ownBlock\/∃ b,v1.ownBlock=some b/\W.heap.size<=b)->wpList P ops Q rest (a.put o.dst v1) w1) :
    wpList P ops Q (o :: rest) a (W.alloc (.cells cs.toArray e)):=
 Kd.R_append d (w0:=w0) (W:=W) w0.heap.size hgd s x t e z bytes ho ht hinfo hz hs0 hb0 v xs p cs (λ _=>True) (λ _=>False) hs hx hp (λ _ h=>h.elim) (λ _ _=>trivial) HO HB HB.size hl h
theorem a6s (κ:IntKind) {w0 W:World} (hgd:o.guard=none) (s x:Operand) (t e:TypeId) (bytes:Nat)
    (ho:o.op=.call { callee:=.builtin .append,args:=#[s,x],argTypes:=#[t,t] })
    (ht:P.underlying t=some (.slice e)) (hinfo:(P.info? e).map (λ i=>(i.zero,i.size,i.bytes))=some (some (.int κ 0),1,bytes)) (hb0:0<bytes)
    (v:Value) (xs:List Int) (p:Int) (hs:a.eval s=v) (hx:a.eval x=.slice (some ⟨W.heap.size,0,none⟩) 1 1)
    (HO:(Kd.int κ).R e W w0.heap.size (λ _=>True) v xs) (HB:Below w0.heap.size w0 W) (hl:(xs.length+1)*bytes<=140737488355328)
    (h:∀ v1 w1,(Kd.int κ).R e w1 w0.heap.size (λ _=>True) v1 (xs++[p])->Below w0.heap.size w0 w1->W.grownBy w1 v.ownBlock->(v1.ownBlock=v.ownBlock\/∃ b,v1.ownBlock=some b/\W.heap.size<=b)->wpList P ops Q rest (a.put o.dst v1) w1) :
    wpList P ops Q (o :: rest) a (W.alloc (.cells #[.int κ p] e)):=
 b9P (Kd.int κ) (w0:=w0) (W:=W) hgd s x t e (.int κ 0) bytes ho ht hinfo rfl Nat.one_pos hb0 v xs p [.int κ p] hs hx rfl HO HB hl h
end
theorem b9Q {w0 W w1:World} {B:Nat} {row:Option Nat} (h:Below B w0 W) (hg:W.grownBy w1 row) (hr:∀ k,row=some k->B<=k) (hB:B<=W.heap.size):Below B w0 w1:=h.grown hg hB hr
theorem a0I:(Tryz.prog.info? 5).map (λ i=>(i.zero,i.size,i.bytes))=some (some (.int .u8 0),1,1):=by kernel_rfl
theorem a4h:(Tryz.prog.info? 3).map (λ i=>(i.zero,i.size,i.bytes))=some (some (.int .i64 0),1,8):=by kernel_rfl
theorem a5v {κ:IntKind} {w:World} {A:Option Addr} {n:Nat} {xs:List Int} (h:(Kd.int κ).C w A n xs) (hn:0<n):∃ ad,A=some ad/\∀ k,k<n->w.cell? (ad.add k)=some (.int κ (xs.getD k 0)):=by
 obtain⟨ad,e,hc⟩:=h.2.2 hn;refine⟨ad,e,λ k hk=>?_⟩;have hl:k<xs.length:=by have:=h.1;omega
 obtain⟨c,hs,hr,hcell⟩:=hc k _ (List.getElem?_eq_getElem hl);have hr':c=[.int κ xs[k]]:=hr;subst hr';have:=hcell 0 _ rfl;rw[List.getD_eq_getElem?_getD,List.getElem?_eq_getElem hl];simpa [Kd.int,Kd.scalar] using this
theorem a0v {κ:IntKind} {w:World} {A:Option Addr} {n:Nat} {xs:List Int} (h:(Kd.int κ).C w A n xs) (k:Nat) (hk:k<n):∃ ad,A=some ad/\w.cell? (ad.add k)=some (.int κ (xs.getD k 0)):=by
 obtain⟨ad,e,hc⟩:=a5v h (by omega);exact⟨ad,e,hc k hk⟩
theorem a2S {l:List Int} (h:∀ x∈l,0<=x):0<=l.sum:=by
 induction l with
 | nil=>simp
 | cons a l ih=>simp only[List.sum_cons];have:=h a (by simp);have:=ih (λ x hx=>h x (by simp[hx]));omega
theorem a6t {l:List Int} (h:∀ x∈l,0<=x) {x:Int} (hx:x∈l):x<=l.sum:=by
 induction l with
 | nil=>cases hx
 | cons a l ih=>
  simp only[List.sum_cons];rcases List.mem_cons.1 hx with rfl | hx
  · have:=a2S (λ y hy=>h y (List.mem_cons_of_mem _ hy));omega
  · have:=ih (λ y hy=>h y (List.mem_cons_of_mem _ hy)) hx;have:=h a List.mem_cons_self;omega
theorem a4i {l:List Int} {k:Nat} (h:k<l.length):(l.take (k+1)).sum=(l.take k).sum+l.getD k 0:=by
 rw[List.take_succ_eq_append_getElem h,List.sum_append,List.getD_eq_getElem?_getD,List.getElem?_eq_getElem h];simp
theorem a8I {l:List Int} (h:∀ x∈l,0<=x) (k:Nat):(l.take k).sum<=l.sum:=by
 have e:l.sum=(l.take k).sum+(l.drop k).sum:=by rw[<- List.sum_append,List.take_append_drop]
 have:=a2S (l:=l.drop k) (λ x hx=>h x (List.mem_of_mem_drop hx));omega
def a0S (c:List Int):Bool:=decide (c.length=256/\(∀ x∈c,0<=x)/\c.sum<=1073741824)
theorem rightC_iff {c:List Int}:a0S c=true↔c.length=256/\(∀ x∈c,0<=x)/\c.sum<=1073741824:=by unfold a0S;exact decide_eq_true_iff
def a1d (c:List Int):Int:=if a0S c then c.sum else 0
def SoFar (c:List Int) (k:Nat) (s:Int):Prop:=s=(c.take k).sum/\(∀ x∈c.take k,0<=x)/\s<=1073741824
theorem SoFar.step {c:List Int} {k:Nat} {s:Int} (h:SoFar c k s) (hk:k<c.length) (h0:0<=c.getD k 0) (h1:c.getD k 0<=1073741824-s):SoFar c (k+1) (s+c.getD k 0):=by
 obtain⟨a,b,d⟩:=h;refine⟨by rw[a4i hk,a],?_,by omega⟩;intro x hx;rw[List.take_succ_eq_append_getElem hk] at hx;rcases List.mem_append.1 hx with hx | hx
 · exact b x hx
 · rw[List.mem_singleton.1 hx]
   rwa [List.getD_eq_getElem?_getD,List.getElem?_eq_getElem hk] at h0
theorem SoFar.bad {c:List Int} {k:Nat} {s:Int} (h:SoFar c k s) (hk:k<c.length) (h1:c.getD k 0<0\/1073741824-s<c.getD k 0):a0S c=false:=by
 rw[<- Bool.not_eq_true,rightC_iff];rintro ⟨_,h2,h3⟩;have hm:c.getD k 0∈c:=by rw[List.getD_eq_getElem?_getD,List.getElem?_eq_getElem hk];exact List.getElem_mem hk
 have:=h2 _ hm;have e:=a4i hk;have:=a8I h2 (k+1);have:=h.1;omega
theorem SoFar.all {c:List Int} {s:Int} (h:SoFar c c.length s):a0S c=decide (c.length=256):=by
 obtain⟨a,b,d⟩:=h;rw[List.take_length] at a b;unfold a0S;rw[decide_eq_decide];exact⟨λ x=>x.1,λ x=>⟨x,b,by omega⟩⟩
theorem SoFar.nonneg {c:List Int} {k:Nat} {s:Int} (h:SoFar c k s):0<=s:=by rw[h.1];exact a2S h.2.1
theorem a8J (A:Option Addr) (cp:Nat) (c:List Int) (w:World) (hr:(Kd.int .i64).C w A c.length c) :
    Calls Tryz.prog 233 #[.slice A c.length cp] w λ e w'=>e=.returned (.bool (a0S c))/\w=w':=by
 have hm:=hr.2.1;have HR:=Lib.hid hr;clear hr;go_enter Tryz.func233,Tryz.ntmps233;go_wp2_with fail;go_loop [3,8] (λ sv kv=>∃ (s:Int) (k:Nat),sv=.int .i64 s/\kv=.int .i64 k/\k<=c.length/\0<=s/\s<=1073741824/\Hid (SoFar c k s)) (λ _ kv=>c.length-(intOf kv).toNat)
 case atStart=>exact⟨0,0,rfl,rfl,by omega,by omega,by omega,⟨by simp,by simp,by omega⟩⟩
 case round=>
  obtain⟨s,k,rfl,rfl,hk,hs0,hs1,H⟩:=hrel
  by_cases hlt:k<c.length
  · obtain⟨ad,rfl,hcell⟩:=a0v HR.out k hlt;obtain⟨x,hx⟩:∃ x,x=c.getD k 0:=⟨_,rfl⟩;rw[<- hx] at hcell;have HX:=Lib.hid hx;clear hx
    by_cases h0:x<0
    · have HB:Hid (a0S c=false):=H.out.bad hlt (.inl (by rw[<- HX.out];exact h0));go_wp2_with fail;go_ret;exact⟨a0W HB.out.symm,rfl⟩
    · by_cases h1:1073741824-s<x
      · have HB:Hid (a0S c=false):=H.out.bad hlt (.inr (by rw[<- HX.out];exact h1));go_wp2_with fail;go_ret;exact⟨a0W HB.out.symm,rfl⟩
      · have HS:Hid (SoFar c (k+1) (s+x)):=by
          have:=H.out.step hlt (by rw[<- HX.out];omega) (by rw[<- HX.out];omega);rw[<- HX.out] at this;exact this
        go_wp2_with fail;go_round
        case rel=>exact⟨s+x,k+1,by go_num,by go_num,by omega,by omega,by omega,HS⟩
        case measure=>simp[intOf];omega
  · have HE:Hid (a0S c=decide (c.length=256)):=by
      obtain rfl:k=c.length:=by omega
      exact H.out.all
    go_wp2_with fail;go_ret;exact⟨a0W (by rw[HE.out];rw[Bool.eq_iff_iff];simp;omega),rfl⟩
theorem b2x (A:Option Addr) (cp:Nat) (c:List Int) (w:World) (hr:(Kd.int .i64).C w A c.length c) :
    Calls Tryz.prog 234 #[.slice A c.length cp] w λ e w'=>e=.returned (.int .i64 (a1d c))/\w=w':=by
 have hm:=hr.2.1;have HR:=Lib.hid hr;clear hr
 cases hb:a0S c with
 | false=>
  have HT:Hid (a1d c=0):=by unfold a1d;simp[hb,Hid]
  have HB:=Lib.hid hb;clear hb;go_enter Tryz.func234,Tryz.ntmps234;go_wp2_with fail;refine(a8J _ _ _ _ HR.out).mono ?_;rw[HB.out];rintro e w' ⟨rfl,rfl⟩;go_wp2_with fail;go_ret;exact⟨a1J HT.out.symm,rfl⟩
 | true=>
  have HT:Hid (a1d c=c.sum):=by unfold a1d;simp[hb,Hid]
  have HB:=Lib.hid hb;clear hb;go_enter Tryz.func234,Tryz.ntmps234;go_wp2_with fail;refine(a8J _ _ _ _ HR.out).mono ?_;rw[HB.out];rintro e w' ⟨rfl,rfl⟩;go_wp2_with fail;go_loop [3,11] (λ sv kv=>∃ (s:Int) (k:Nat),sv=.int .i64 s/\kv=.int .i64 k/\k<=c.length/\Hid (s=(c.take k).sum)) (λ _ kv=>c.length-(intOf kv).toNat)
  case atStart=>exact⟨0,0,rfl,rfl,by omega,by show _=_;simp⟩
  case round=>
   obtain⟨s,k,rfl,rfl,hk,H⟩:=hrel
   by_cases hlt:k<c.length
   · obtain⟨ad,rfl,hcell⟩:=a0v HR.out k hlt;obtain⟨x,hx⟩:∃ x,x=c.getD k 0:=⟨_,rfl⟩;rw[<- hx] at hcell;have HX:=Lib.hid hx
     have hbd:0<=s/\s+x<=1073741824/\0<=s+x:=by
      obtain⟨_,h2,h3⟩:=rightC_iff.1 HB.out;have a1:=a4i hlt;have a2:=a8I h2 (k+1);have a3:=a2S (l:=c.take k) (λ x hx=>h2 x (List.mem_of_mem_take hx));have a4:=a2S (l:=c.take (k+1)) (λ x hx=>h2 x (List.mem_of_mem_take hx));have:=H.out;omega
     obtain⟨b1,b2,b3⟩:=hbd;clear hx;go_wp2_with fail;go_round
     case rel=>exact⟨s+x,k+1,by go_num,by go_num,by omega,by show _=_;rw[a4i hlt,<- H.out,<- HX.out]⟩
     case measure=>simp[intOf];omega
   · have HE:Hid (s=a1d c):=by
       obtain rfl:k=c.length:=by omega
       show _=_
       rw[HT.out,H.out,List.take_length]
     go_wp2_with fail;go_ret;exact⟨a1J HE.out,rfl⟩
def cmpI (x y:Int):Int:=if x<y then -1 else if y<x then 1 else 0
theorem a8Q (x:Int) (w:World):Calls Tryz.prog 303 #[.int .i64 x] w λ e w'=>e=.returned (.bool false)/\w=w':=by
 go_enter Tryz.func303,Tryz.ntmps303;go_wp2;go_ret;exact⟨by simp,rfl⟩
theorem c0d (x y:Int) (h:x<y) (w:World):Calls Tryz.prog 302 #[.int .i64 x,.int .i64 y] w λ e w'=>e=.returned (.int .i64 (-1))/\w=w':=by
 go_enter Tryz.func302,Tryz.ntmps302;go_wp2_with (go_at_call 303;refine(a8Q _ _).mono ?_;rintro e w' ⟨rfl,rfl⟩);go_ret;exact⟨rfl,rfl⟩
theorem c0e (x y:Int) (h:y<x) (w:World):Calls Tryz.prog 302 #[.int .i64 x,.int .i64 y] w λ e w'=>e=.returned (.int .i64 1)/\w=w':=by
 go_enter Tryz.func302,Tryz.ntmps302;go_wp2_with (go_at_call 303;refine(a8Q _ _).mono ?_;rintro e w' ⟨rfl,rfl⟩);go_ret;exact⟨rfl,rfl⟩
theorem c0f (x:Int) (w:World):Calls Tryz.prog 302 #[.int .i64 x,.int .i64 x] w λ e w'=>e=.returned (.int .i64 0)/\w=w':=by
 go_enter Tryz.func302,Tryz.ntmps302;go_wp2_with (go_at_call 303;refine(a8Q _ _).mono ?_;rintro e w' ⟨rfl,rfl⟩);go_ret;exact⟨rfl,rfl⟩
theorem b2O (x y:Int) (w:World):Calls Tryz.prog 302 #[.int .i64 x,.int .i64 y] w λ e w'=>e=.returned (.int .i64 (cmpI x y))/\w=w':=by
 unfold cmpI
 by_cases h:x<y
 · rw[if_pos h];exact c0d x y h w
 · by_cases h2:y<x
   · rw[if_neg h,if_pos h2];exact c0e x y h2 w
   · rw[if_neg h,if_neg h2];obtain rfl:x=y:=by omega
     exact c0f x w
def a1b (i q s:Int):Bool:=decide (1<=q/\q<=4096/\q<=i/\i<2*q/\0<=s/\s<256)
theorem a3i (i q s:Int) (w:World) :
    Calls Tryz.prog 273 #[.agg #[.int .i64 i,.int .i64 q,.int .i64 s]] w (Ret (.bool (a1b i q s)) w):=by
 by_cases h1:1<=q
 · by_cases h2:q<=4096
   · by_cases h3:q<=i
     · by_cases h4:i<2*q
       · by_cases h5:0<=s
         · by_cases h6:s<256
           all_goals
            go_enter Tryz.func273,Tryz.ntmps273;go_wp2;go_ret;exact⟨a0W (by simp[a1b, *]),(Below.refl _ _).alloc (Nat.le_refl _) _⟩
         · go_enter Tryz.func273,Tryz.ntmps273;go_wp2;go_ret;exact⟨a0W (by unfold a1b;symm;apply decide_eq_false;omega),(Below.refl _ _).alloc (Nat.le_refl _) _⟩
       · go_enter Tryz.func273,Tryz.ntmps273;go_wp2;go_ret;exact⟨a0W (by unfold a1b;symm;apply decide_eq_false;omega),(Below.refl _ _).alloc (Nat.le_refl _) _⟩
     · go_enter Tryz.func273,Tryz.ntmps273;go_wp2;go_ret;exact⟨a0W (by unfold a1b;symm;apply decide_eq_false;omega),(Below.refl _ _).alloc (Nat.le_refl _) _⟩
   · go_enter Tryz.func273,Tryz.ntmps273;go_wp2;go_ret;exact⟨a0W (by unfold a1b;symm;apply decide_eq_false;omega),(Below.refl _ _).alloc (Nat.le_refl _) _⟩
 · go_enter Tryz.func273,Tryz.ntmps273;go_wp2;go_ret;exact⟨a0W (by unfold a1b;symm;apply decide_eq_false;omega),(Below.refl _ _).alloc (Nat.le_refl _) _⟩
theorem b2P (i q s j p t:Int) (w:World) :
    Calls Tryz.prog 301 #[.agg #[.int .i64 i,.int .i64 q,.int .i64 s],.agg #[.int .i64 j,.int .i64 p,.int .i64 t]] w (Ret (.int .i64 (cmpI (wrap64 (i*p)) (wrap64 (j*q)))) w):=by
 go_enter Tryz.func301,Tryz.ntmps301;go_wp2_with (go_at_call 302;refine(b2O _ _ _).mono ?_;rintro e w' ⟨rfl,rfl⟩);go_ret;exact⟨rfl,((Below.refl _ _).alloc (Nat.le_refl _) _).alloc (by simp) _⟩
theorem c0g (i q s j p t:Int) (w:World) :
    Calls Tryz.prog 295 #[.agg #[.int .i64 i,.int .i64 q,.int .i64 s],.agg #[.int .i64 j,.int .i64 p,.int .i64 t]] w (Ret (.int .i64 (cmpI s t)) w):=by
 go_enter Tryz.func295,Tryz.ntmps295;go_wp2_with (go_at_call 302;refine(b2O _ _ _).mono ?_;rintro e w' ⟨rfl,rfl⟩);go_ret;exact⟨rfl,((Below.refl _ _).alloc (Nat.le_refl _) _).alloc (by simp) _⟩
def cmpK (i q s j p t:Int):Int:=
 if a1b i q s&&a1b j p t then (if cmpI (wrap64 (i*p)) (wrap64 (j*q))=0 then cmpI s t else cmpI (wrap64 (i*p)) (wrap64 (j*q))) else 0
theorem c0h (i q s j p t:Int) (w:World) (h1:a1b i q s=false) :
    Calls Tryz.prog 300 #[.agg #[.int .i64 i,.int .i64 q,.int .i64 s],.agg #[.int .i64 j,.int .i64 p,.int .i64 t]] w (Ret (.int .i64 0) w):=by
 have Z0:Below w.heap.size w ((w.alloc (.cells #[.int .i64 i,.int .i64 q,.int .i64 s] 266)).alloc (.cells #[.int .i64 j,.int .i64 p,.int .i64 t] 266)):=((Below.refl _ _).alloc (Nat.le_refl _) _).alloc (by simp) _;go_enter Tryz.func300,Tryz.ntmps300;go_wp2_with fail;refine(a3i _ _ _ _).mono ?_;rintro e w1 ⟨rfl,hb⟩;obtain⟨hc1,hf1⟩:=bcell hb;have Z1:=Z0.trans (hb.mono Z0.size);clear hb;clear Z0;go_wp2_with fail;go_ret;exact⟨rfl,Z1⟩
theorem c0i (i q s j p t:Int) (w:World) (h1:a1b i q s=true) (h2:a1b j p t=false) :
    Calls Tryz.prog 300 #[.agg #[.int .i64 i,.int .i64 q,.int .i64 s],.agg #[.int .i64 j,.int .i64 p,.int .i64 t]] w (Ret (.int .i64 0) w):=by
 have Z0:Below w.heap.size w ((w.alloc (.cells #[.int .i64 i,.int .i64 q,.int .i64 s] 266)).alloc (.cells #[.int .i64 j,.int .i64 p,.int .i64 t] 266)):=((Below.refl _ _).alloc (Nat.le_refl _) _).alloc (by simp) _;go_enter Tryz.func300,Tryz.ntmps300;go_wp2_with fail;refine(a3i _ _ _ _).mono ?_;rintro e w1 ⟨rfl,hb⟩;obtain⟨hc1,hf1⟩:=bcell hb;have Z1:=Z0.trans (hb.mono Z0.size);have s1:=hb.size;clear hb;clear Z0;simp only[World.size_alloc] at s1;have z10:w.heap.size<w1.heap.size:=by omega
 have z11:w.heap.size+1<w1.heap.size:=by omega
 go_wp2_with fail;refine(a3i _ _ _ _).mono ?_;rintro e w2 ⟨rfl,hb⟩;obtain⟨hc2,hf2⟩:=bcell hb;have Z2:=Z1.trans (hb.mono Z1.size);clear hb;clear Z1;go_wp2_with fail;go_ret;exact⟨rfl,Z2⟩
theorem c0j (i q s j p t:Int) (w:World) (h1:a1b i q s=true) (h2:a1b j p t=true) (c:Int) (hc:(c != 0)=true) (hq:Hid (cmpI (wrap64 (i*p)) (wrap64 (j*q))=c)) :
    Calls Tryz.prog 300 #[.agg #[.int .i64 i,.int .i64 q,.int .i64 s],.agg #[.int .i64 j,.int .i64 p,.int .i64 t]] w (Ret (.int .i64 c) w):=by
 have Z0:Below w.heap.size w ((w.alloc (.cells #[.int .i64 i,.int .i64 q,.int .i64 s] 266)).alloc (.cells #[.int .i64 j,.int .i64 p,.int .i64 t] 266)):=((Below.refl _ _).alloc (Nat.le_refl _) _).alloc (by simp) _;have H1:∀ w,Calls Tryz.prog 301 #[.agg #[.int .i64 i,.int .i64 q,.int .i64 s],.agg #[.int .i64 j,.int .i64 p,.int .i64 t]] w (Ret (.int .i64 c) w):=λ w=>by rw[<- Hid.out hq];exact b2P _ _ _ _ _ _ _
 have HH:=Lib.hid H1;clear H1 hq;go_enter Tryz.func300,Tryz.ntmps300;go_wp2_with fail;refine(a3i _ _ _ _).mono ?_;rintro e w1 ⟨rfl,hb⟩;obtain⟨hc1,hf1⟩:=bcell hb;have Z1:=Z0.trans (hb.mono Z0.size);have s1:=hb.size;clear hb;clear Z0;simp only[World.size_alloc] at s1;have z10:w.heap.size<w1.heap.size:=by omega
 have z11:w.heap.size+1<w1.heap.size:=by omega
 go_wp2_with fail;refine(a3i _ _ _ _).mono ?_;rintro e w2 ⟨rfl,hb⟩;obtain⟨hc2,hf2⟩:=bcell hb;have Z2:=Z1.trans (hb.mono Z1.size);have s2:=hb.size;clear hb;clear Z1;have z20:w.heap.size<w2.heap.size:=by omega
 have z21:w.heap.size+1<w2.heap.size:=by omega
 go_wp2_with fail;refine wp_loop_rounds 2 ?_;rw[rounds_succ];go_wp2_with fail;refine(HH.out _).mono ?_;rintro e w3 ⟨rfl,hb⟩;obtain⟨hc3,hf3⟩:=bcell hb;have Z3:=(Z2.alloc Z2.size _).trans (hb.mono (Nat.le_trans Z2.size (by simp)));have s3:=hb.size;clear hb;clear Z2;simp only[World.size_alloc] at s3;have z30:w.heap.size<w3.heap.size:=by omega
 have z31:w.heap.size+1<w3.heap.size:=by omega
 have z32:w2.heap.size<w3.heap.size:=by omega
 go_wp2_with fail;go_ret;exact⟨rfl,Z3⟩
theorem c0k (i q s j p t:Int) (w:World) (h1:a1b i q s=true) (h2:a1b j p t=true) (hq:Hid (cmpI (wrap64 (i*p)) (wrap64 (j*q))=0)) (c:Int) (hs:Hid (cmpI s t=c)) :
    Calls Tryz.prog 300 #[.agg #[.int .i64 i,.int .i64 q,.int .i64 s],.agg #[.int .i64 j,.int .i64 p,.int .i64 t]] w (Ret (.int .i64 c) w):=by
 have Z0:Below w.heap.size w ((w.alloc (.cells #[.int .i64 i,.int .i64 q,.int .i64 s] 266)).alloc (.cells #[.int .i64 j,.int .i64 p,.int .i64 t] 266)):=((Below.refl _ _).alloc (Nat.le_refl _) _).alloc (by simp) _;have H1:∀ w,Calls Tryz.prog 301 #[.agg #[.int .i64 i,.int .i64 q,.int .i64 s],.agg #[.int .i64 j,.int .i64 p,.int .i64 t]] w (Ret (.int .i64 0) w):=λ w=>by rw[<- Hid.out hq];exact b2P _ _ _ _ _ _ _
 have H2:∀ w,Calls Tryz.prog 295 #[.agg #[.int .i64 i,.int .i64 q,.int .i64 s],.agg #[.int .i64 j,.int .i64 p,.int .i64 t]] w (Ret (.int .i64 c) w):=λ w=>by rw[<- Hid.out hs];exact c0g _ _ _ _ _ _ _
 have HS:=Lib.hid H2;clear H2 hs;have HH:=Lib.hid H1;clear H1 hq;go_enter Tryz.func300,Tryz.ntmps300;go_wp2_with fail;refine(a3i _ _ _ _).mono ?_;rintro e w1 ⟨rfl,hb⟩;obtain⟨hc1,hf1⟩:=bcell hb;have Z1:=Z0.trans (hb.mono Z0.size);have s1:=hb.size;clear hb;clear Z0;simp only[World.size_alloc] at s1;have z10:w.heap.size<w1.heap.size:=by omega
 have z11:w.heap.size+1<w1.heap.size:=by omega
 go_wp2_with fail;refine(a3i _ _ _ _).mono ?_;rintro e w2 ⟨rfl,hb⟩;obtain⟨hc2,hf2⟩:=bcell hb;have Z2:=Z1.trans (hb.mono Z1.size);have s2:=hb.size;clear hb;clear Z1;have z20:w.heap.size<w2.heap.size:=by omega
 have z21:w.heap.size+1<w2.heap.size:=by omega
 go_wp2_with fail;refine wp_loop_rounds 3 ?_;rw[rounds_succ];go_wp2_with fail;refine(HH.out _).mono ?_;rintro e w3 ⟨rfl,hb⟩;obtain⟨hc3,hf3⟩:=bcell hb;have Z3:=(Z2.alloc Z2.size _).trans (hb.mono (Nat.le_trans Z2.size (by simp)));have s3:=hb.size;clear hb;clear Z2;simp only[World.size_alloc] at s3;have z30:w.heap.size<w3.heap.size:=by omega
 have z31:w.heap.size+1<w3.heap.size:=by omega
 have z32:w2.heap.size<w3.heap.size:=by omega
 go_wp2_with fail;rw[rounds_succ];go_wp2_with fail;refine(HS.out _).mono ?_;rintro e w4 ⟨rfl,hb⟩;obtain⟨hc4,hf4⟩:=bcell hb;have Z4:=Z3.trans (hb.mono Z3.size);clear hb;clear Z3
 by_cases hc:(c != 0)=true
 · go_wp2_with fail;go_ret;exact⟨rfl,Z4⟩
 · have hc':(c != 0)=false:=by simpa using hc
   clear hc;go_wp2_with fail;rw[rounds_succ];go_wp2_with fail;go_ret
   exact⟨by have:c=0:=by simpa using hc'
            rw[this];rfl,Z4⟩
theorem c0l (i q s j p t:Int) (w:World) :
    Calls Tryz.prog 300 #[.agg #[.int .i64 i,.int .i64 q,.int .i64 s],.agg #[.int .i64 j,.int .i64 p,.int .i64 t]] w (Ret (.int .i64 (cmpK i q s j p t)) w):=by
 unfold cmpK
 by_cases h1:a1b i q s=true
 · by_cases h2:a1b j p t=true
   · rw[if_pos (by simp[h1,h2])]
     by_cases h3:cmpI (wrap64 (i*p)) (wrap64 (j*q))=0
     · rw[if_pos h3];exact c0k _ _ _ _ _ _ _ h1 h2 h3 _ rfl
     · rw[if_neg h3];exact c0j _ _ _ _ _ _ _ h1 h2 _ (by simpa using h3) rfl
   · rw[if_neg (by simp[h1,h2])];exact c0i _ _ _ _ _ _ _ h1 (by simpa using h2)
 · rw[if_neg (by simp[h1])];exact c0h _ _ _ _ _ _ _ (by simpa using h1)
abbrev K3:=Int×Int×Int
def k3:Kd K3:=Kd.pair (Kd.int .i64) (Kd.pair (Kd.int .i64) (Kd.int .i64))
def z3:K3:=(0,0,0)
theorem a8R {w:World} {x:K3} {cs:List Value} (h:k3.K w x cs):cs=[.int .i64 x.1,.int .i64 x.2.1,.int .i64 x.2.2]:=by
 obtain⟨a,b,rfl,rfl,c,d,rfl,rfl,rfl⟩:=h;rfl
theorem a5w (w:World) (base:Nat) (ok:Nat->Prop) (x:K3):k3.M w base ok x [.int .i64 x.1,.int .i64 x.2.1,.int .i64 x.2.2]:=⟨[.int .i64 x.1],[.int .i64 x.2.1,.int .i64 x.2.2],rfl,rfl,[.int .i64 x.2.1],[.int .i64 x.2.2],rfl,rfl,rfl⟩
def Cells3 (w:World) (a:Addr) (x:K3):Prop:=w.cell? a=some (.int .i64 x.1)/\w.cell? ⟨a.block,a.off+1,none⟩=some (.int .i64 x.2.1)/\w.cell? ⟨a.block,a.off+2,none⟩=some (.int .i64 x.2.2)
theorem k3_at {w:World} {A:Option Addr} {n:Nat} {xs:List K3} (h:k3.C w A n xs) (i:Nat) (hi:i<n) :
    ∃ ad,A=some ad/\Cells3 w (ad.add (i*3)) (xs.getD i z3):=by
 obtain⟨ad,c,e,hl,hr,hc⟩:=ReadsRow.get_ h z3 (i:Int) (by omega) (by omega);obtain rfl:=a8R hr;simp only[Int.toNat_natCast] at hc;refine⟨ad,e,hc 0 _ rfl,?_,?_⟩
 · rw[<- a4z _ _ _ (by decide)];exact hc 1 _ rfl
 · rw[<- a4z _ _ _ (by decide)];exact hc 2 _ rfl
theorem Cells3.below {w w1:World} {a:Addr} {x:K3} (h:Cells3 w a x) (hb:Below w.heap.size w w1):Cells3 w1 a x:=
 ⟨a0p hb h.1,a0p hb h.2.1,a0p hb h.2.2⟩
theorem a3F {e:TypeId} {W:World} {base:Nat} {ok:Nat->Prop} {g n cap:Nat} {xs:List K3} (h:k3.R e W base ok (.slice (some ⟨g,0,none⟩) n cap) xs) (i:Nat) (hi:i<n) :
    (W.cell? ⟨g,i*3,none⟩=some (.int .i64 (xs.getD i z3).1)/\W.cell? ⟨g,i*3+1,none⟩=some (.int .i64 (xs.getD i z3).2.1)/\W.cell? ⟨g,i*3+2,none⟩=some (.int .i64 (xs.getD i z3).2.2)) /\
    (W.frozen? ⟨g,i*3,none⟩=false/\W.frozen? ⟨g,i*3+1,none⟩=false/\W.frozen? ⟨g,i*3+2,none⟩=false):=by
 obtain⟨c,hl,hm,hc,hf⟩:=Kd.R_elem h z3 (i:Int) (by omega) (by omega);obtain rfl:=a8R (k3.K_of_M hm);simp only[Int.toNat_natCast] at hc hf;exact⟨⟨hc 0 _ rfl,hc 1 _ rfl,hc 2 _ rfl⟩,hf 0,hf 1,hf 2⟩
theorem c0m {P : Program} {w : World} (t : TypeId) (a : Addr) (n : String) : (Builtin.ssaWrapNilChk_ #[t] t #[.pointer (some a), strVal "", strVal n]).run P w = .ok (.pointer (some a)) w := rfl
theorem a4I {P:Program} {w:World} {f:Nat} {t elem:TypeId} {name:String} {g:FuncId} {a:Addr} {v:Value}
    (hi:((P.info? t).bind λ i=>i.methods.find? (·.name==name)).map (λ m=>(m.path,m.func))=some (#[],some (g,false))) (hu:P.underlying t=some (.pointer elem)) (ha:(isAgg elem).run P w=.ok false w) (hw:w.cell? a=some v) :
    (method (f+1) t (.pointer (some a)) name).run P w=.ok (g,v) w:=by
 obtain⟨m,h1,h2⟩:=Option.map_eq_some_iff.1 hi;obtain⟨i,h3,hm⟩:=Option.bind_eq_some_iff.1 h1;simp only[Prod.mk.injEq] at h2;obtain⟨hp,hf⟩:=h2;unfold method;simp[run_typeInfo _ h3,run_underlying hu,hm,hp,hf,follow,receiverAt,ha,hw,Place.get,c0m,asAddr,go_sem]
theorem a6A {P:Program} {w:World} {f:Nat} {t elem:TypeId} {name:String} {g:FuncId} {v:Value}
    (hi:((P.info? t).bind λ i=>i.methods.find? (·.name==name)).map (λ m=>(m.path,m.func))=some (#[],some (g,true))) (hu:P.underlying t=some (.pointer elem)) :
    (method (f+1) t v name).run P w=.ok (g,v) w:=by
 obtain⟨m,h1,h2⟩:=Option.map_eq_some_iff.1 hi;obtain⟨i,h3,hm⟩:=Option.bind_eq_some_iff.1 h1;simp only[Prod.mk.injEq] at h2;obtain⟨hp,hf⟩:=h2;unfold method;simp[run_typeInfo _ h3,run_underlying hu,hm,hp,hf,follow,receiverAt,Place.get,go_sem]
def swapL (xs:List K3) (i j:Nat):List K3:=(xs.set i (xs.getD j z3)).set j (xs.getD i z3)
theorem a3G {e:TypeId} {W:World} {base:Nat} {ok:Nat->Prop} {g n cap:Nat} {xs:List K3} (h:k3.R e W base ok (.slice (some ⟨g,0,none⟩) n cap) xs) (i:Nat) (hi:i<n) (x:K3) :
    k3.R e (((W.setCell ⟨g,i*3,none⟩ (.int .i64 x.1)).setCell ⟨g,i*3+1,none⟩ (.int .i64 x.2.1)).setCell ⟨g,i*3+2,none⟩ (.int .i64 x.2.2)) base ok (.slice (some ⟨g,0,none⟩) n cap) (xs.set i x):=by
 obtain⟨c,hl,hm,hc,hf⟩:=Kd.R_elem h z3 (i:Int) (by omega) (by omega)
 have hM:k3.M W base (λ k=>ok k/\k≠g) x (c.take 0++[.int .i64 x.1,.int .i64 x.2.1,.int .i64 x.2.2]++c.drop (0+3)):=by
  obtain rfl:=a8R (k3.K_of_M hm);exact⟨[.int .i64 x.1],[.int .i64 x.2.1,.int .i64 x.2.2],rfl,rfl,[.int .i64 x.2.1],[.int .i64 x.2.2],rfl,rfl,rfl⟩
 have:=(Kd.R_seg h (i:Int) (by omega) (by omega) (seg:=[.int .i64 x.1,.int .i64 x.2.1,.int .i64 x.2.2]) (j:=0) hl hc (by exact Nat.le_refl 3) hM (λ _ hk=>hk)).1;simpa [World.setCells,k3,Kd.pair,Kd.int,Kd.scalar] using this
def lessK (x y:K3):Bool:=decide (cmpK x.1 x.2.1 x.2.2 y.1 y.2.1 y.2.2<0)
theorem b2Q (A:Option Addr) (n c:Nat) (xs:List K3) (i j:Nat) (hi:i<n) (hj:j<n) (w:World) (h:k3.C w A n xs) :
    Calls Tryz.prog 298 #[.slice A n c,.int .i64 i,.int .i64 j] w (Ret (.bool (lessK (xs.getD i z3) (xs.getD j z3))) w):=by
 obtain⟨ad,rfl,ci⟩:=k3_at h i hi;obtain⟨ad',e,cj⟩:=k3_at h j hj;obtain rfl:=Option.some.inj e;have hn:=h.2.1;obtain⟨x,hx⟩:∃ x,x=xs.getD i z3:=⟨_,rfl⟩;obtain⟨y,hy⟩:∃ x,x=xs.getD j z3:=⟨_,rfl⟩;rw[<- hx] at ci ⊢;rw[<- hy] at cj ⊢;clear hx hy h e;obtain⟨a1,a2,a3⟩:=ci;obtain⟨b1,b2,b3⟩:=cj;go_enter Tryz.func298,Tryz.ntmps298;go_wp2_with fail
 go_region_held3 (λ w'=>Below w.heap.size w w'/\w'.cell? (ad.add (i*3))=some (.int .i64 x.1)/\w'.cell? ⟨(ad.add (i*3)).block,(ad.add (i*3)).off+1,none⟩=some (.int .i64 x.2.1)/\w'.cell? ⟨(ad.add (i*3)).block,(ad.add (i*3)).off+2,none⟩=some (.int .i64 x.2.2)/\w'.cell? (ad.add (j*3))=some (.int .i64 y.1)/\w'.cell? ⟨(ad.add (j*3)).block,(ad.add (j*3)).off+1,none⟩=some (.int .i64 y.2.1)/\w'.cell? ⟨(ad.add (j*3)).block,(ad.add (j*3)).off+2,none⟩=some (.int .i64 y.2.2)) ((repeat' apply And.intro) <;> first | exact(Below.refl _ _).drew | assumption | exact a0p hb ‹_› | (refine a6f ?_ ?_ hb <;> first | assumption | exact Below.size (by assumption)) | exact⟨hb.os,hb.tape,hb.output,hb.size,hb.block⟩)
  (first | (go_at_call 300;refine(c0l _ _ _ _ _ _ _).mono ?_;rintro e w' ⟨rfl,hb⟩))
 rename_i hh;obtain⟨hh,-⟩:=hh;go_wp2;go_ret;exact⟨rfl,hh⟩
theorem c0n {e0:TypeId} {base:Nat} {ok:Nat->Prop} {g n cap:Nat} {xs:List K3} (i j:Nat) (hi:i<n) (hj:j<n) (hne:i≠j) (w:World) (h:k3.R e0 w base ok (.slice (some ⟨g,0,none⟩) n cap) xs) :
    Calls Tryz.prog 299 #[.slice (some ⟨g,0,none⟩) n cap,.int .i64 i,.int .i64 j] w λ e w'=>e=.returned (.tuple #[])/\k3.R e0 w' base ok (.slice (some ⟨g,0,none⟩) n cap) (swapL xs i j)/\Only (λ k=>k=g) w w':=by
 obtain⟨⟨a1,a2,a3⟩,f1,f2,f3⟩:=a3F h i hi;obtain⟨⟨b1,b2,b3⟩,g1,g2,g3⟩:=a3F h j hj;have hr:=Kd.R_reads' h;have hn:n<=9223372036854775807:=by rw[hr.1];exact hr.2.2.2.1
 clear hr;obtain⟨x,hx⟩:∃ x,x=xs.getD i z3:=⟨_,rfl⟩;obtain⟨y,hy⟩:∃ x,x=xs.getD j z3:=⟨_,rfl⟩;rw[<- hx] at a1 a2 a3;rw[<- hy] at b1 b2 b3
 have HF:Hid (k3.R e0 ((((((w.setCell ⟨g,i*3,none⟩ (.int .i64 y.1)).setCell ⟨g,i*3+1,none⟩ (.int .i64 y.2.1)).setCell ⟨g,i*3+2,none⟩ (.int .i64 y.2.2)).setCell ⟨g,j*3,none⟩ (.int .i64 x.1)).setCell ⟨g,j*3+1,none⟩ (.int .i64 x.2.1)).setCell ⟨g,j*3+2,none⟩ (.int .i64 x.2.2)) base ok (.slice (some ⟨g,0,none⟩) n cap) (swapL xs i j)):=by
  have:=a3G (a3G h i hi y) j hj x;rw[hx,hy] at this ⊢;exact this
 clear h;have n00a:¬ i*3=j*3:=by omega
 have n01a:¬ i*3=j*3+1:=by omega
 have n02a:¬ i*3=j*3+2:=by omega
 have n10a:¬ i*3+1=j*3:=by omega
 have n11a:¬ i*3+1=j*3+1:=by omega
 have n12a:¬ i*3+1=j*3+2:=by omega
 have n20a:¬ i*3+2=j*3:=by omega
 have n21a:¬ i*3+2=j*3+1:=by omega
 have n22a:¬ i*3+2=j*3+2:=by omega
 have n00b:¬ j*3=i*3:=by omega
 have n01b:¬ j*3=i*3+1:=by omega
 have n02b:¬ j*3=i*3+2:=by omega
 have n10b:¬ j*3+1=i*3:=by omega
 have n11b:¬ j*3+1=i*3+1:=by omega
 have n12b:¬ j*3+1=i*3+2:=by omega
 have n20b:¬ j*3+2=i*3:=by omega
 have n21b:¬ j*3+2=i*3+1:=by omega
 have n22b:¬ j*3+2=i*3+2:=by omega
 clear hx hy hne;go_enter Tryz.func299,Tryz.ntmps299;go_wp2_with fail;go_region;go_wp2
 all_goals go_end0
 exact⟨rfl,Kd.R_drew HF.out,by refine Only.drew ?_;(repeat (refine Only.set1 ?_ _ _));exact Only.refl _ _⟩
theorem c0o {e0:TypeId} {base:Nat} {ok:Nat->Prop} {g n cap:Nat} {xs:List K3} (i:Nat) (hi:i<n) (w:World) (h:k3.R e0 w base ok (.slice (some ⟨g,0,none⟩) n cap) xs) :
    Calls Tryz.prog 299 #[.slice (some ⟨g,0,none⟩) n cap,.int .i64 i,.int .i64 i] w λ e w'=>e=.returned (.tuple #[])/\k3.R e0 w' base ok (.slice (some ⟨g,0,none⟩) n cap) (swapL xs i i)/\Only (λ k=>k=g) w w':=by
 obtain⟨⟨a1,a2,a3⟩,f1,f2,f3⟩:=a3F h i hi;have hr:=Kd.R_reads' h;have hn:n<=9223372036854775807:=by rw[hr.1];exact hr.2.2.2.1
 clear hr;obtain⟨x,hx⟩:∃ x,x=xs.getD i z3:=⟨_,rfl⟩;rw[<- hx] at a1 a2 a3
 have HF:Hid (k3.R e0 ((((((w.setCell ⟨g,i*3,none⟩ (.int .i64 x.1)).setCell ⟨g,i*3+1,none⟩ (.int .i64 x.2.1)).setCell ⟨g,i*3+2,none⟩ (.int .i64 x.2.2)).setCell ⟨g,i*3,none⟩ (.int .i64 x.1)).setCell ⟨g,i*3+1,none⟩ (.int .i64 x.2.1)).setCell ⟨g,i*3+2,none⟩ (.int .i64 x.2.2)) base ok (.slice (some ⟨g,0,none⟩) n cap) (swapL xs i i)):=by
  have:=a3G (a3G h i hi x) i hi x;rw[hx] at this ⊢;exact this
 clear h;clear hx;go_enter Tryz.func299,Tryz.ntmps299;go_wp2_with fail;go_region;go_wp2
 all_goals go_end0
 exact⟨rfl,Kd.R_drew HF.out,by refine Only.drew ?_;(repeat (refine Only.set1 ?_ _ _));exact Only.refl _ _⟩
theorem b2R {e0:TypeId} {base:Nat} {ok:Nat->Prop} {g n cap:Nat} {xs:List K3} (i j:Nat) (hi:i<n) (hj:j<n) (w:World) (h:k3.R e0 w base ok (.slice (some ⟨g,0,none⟩) n cap) xs) :
    Calls Tryz.prog 299 #[.slice (some ⟨g,0,none⟩) n cap,.int .i64 i,.int .i64 j] w λ e w'=>e=.returned (.tuple #[])/\k3.R e0 w' base ok (.slice (some ⟨g,0,none⟩) n cap) (swapL xs i j)/\Only (λ k=>k=g) w w':=by
 by_cases hne:i=j
 · subst hne;exact c0o i hi w h
 · exact c0n i j hi hj hne w h
theorem a6B (A:Option Addr) (n c:Nat) (w:World):Calls Tryz.prog 262 #[.slice A n c] w λ e w'=>e=.returned (.int .i64 n)/\w=w':=by
 go_enter Tryz.func262,Tryz.ntmps262;go_wp2;go_ret;exact⟨rfl,rfl⟩
theorem b2S:(Tryz.prog.info? 266).map (λ i=>(i.zero,i.size,i.bytes))=some (some (.agg #[.int .i64 0,.int .i64 0,.int .i64 0]),k3.sz,24):=by kernel_rfl
theorem b2T (v:Value) (w:World):(Instr.typeAssert (.iface 266 v) 20 266 false).run Tryz.prog w=.ok v w:=by kernel_rfl
theorem c0p {base p:Nat} {v:Value} {xs:List K3} (x:K3) (w:World) (hb:w.heap[p]?=some (.cells #[v] 279 (0,0))) (hr:k3.R 266 w base (λ k=>k≠p) v xs) (hB:base<=w.heap.size) (hl:xs.length<=1000000) :
    Calls Tryz.prog 305 #[.pointer (some ⟨p,0,none⟩),.iface 266 (.agg #[.int .i64 x.1,.int .i64 x.2.1,.int .i64 x.2.2])] w λ e w'=>e=.returned (.tuple #[])/\∃ v',w'.heap[p]?=some (.cells #[v'] 279 (0,0))/\k3.R 266 w' base (λ k=>k≠p) v' (xs++[x])/\(v'.ownBlock=v.ownBlock\/∃ b,v'.ownBlock=some b/\w.heap.size<=b)/\Only (λ k=>k=p\/v.ownBlock=some k) w w':=by
 have hc:w.cell? ⟨p,0,none⟩=some v:=(a0a hb 0).trans rfl;have hf:=a0e hb 0;have ta:=b2T;have hlt:p<w.heap.size:=a0g hb;have hpn:¬ p=w.heap.size:=by omega
 have hpn':¬ w.heap.size=p:=by omega
 go_enter Tryz.func305,Tryz.ntmps305;go_wp2_with fail;have hfr:∀ k,w.heap.size<=k->k≠p:=λ k hk e=>by have:=a0g hb;omega
 have hl':(xs.length+1)*24<=140737488355328:=by omega
 have hne:some p≠v.ownBlock:=λ e=>hr.1 p e.symm rfl;have HN:=Lib.hid hne;have HR:=Lib.hid hr;have HB:=Lib.hid hB;have HF:=Lib.hid hfr;have HL:=Lib.hid hl';clear hr hfr hl' hB hne;go_region_law (first | (refine a5r k3 (w0:=w) base rfl (.tmp 7) (.tmp 10) 279 266 _ 24 rfl Tryz.underlying279 b2S rfl (by decide) (by decide) v xs x [.int .i64 x.1,.int .i64 x.2.1,.int .i64 x.2.2] (λ k=>k≠p) (λ _=>False) rfl rfl (a5w _ _ _ x) (λ _ h=>h.elim) HF.out HR.out (Below.refl _ _) HB.out HL.out ?_;intro v1 w1 hr1 hb1 hg1 hat1;obtain⟨A1,c1,rfl⟩:=Kd.R_slice hr1;simp only[List.length_append,List.length_singleton] at hr1 hat1;have hb2:=a1g hb hg1 HN.out;have hc2:w1.cell? ⟨p,0,none⟩=some v:=(a0a hb2 0).trans rfl;have hf2:=a0e hb2 0) | fail)
 all_goals
  go_wp2;go_end0;refine⟨rfl,_,a0x hb2 0 _,Kd.R_far (p:=⟨p,0,none⟩) hr1 (λ k hk=>hk) _,hat1,?_⟩;exact(Only.of_grown hg1 (λ k hk=>.inr hk)).setCell (p:=⟨p,0,none⟩) (.inl rfl) _
theorem c0q {base p g n cap:Nat} {xs:List K3} (w:World) (hb:w.heap[p]?=some (.cells #[.slice (some ⟨g,0,none⟩) (n+1) cap] 279 (0,0))) (hr:k3.R 266 w base (λ k=>k≠p) (.slice (some ⟨g,0,none⟩) (n+1) cap) xs) :
    Calls Tryz.prog 304 #[.pointer (some ⟨p,0,none⟩)] w λ e w'=>e=.returned (.iface 266 (.agg #[.int .i64 (xs.getD n z3).1,.int .i64 (xs.getD n z3).2.1,.int .i64 (xs.getD n z3).2.2]))/\w'.heap[p]?=some (.cells #[.slice (some ⟨g,0,none⟩) n cap] 279 (0,0))/\k3.R 266 w' base (λ k=>k≠p) (.slice (some ⟨g,0,none⟩) n cap) (xs.take n)/\Only (λ k=>k=p) w w':=by
 have hc:w.cell? ⟨p,0,none⟩=some (.slice (some ⟨g,0,none⟩) (n+1) cap):=(a0a hb 0).trans rfl;have hf:=a0e hb 0;have hlt:p<w.heap.size:=a0g hb;have hpn:¬ p=w.heap.size:=by omega
 have hpn':¬ w.heap.size=p:=by omega
 have hrd:=Kd.R_reads' hr;have hn:n+1<=9223372036854775807:=by rw[hrd.1];exact hrd.2.2.2.1
 have hcap:n+1<=cap:=hrd.2.1;obtain⟨⟨a1,a2,a3⟩,-⟩:=a3F hr n (by omega);have hgl:g<w.heap.size:=Kd.R_lt hr g rfl;have hgn:¬ g=w.heap.size:=by omega
 have hgn':¬ w.heap.size=g:=by omega
 obtain⟨x,hx⟩:∃ x,x=xs.getD n z3:=⟨_,rfl⟩;rw[<- hx] at a1 a2 a3 ⊢;have hr2:=Kd.R_take hr (m:=n) (by rw[<- hrd.1];omega);have HR:=Lib.hid hr2;clear hx hr hrd hr2;go_enter Tryz.func304,Tryz.ntmps304;go_wp2;go_ret;exact⟨rfl,a0o (a0x hb 0 _) _,Kd.R_alloc (Kd.R_far (p:=⟨p,0,none⟩) HR.out (λ k hk=>hk) _) _,((Only.refl _ _).set1 _ _).alloc _⟩
end Go.Proofs.YtflfjpkmjnnodaaGreat
namespace Go.Proofs.YtflfjpkmjnnodaaGreat
namespace HeapL
variable {α:Type} {z:α} {less:α->α->Bool} {G:α->Prop}
structure Ord (less:α->α->Bool) (G:α->Prop):Prop where
 asym:∀ a b,G a->G b->less a b=true->less b a=false
 trans:∀ a b c,G a->G b->G c->less b a=false->less c b=false->less c a=false
def swap (z:α) (xs:List α) (i j:Nat):List α:=(xs.set i (xs.getD j z)).set j (xs.getD i z)
theorem a8S (xs:List α) (i j:Nat):(swap z xs i j).length=xs.length:=by simp[swap]
theorem a3j (xs:List α) (i j k:Nat) (hi:i<xs.length) (hj:j<xs.length) :
    (swap z xs i j).getD k z=if k=j then xs.getD i z else if k=i then xs.getD j z else xs.getD k z:=by
 simp only[swap,List.getD_eq_getElem?_getD,List.getElem?_set,List.length_set]
 by_cases h1:j=k
 · subst h1;simp[hj]
 · have:¬ k=j:=λ e=>h1 e.symm
   by_cases h2:i=k
   · subst h2;simp[h1,this,hi]
   · have h2':¬ k=i:=λ e=>h2 e.symm;simp[h1,h2,this,h2']
theorem a4l (xs:List α) (i j:Nat) (hi:i<xs.length) (hj:j<xs.length):(swap z xs i j).Perm xs:=by
 simp only[swap,List.getD_eq_getElem?_getD,List.getElem?_eq_getElem hi,List.getElem?_eq_getElem hj,Option.getD_some];exact List.set_set_perm hi hj
def All (G:α->Prop) (xs:List α):Prop:=∀ x∈xs,G x
theorem All.get {xs:List α} (h:All G xs) (k:Nat) (hk:k<xs.length):G (xs.getD k z):=by
 rw[List.getD_eq_getElem?_getD,List.getElem?_eq_getElem hk];exact h _ (List.getElem_mem hk)
def okAt (less:α->α->Bool) (z:α) (xs:List α) (k:Nat):Prop:=less (xs.getD k z) (xs.getD ((k-1)/2) z)=false
def From (less:α->α->Bool) (z:α) (xs:List α) (m n:Nat):Prop:=∀ k,0<k->k<n->m<=(k-1)/2->okAt less z xs k
theorem From.root (o:Ord less G) {xs:List α} {n:Nat} (h:From less z xs 0 n) (hn:n<=xs.length) (hG:All G xs):∀ k,k<n->less (xs.getD k z) (xs.getD 0 z)=false:=by
 intro k
 induction k using Nat.strongRecOn with
 | _ k ih=>
  intro hk
  by_cases h0:k=0
  · subst h0
    cases e:less (xs.getD 0 z) (xs.getD 0 z) with
    | false=>rfl
    | true=>have:=o.asym _ _ (hG.get 0 (by omega)) (hG.get 0 (by omega)) e;rw[e] at this;cases this
  · have h1:=ih ((k-1)/2) (by omega) (by omega);exact o.trans _ _ _ (hG.get 0 (by omega)) (hG.get _ (by omega)) (hG.get _ (by omega)) h1 (h k (by omega) hk (by omega))
structure Up (less:α->α->Bool) (z:α) (xs:List α) (j:Nat):Prop where
 ok:∀ k,0<k->k<xs.length->k≠j->okAt less z xs k
 over:∀ k,0<k->k<xs.length->(k-1)/2=j->0<j->less (xs.getD k z) (xs.getD ((j-1)/2) z)=false
theorem Up.stop {xs:List α} {j:Nat} (h:Up less z xs j) (hs:j=0\/okAt less z xs j):From less z xs 0 xs.length:=by
 intro k hk hl _
 by_cases e:k=j
 · subst e;rcases hs with h0 | h0
   · omega
   · exact h0
 · exact h.ok k hk hl e
theorem Up.step (o:Ord less G) {xs:List α} {j:Nat} (h:Up less z xs j) (hG:All G xs) (hj:0<j) (hl:j<xs.length) (hs:less (xs.getD j z) (xs.getD ((j-1)/2) z)=true) :
    Up less z (swap z xs ((j-1)/2) j) ((j-1)/2):=by
 have hp:(j-1)/2<xs.length:=by omega
 have hlt:(j-1)/2<j:=by omega
 have ge:=λ k=>a3j (z:=z) xs ((j-1)/2) j k hp hl;have hs':=o.asym _ _ (hG.get j hl) (hG.get _ hp) hs
 constructor
 · intro k hk hk' hne;rw[a8S] at hk';unfold okAt;rw[ge,ge]
   by_cases e1:k=j
   · subst e1;rw[if_pos rfl,if_neg (by omega),if_pos rfl];exact hs'
   · rw[if_neg e1,if_neg hne]
     by_cases e2:(k-1)/2=j
     · rw[if_pos e2];exact h.over k hk hk' e2 hj
     · rw[if_neg e2]
       by_cases e3:(k-1)/2=(j-1)/2
       · rw[if_pos e3];have:=h.ok k hk hk' e1;unfold okAt at this;rw[e3] at this;exact o.trans _ _ _ (hG.get j hl) (hG.get _ hp) (hG.get k hk') hs' this
       · rw[if_neg e3];exact h.ok k hk hk' e1
 · intro k hk hk' hpar hp0;rw[a8S] at hk';rw[ge,ge];have hpp:=h.ok ((j-1)/2) hp0 hp (by omega);unfold okAt at hpp;rw[if_neg (show ¬ ((j-1)/2-1)/2=j by omega),if_neg (show ¬ ((j-1)/2-1)/2=(j-1)/2 by omega)]
   by_cases e1:k=j
   · rw[if_pos e1];exact hpp
   · rw[if_neg e1,if_neg (by omega)];have:=h.ok k hk hk' e1;unfold okAt at this;rw[hpar] at this;exact o.trans _ _ _ (hG.get _ (by omega)) (hG.get _ hp) (hG.get k hk') hpp this
structure Down (less:α->α->Bool) (z:α) (xs:List α) (i0 i n:Nat):Prop where
 ok:∀ k,0<k->k<n->i0<=(k-1)/2->(k-1)/2≠i->okAt less z xs k
 over:∀ k,0<k->k<n->(k-1)/2=i->i0<=(i-1)/2->0<i->less (xs.getD k z) (xs.getD ((i-1)/2) z)=false
theorem Down.start {xs:List α} {i n:Nat} (h:From less z xs (i+1) n):Down less z xs i i n:=
 ⟨λ k h1 h2 h3 h4=>h k h1 h2 (by omega),λ k h1 h2 h3 h4 h5=>by omega⟩
theorem Down.stop {xs:List α} {i0 i n:Nat} (h:Down less z xs i0 i n) (hs:∀ k,0<k->k<n->(k-1)/2=i->okAt less z xs k):From less z xs i0 n:=by
 intro k h1 h2 h3
 by_cases e:(k-1)/2=i
 · exact hs k h1 h2 e
 · exact h.ok k h1 h2 h3 e
theorem Down.step (o:Ord less G) {xs:List α} {i0 i n j:Nat} (h:Down less z xs i0 i n) (hG:All G xs) (hn:n<=xs.length) (hi:i0<=i) (hj:j<n) (hji:(j-1)/2=i) (hj0:0<j)
    (hm:∀ k,0<k->k<n->(k-1)/2=i->less (xs.getD k z) (xs.getD j z)=false) (hs:less (xs.getD j z) (xs.getD i z)=true):Down less z (swap z xs i j) i0 j n:=by
 have hil:i<xs.length:=by omega
 have ge:=λ k=>a3j (z:=z) xs i j k hil (by omega);have hs':=o.asym _ _ (hG.get j (by omega)) (hG.get i hil) hs
 constructor
 · intro k h1 h2 h3 h4;unfold okAt;rw[ge,ge,if_neg h4]
   by_cases e1:k=j
   · subst e1;rw[if_pos rfl,if_pos hji];exact hs'
   · rw[if_neg e1]
     by_cases e2:k=i
     · subst e2;rw[if_pos rfl,if_neg (by omega)];exact h.over j hj0 hj hji h3 h1
     · rw[if_neg e2]
       by_cases e3:(k-1)/2=i
       · rw[if_pos e3];exact hm k h1 h2 e3
       · rw[if_neg e3];exact h.ok k h1 h2 h3 e3
 · intro k h1 h2 h3 h4 h5;rw[ge,ge,if_neg (by omega),if_neg (by omega),if_neg (by omega),if_pos hji];have:=h.ok k h1 h2 (by omega) (by omega);unfold okAt at this
   rwa [h3] at this
theorem b2U (xs:List α) (x:α) (k:Nat) (h:k<xs.length):(xs++[x]).getD k z=xs.getD k z:=by
 simp[List.getD_eq_getElem?_getD,List.getElem?_append_left h]
theorem Up.snoc {xs:List α} {x:α} (h:From less z xs 0 xs.length):Up less z (xs++[x]) xs.length:=by
 constructor
 · intro k h1 h2 h3;simp at h2;unfold okAt;rw[b2U _ _ _ (by omega),b2U _ _ _ (by omega)];exact h k h1 (by omega) (by omega)
 · intro k h1 h2 h3 h4;simp at h2;omega
theorem From.swapped {xs:List α} {n:Nat} (hl:n<xs.length) (h:From less z xs 0 (n+1)):From less z (swap z xs 0 n) 1 n:=by
 intro k h1 h2 h3;unfold okAt;rw[a3j _ _ _ _ (by omega) hl,a3j _ _ _ _ (by omega) hl,if_neg (by omega),if_neg (by omega),if_neg (by omega),if_neg (by omega)];exact h k h1 (by omega) (by omega)
theorem b2V (xs:List α) (n k:Nat) (h:k<n):(xs.take n).getD k z=xs.getD k z:=by
 simp[List.getD_eq_getElem?_getD,h]
theorem From.taken {xs:List α} {n:Nat} (h:From less z xs 0 n):From less z (xs.take n) 0 n:=by
 intro k h1 h2 h3;unfold okAt;rw[b2V _ _ _ h2,b2V _ _ _ (by omega)];exact h k h1 h2 h3
theorem c0r (xs:List α) (n:Nat) (h:xs.length=n+1):xs=xs.take n++[xs.getD n z]:=by
 have:n<xs.length:=by omega
 rw[List.getD_eq_getElem?_getD,List.getElem?_eq_getElem this,Option.getD_some];have:=List.take_append_getElem this;rw[this,List.take_of_length_le (by omega)]
theorem popped {xs ys:List α} {n:Nat} (hx:xs.length=n+1) (hp:ys.Perm (swap z xs 0 n)) (hk:ys.getD n z=(swap z xs 0 n).getD n z):(xs.getD 0 z :: ys.take n).Perm xs:=by
 have hl:ys.length=n+1:=by rw[hp.length_eq,a8S,hx]
 have h1:ys.getD n z=xs.getD 0 z:=by rw[hk,a3j _ _ _ _ (by omega) (by omega),if_pos rfl]
 have h2:=c0r (z:=z) ys n hl;rw[h1] at h2;have h3:(ys.take n++[xs.getD 0 z]).Perm xs:=by rw[<- h2];exact hp.trans (a4l _ _ _ (by omega) (by omega))
 exact(List.perm_append_singleton _ _).symm.trans h3
end HeapL
end Go.Proofs.YtflfjpkmjnnodaaGreat
namespace Go.Proofs.YtflfjpkmjnnodaaGreat
open Go.RowKit Go.Proofs.YtflfjpkmjnnodaaGreatW.PrintWords
section
variable (f:Nat) (a:Addr) (v:Value) (w:World)
theorem m_len (h : w.cell? a = some v) : (method (f + 1) 280 (.pointer (some a)) "Len").run Tryz.prog w = .ok (262, v) w :=
 a4I (elem:=279) (by kernel_rfl) (by kernel_rfl) (by kernel_rfl) h
theorem b2W (h : w.cell? a = some v) : (method (f + 1) 280 (.pointer (some a)) "Less").run Tryz.prog w = .ok (298, v) w :=
 a4I (elem:=279) (by kernel_rfl) (by kernel_rfl) (by kernel_rfl) h
theorem a8T (h : w.cell? a = some v) : (method (f + 1) 280 (.pointer (some a)) "Swap").run Tryz.prog w = .ok (299, v) w :=
 a4I (elem:=279) (by kernel_rfl) (by kernel_rfl) (by kernel_rfl) h
theorem c0s : (method (f + 1) 280 v "Push").run Tryz.prog w = .ok (305, v) w :=
 a6A (elem:=279) (by kernel_rfl) (by kernel_rfl)
theorem m_pop : (method (f + 1) 280 v "Pop").run Tryz.prog w = .ok (304, v) w :=
 a6A (elem:=279) (by kernel_rfl) (by kernel_rfl)
end
structure Kp (p base:Nat) (w:World) (v:Value) (xs:List K3):Prop where
 blk:w.heap[p]?=some (.cells #[v] 279 (0,0))
 row:k3.R 266 w base (λ k=>k≠p) v xs
theorem Kp.cell {p base:Nat} {w:World} {v:Value} {xs:List K3} (h:Kp p base w v xs):w.cell? ⟨p,0,none⟩=some v:=(a0a h.blk 0).trans rfl
theorem Kp.below {p base:Nat} {w w1:World} {v:Value} {xs:List K3} (h:Kp p base w v xs) (hb:Below w.heap.size w w1):Kp p base w1 v xs:=⟨a0h h.blk hb,Kd.R_below h.row hb⟩
def GK (x:K3):Prop:=a1b x.1 x.2.1 x.2.2=true
open HeapL
theorem c0u {p base g n cap:Nat} {xs:List K3} (o:Ord lessK GK) (j:Nat) (hj:j<n) (w:World) (hk:Kp p base w (.slice (some ⟨g,0,none⟩) n cap) xs) (hg:All GK xs) (hu:Up lessK z3 xs j) :
    Calls Tryz.prog 272 #[.iface 280 (.pointer (some ⟨p,0,none⟩)),.int .i64 j] w λ e w'=>e=.returned (.tuple #[])/\∃ ys:List K3,Kp p base w' (.slice (some ⟨g,0,none⟩) n cap) ys/\ys.Perm xs/\From lessK z3 ys 0 n/\Only (λ k=>k=g) w w':=by
 have hn:n=xs.length:=(Kd.R_reads' hk.row).1;have hn2:n<=9223372036854775807:=by rw[hn];exact(Kd.R_reads' hk.row).2.2.2.1
 have ml:=b2W;have HN:=Lib.hid hn;clear hn;go_enter Tryz.func272,Tryz.ntmps272;go_wp2_with fail;go_loopw [1] (λ jv wr=>∃ (jn:Nat) (ys:List K3),jv=.int .i64 jn/\jn<n/\Hid (Kp p base wr (.slice (some ⟨g,0,none⟩) n cap) ys/\ys.Perm xs/\Up lessK z3 ys jn/\Only (λ k=>k=g) w wr)) (λ jv _=>(intOf jv).toNat)
 case atStart=>exact⟨j,xs,rfl,hj,hk,.refl _,hu,Only.refl _ _⟩
 case round=>
  obtain⟨jn,ys,rfl,hjn,H⟩:=hrel;have hc:=H.out.1.cell
  by_cases h0:jn=0
  · subst h0;go_wp2_with fail;go_end0;obtain⟨h1,h2,h3,h4⟩:=H.out;exact⟨rfl,ys,h1,h2,by rw[(Kd.R_reads' h1.row).1];exact h3.stop (.inl rfl),h4⟩
  · have ep:((jn:Int)-1)/2=(((jn-1)/2:Nat):Int):=by omega
    have hpl:(jn-1)/2<n:=by omega
    have hne:¬ (jn-1)/2=jn:=by omega
    go_wp2_with fail;have hC:=(Kd.R_reads' H.out.1.row);refine(b2Q (some ⟨g,0,none⟩) n cap ys jn ((jn-1)/2) hjn hpl _ (by rw[hC.1];exact hC.2.2)).mono ?_;rintro e w1 ⟨rfl,hb⟩;have HB:=Lib.hid hb;clear hC hb;have hc1:=(H.out.1.below HB.out).cell;have ms:=a8T
    cases hls:lessK (ys.getD jn z3) (ys.getD ((jn-1)/2) z3) with
    | false=>
     have HL:=Lib.hid hls;clear hls;go_wp2_with fail;go_end0;obtain⟨h1,h2,h3,h4⟩:=H.out;exact⟨rfl,ys,h1.below HB.out,h2,by rw[(Kd.R_reads' h1.row).1];exact h3.stop (.inr HL.out),h4.trans (Only.of_below HB.out)⟩
    | true=>
     have HL:=Lib.hid hls;clear hls;go_wp2_with fail;refine(b2R ((jn-1)/2) jn hpl hjn _ (H.out.1.below HB.out).row).mono ?_;rintro e w2 ⟨rfl,hr2,ho2⟩;have HR:=Lib.hid hr2;have HO:=Lib.hid ho2;clear hr2 ho2;go_wp2_with fail;go_roundw
     case rel=>
      obtain⟨h1,h2,h3,h4⟩:=H.out;have hl:n=ys.length:=(Kd.R_reads' h1.row).1;have hG:All GK ys:=λ x hx=>hg x (h2.subset hx);refine⟨(jn-1)/2,_,rfl,hpl,⟨?_,HR.out⟩,(a4l _ _ _ (by omega) (by omega)).trans h2,h3.step o hG (by omega) (by omega) HL.out,(h4.trans (Only.of_below HB.out)).trans HO.out⟩;exact(HO.out.block p (a0g (a0h h1.blk HB.out)) (λ e=>Kd.R_away h1.row (λ _ hk=>hk) (by rw[e];rfl))).trans (a0h h1.blk HB.out)
     case measure=>simp[intOf];omega
end Go.Proofs.YtflfjpkmjnnodaaGreat
namespace Go.Proofs.YtflfjpkmjnnodaaGreat
open Go.RowKit Go.Proofs.YtflfjpkmjnnodaaGreatW.PrintWords HeapL
def c0v (Q:World->Prop) (e:Ending) (w:World):Prop:=(∃ b,e=.returned (.bool b))/\Q w
def b2X (p base g n cap:Nat) (xs:List K3) (i0 n0:Nat) (w w':World):Prop:=
 ∃ ys:List K3,Kp p base w' (.slice (some ⟨g,0,none⟩) n cap) ys/\ys.Perm xs/\From lessK z3 ys i0 n0/\(∀ k,n0<=k->ys.getD k z3=xs.getD k z3)/\Only (λ k=>k=g) w w'
theorem Kp.len {p base g n cap:Nat} {w:World} {xs:List K3} (h:Kp p base w (.slice (some ⟨g,0,none⟩) n cap) xs):n=xs.length:=(Kd.R_reads' h.row).1
theorem Kp.read {p base g n cap:Nat} {w:World} {xs:List K3} (h:Kp p base w (.slice (some ⟨g,0,none⟩) n cap) xs):k3.C w (some ⟨g,0,none⟩) n xs:=by
 have:=Kd.R_reads' h.row;rw[this.1];exact this.2.2
theorem Kp.swapped {p base g n cap:Nat} {w w1:World} {xs ys:List K3} (h:Kp p base w (.slice (some ⟨g,0,none⟩) n cap) xs) (hr:k3.R 266 w1 base (λ k=>k≠p) (.slice (some ⟨g,0,none⟩) n cap) ys) (ho:Only (λ k=>k=g) w w1):Kp p base w1 (.slice (some ⟨g,0,none⟩) n cap) ys:=
 ⟨(ho.block p (a0g h.blk) (λ e=>Kd.R_away h.row (λ _ hk=>hk) (by rw[e];rfl))).trans h.blk,hr⟩
def DownInv (p base g n cap:Nat) (xs:List K3) (i0 n0:Nat) (w:World) (i:Nat) (ys:List K3) (wr:World):Prop:=
 Kp p base wr (.slice (some ⟨g,0,none⟩) n cap) ys/\ys.Perm xs/\Down lessK z3 ys i0 i n0/\(∀ k,n0<=k->ys.getD k z3=xs.getD k z3)/\Only (λ k=>k=g) w wr
theorem DownInv.below {p base g n cap:Nat} {xs:List K3} {i0 n0:Nat} {w:World} {i:Nat} {ys:List K3} {wr w1:World} (h:DownInv p base g n cap xs i0 n0 w i ys wr) (hb:Below wr.heap.size wr w1):DownInv p base g n cap xs i0 n0 w i ys w1:=
 ⟨h.1.below hb,h.2.1,h.2.2.1,h.2.2.2.1,h.2.2.2.2.trans (Only.of_below hb)⟩
theorem DownInv.done {p base g n cap:Nat} {xs:List K3} {i0 n0:Nat} {w:World} {i:Nat} {ys:List K3} {wr:World} (h:DownInv p base g n cap xs i0 n0 w i ys wr) (hs:∀ k,0<k->k<n0->(k-1)/2=i->okAt lessK z3 ys k):b2X p base g n cap xs i0 n0 w wr:=
 ⟨ys,h.1,h.2.1,h.2.2.1.stop hs,h.2.2.2.1,h.2.2.2.2⟩
theorem DownInv.step {p base g n cap:Nat} {xs:List K3} {i0 n0:Nat} {w:World} {i j:Nat} {ys:List K3} {wr w1:World} (o:Ord lessK GK) (hG:All GK xs) (hn:n0<=n) (h:DownInv p base g n cap xs i0 n0 w i ys wr) (hi:i0<=i) (hj:j<n0) (hji:(j-1)/2=i) (hj0:0<j)
    (hm:∀ k,0<k->k<n0->(k-1)/2=i->lessK (ys.getD k z3) (ys.getD j z3)=false) (hs:lessK (ys.getD j z3) (ys.getD i z3)=true)
    (hr:k3.R 266 w1 base (λ k=>k≠p) (.slice (some ⟨g,0,none⟩) n cap) (swapL ys i j)) (ho:Only (λ k=>k=g) wr w1):DownInv p base g n cap xs i0 n0 w j (swapL ys i j) w1:=by
 obtain⟨h1,h2,h3,h4,h5⟩:=h;have hl:=h1.len;have hGy:All GK ys:=λ x hx=>hG x (h2.subset hx);refine⟨h1.swapped hr ho,(a4l _ _ _ (by omega) (by omega)).trans h2,h3.step o hGy (by omega) hi hj hji hj0 hm hs,λ k hk=>?_,h5.trans ho⟩
 show(swap z3 ys i j).getD k z3=_
 rw[a3j _ _ _ _ (by omega) (by omega),if_neg (by omega),if_neg (by omega)];exact h4 k hk
theorem a6C {i j:Int} (a b:Nat) (ea:i=a) (eb:j=b) (A:Option Addr) (n c:Nat) (xs:List K3) (hi:a<n) (hj:b<n) (w:World) (h:k3.C w A n xs) :
    Calls Tryz.prog 298 #[.slice A n c,.int .i64 i,.int .i64 j] w (Ret (.bool (lessK (xs.getD a z3) (xs.getD b z3))) w):=by
 subst ea eb;exact b2Q A n c xs a b hi hj w h
theorem a6D {i j:Int} (a b:Nat) (ea:i=a) (eb:j=b) {e0:TypeId} {base:Nat} {ok:Nat->Prop} {g n cap:Nat} {xs:List K3} (hi:a<n) (hj:b<n) (w:World) (h:k3.R e0 w base ok (.slice (some ⟨g,0,none⟩) n cap) xs) :
    Calls Tryz.prog 299 #[.slice (some ⟨g,0,none⟩) n cap,.int .i64 i,.int .i64 j] w λ e w'=>e=.returned (.tuple #[])/\k3.R e0 w' base ok (.slice (some ⟨g,0,none⟩) n cap) (swapL xs a b)/\Only (λ k=>k=g) w w':=by
 subst ea eb;exact b2R a b hi hj w h
theorem c0w {p base g n cap:Nat} {xs:List K3} (o:Ord lessK GK) (i0 n0:Nat) (hn0:n0<=n) (hi0:i0<=n0) (hbd:n<=1000000) (w:World) (hk:Kp p base w (.slice (some ⟨g,0,none⟩) n cap) xs) (hg:All GK xs) (hu:From lessK z3 xs (i0+1) n0) :
    Calls Tryz.prog 271 #[.iface 280 (.pointer (some ⟨p,0,none⟩)),.int .i64 i0,.int .i64 n0] w (c0v (b2X p base g n cap xs i0 n0 w)):=by
 have HI:Hid (DownInv p base g n cap xs i0 n0 w i0 xs w):=⟨hk,.refl _,Down.start hu,λ _ _=>rfl,Only.refl _ _⟩;have ml:=b2W;have ms:=a8T;clear hk hu;go_enter Tryz.func271,Tryz.ntmps271;go_wp2_with fail;go_loopw [7] (λ iv wr=>∃ (i:Nat) (ys:List K3),iv=.int .i64 i/\i0<=i/\i<=n0/\Hid (DownInv p base g n cap xs i0 n0 w i ys wr)) (λ iv _=>n0-(intOf iv).toNat)
 case atStart=>exact⟨i0,xs,rfl,Nat.le_refl _,hi0,HI⟩
 case round=>
  obtain⟨i,ys,rfl,hi1,hi2,H⟩:=hrel;have hc:=H.out.1.cell
  by_cases hj1:2*i+1<n0
  · by_cases hj2:2*i+2<n0
    · go_wp2_with fail;refine(a6C (2*i+2) (2*i+1) (by omega) (by omega) (some ⟨g,0,none⟩) n cap ys (by omega) (by omega) _ H.out.1.read).mono ?_;rintro e w1 ⟨rfl,hb⟩;have H1:=Lib.hid (H.out.below hb);clear hb hc;have hc:=H1.out.1.cell
      cases hl1:lessK (ys.getD (2*i+2) z3) (ys.getD (2*i+1) z3) with
      | true=>
       have HL:=Lib.hid hl1;clear hl1;go_wp2_with fail;refine(a6C (2*i+2) i (by omega) rfl (some ⟨g,0,none⟩) n cap ys (by omega) (by omega) _ H1.out.1.read).mono ?_;rintro e w2 ⟨rfl,hb⟩;have H2:=Lib.hid (H1.out.below hb);clear hb hc;have hc:=H2.out.1.cell
       cases hl2:lessK (ys.getD (2*i+2) z3) (ys.getD i z3) with
       | true=>
        have HM:=Lib.hid hl2;clear hl2;go_wp2_with fail;refine(a6D i (2*i+2) rfl (by omega) (by omega) (by omega) _ H2.out.1.row).mono ?_;rintro e w3 ⟨rfl,hr3,ho3⟩
        have H3:Hid (DownInv p base g n cap xs i0 n0 w (2*i+2) (swapL ys i (2*i+2)) w3):=by
         refine H2.out.step o hg hn0 hi1 hj2 (by omega) (by omega) (λ k h1 h2 h3=>?_) HM.out hr3 ho3;have hGy:All GK ys:=λ x hx=>hg x (H2.out.2.1.subset hx);have hl:=H2.out.1.len;rcases (by omega:k=2*i+1\/k=2*i+2) with rfl | rfl
         · exact o.asym _ _ (hGy.get _ (by omega)) (hGy.get _ (by omega)) HL.out
         · cases e:lessK (ys.getD (2*i+2) z3) (ys.getD (2*i+2) z3) with
           | false=>rfl
           | true=>have:=o.asym _ _ (hGy.get _ (by omega)) (hGy.get _ (by omega)) e;rw[e] at this;cases this
        clear hr3 ho3;go_wp2_with fail;go_roundw
        case rel=>exact⟨2*i+2,_,by first | rfl | (congr 1;omega),by omega,by omega,H3⟩
        case measure=>simp[intOf];omega
       | false=>
        have HM:=Lib.hid hl2;clear hl2;go_wp2_with fail;go_ret;refine⟨⟨_,rfl⟩,H2.out.done λ k h1 h2 h3=>?_⟩;have hGy:All GK ys:=λ x hx=>hg x (H2.out.2.1.subset hx);have hl:=H2.out.1.len;unfold okAt;rw[h3];rcases (by omega:k=2*i+1\/k=2*i+2) with rfl | rfl
        · exact o.trans _ _ _ (hGy.get _ (by omega)) (hGy.get _ (by omega)) (hGy.get _ (by omega)) HM.out (o.asym _ _ (hGy.get _ (by omega)) (hGy.get _ (by omega)) HL.out)
        · exact HM.out
      | false=>
       have HL:=Lib.hid hl1;clear hl1;go_wp2_with fail;refine(a6C (2*i+1) i (by omega) rfl (some ⟨g,0,none⟩) n cap ys (by omega) (by omega) _ H1.out.1.read).mono ?_;rintro e w2 ⟨rfl,hb⟩;have H2:=Lib.hid (H1.out.below hb);clear hb hc;have hc:=H2.out.1.cell
       cases hl2:lessK (ys.getD (2*i+1) z3) (ys.getD i z3) with
       | true=>
        have HM:=Lib.hid hl2;clear hl2;go_wp2_with fail;refine(a6D i (2*i+1) rfl (by omega) (by omega) (by omega) _ H2.out.1.row).mono ?_;rintro e w3 ⟨rfl,hr3,ho3⟩
        have H3:Hid (DownInv p base g n cap xs i0 n0 w (2*i+1) (swapL ys i (2*i+1)) w3):=by
         refine H2.out.step o hg hn0 hi1 hj1 (by omega) (by omega) (λ k h1 h2 h3=>?_) HM.out hr3 ho3;have hGy:All GK ys:=λ x hx=>hg x (H2.out.2.1.subset hx);have hl:=H2.out.1.len;rcases (by omega:k=2*i+1\/k=2*i+2) with rfl | rfl
         · cases e:lessK (ys.getD (2*i+1) z3) (ys.getD (2*i+1) z3) with
           | false=>rfl
           | true=>have:=o.asym _ _ (hGy.get _ (by omega)) (hGy.get _ (by omega)) e;rw[e] at this;cases this
         · exact HL.out
        clear hr3 ho3;go_wp2_with fail;go_roundw
        case rel=>exact⟨2*i+1,_,by first | rfl | (congr 1;omega),by omega,by omega,H3⟩
        case measure=>simp[intOf];omega
       | false=>
        have HM:=Lib.hid hl2;clear hl2;go_wp2_with fail;go_ret;refine⟨⟨_,rfl⟩,H2.out.done λ k h1 h2 h3=>?_⟩;have hGy:All GK ys:=λ x hx=>hg x (H2.out.2.1.subset hx);have hl:=H2.out.1.len;unfold okAt;rw[h3];rcases (by omega:k=2*i+1\/k=2*i+2) with rfl | rfl
        · exact HM.out
        · exact o.trans _ _ _ (hGy.get _ (by omega)) (hGy.get _ (by omega)) (hGy.get _ (by omega)) HM.out HL.out
    · go_wp2_with fail;refine(a6C (2*i+1) i (by omega) rfl (some ⟨g,0,none⟩) n cap ys (by omega) (by omega) _ H.out.1.read).mono ?_;rintro e w1 ⟨rfl,hb⟩;have H1:=Lib.hid (H.out.below hb);clear hb hc;have hc:=H1.out.1.cell
      cases hl2:lessK (ys.getD (2*i+1) z3) (ys.getD i z3) with
      | true=>
       have HM:=Lib.hid hl2;clear hl2;go_wp2_with fail;refine(a6D i (2*i+1) rfl (by omega) (by omega) (by omega) _ H1.out.1.row).mono ?_;rintro e w3 ⟨rfl,hr3,ho3⟩
       have H3:Hid (DownInv p base g n cap xs i0 n0 w (2*i+1) (swapL ys i (2*i+1)) w3):=by
        refine H1.out.step o hg hn0 hi1 hj1 (by omega) (by omega) (λ k h1 h2 h3=>?_) HM.out hr3 ho3;have hGy:All GK ys:=λ x hx=>hg x (H1.out.2.1.subset hx);have hl:=H1.out.1.len;obtain rfl:k=2*i+1:=by omega
        cases e:lessK (ys.getD (2*i+1) z3) (ys.getD (2*i+1) z3) with
        | false=>rfl
        | true=>have:=o.asym _ _ (hGy.get _ (by omega)) (hGy.get _ (by omega)) e;rw[e] at this;cases this
       clear hr3 ho3;go_wp2_with fail;go_roundw
       case rel=>exact⟨2*i+1,_,by first | rfl | (congr 1;omega),by omega,by omega,H3⟩
       case measure=>simp[intOf];omega
      | false=>
       have HM:=Lib.hid hl2;clear hl2;go_wp2_with fail;go_ret;refine⟨⟨_,rfl⟩,H1.out.done λ k h1 h2 h3=>?_⟩;have hGy:All GK ys:=λ x hx=>hg x (H1.out.2.1.subset hx);have hl:=H1.out.1.len;unfold okAt;rw[h3];obtain rfl:k=2*i+1:=by omega
       exact HM.out
  · go_wp2_with fail;go_ret;exact⟨⟨_,rfl⟩,H.out.done λ k h1 h2 h3=>by omega⟩
def b2Y (p base:Nat) (v:Value) (xs:List K3) (x:K3) (w:World) (e:Ending) (w':World):Prop:=
 e=.returned (.tuple #[])/\∃ v' ys,Kp p base w' v' ys/\ys.Perm (x :: xs)/\From lessK z3 ys 0 ys.length/\(v'.ownBlock=v.ownBlock\/∃ b,v'.ownBlock=some b/\w.heap.size<=b)/\Only (λ k=>k=p\/v.ownBlock=some k) w w'
theorem b2Z {p base:Nat} {v:Value} {xs:List K3} (o:Ord lessK GK) (x:K3) (w:World) (hk:Kp p base w v xs) (hB:base<=w.heap.size) (hl:xs.length<=100000) (hg:All GK xs) (hx:GK x) (hf:From lessK z3 xs 0 xs.length) :
    Calls Tryz.prog 259 #[.iface 280 (.pointer (some ⟨p,0,none⟩)),.iface 266 (.agg #[.int .i64 x.1,.int .i64 x.2.1,.int .i64 x.2.2])] w (b2Y p base v xs x w):=by
 have mp:=c0s;have ml:=m_len;have HK:=Lib.hid hk;have HX:=Lib.hid hx;have HG:=Lib.hid hg;have HF:=Lib.hid hf;clear hk hx hg hf;go_enter Tryz.func259,Tryz.ntmps259;go_wp2_with fail;refine(c0p x w HK.out.blk HK.out.row hB (by omega)).mono ?_;rintro e w1 ⟨rfl,v1,hb1,hr1,hat,ho⟩;obtain⟨g,cap,rfl,-⟩:=Kd.R_form hr1 (by simp);have hlen:(xs++[x]).length=xs.length+1:=by simp
 rw[hlen] at hb1 hr1 hat;have H1:Hid (Kp p base w1 (.slice (some ⟨g,0,none⟩) (xs.length+1) cap) (xs++[x])):=⟨hb1,hr1⟩;have HA:=Lib.hid hat;have HO:=Lib.hid ho;clear hb1 hr1 hat ho hlen;have hc:=H1.out.cell;go_wp2_with fail;refine(a6B _ _ _ _).mono ?_;rintro e w2 ⟨rfl,rfl⟩;go_wp2_with fail;refine(c0u o xs.length (Nat.lt_succ_self _) _ H1.out ?hG ?hU).mono ?_
 case hG=>
  intro y hy;rcases List.mem_append.1 hy with h | h
  · exact HG.out y h
  · rw[List.mem_singleton.1 h];exact HX.out
 case hU=>exact Up.snoc HF.out
 rintro e w3 ⟨rfl,ys,h1,h2,h3,h4⟩
 have HP:Hid (b2Y p base v xs x w (.returned (.tuple #[])) w3):=by
  refine⟨rfl,_,ys,h1,h2.trans (List.perm_append_singleton _ _),by rw[<- h1.len];exact h3,HA.out,HO.out.trans2 h4 λ k hk e=>?_⟩;rcases HA.out with ha | ⟨b,hb,hle⟩
  · exact .inr (by rw[<- ha,e];rfl)
  · have:g=b:=by simpa [Value.ownBlock] using hb
    omega
 clear h1 h2 h3 h4;go_wp2_with fail;go_end0;exact HP.out
def b3a (p base g n cap:Nat) (xs:List K3) (w:World) (e:Ending) (w':World):Prop:=
 e=.returned (.iface 266 (.agg #[.int .i64 (xs.getD 0 z3).1,.int .i64 (xs.getD 0 z3).2.1,.int .i64 (xs.getD 0 z3).2.2]))/\∃ ys,Kp p base w' (.slice (some ⟨g,0,none⟩) n cap) ys/\(xs.getD 0 z3 :: ys).Perm xs/\From lessK z3 ys 0 n/\Only (λ k=>k=p\/k=g) w w'
theorem c0x {p base g n cap:Nat} {xs:List K3} (o:Ord lessK GK) (w:World) (hk:Kp p base w (.slice (some ⟨g,0,none⟩) (n+1) cap) xs) (hl:n<=100000) (hg:All GK xs) (hf:From lessK z3 xs 0 (n+1)) :
    Calls Tryz.prog 258 #[.iface 280 (.pointer (some ⟨p,0,none⟩))] w (b3a p base g n cap xs w):=by
 have mp:=m_pop;have ml:=m_len;have ms:=a8T;have HK:=Lib.hid hk;have HG:=Lib.hid hg;have HF:=Lib.hid hf;clear hk hg hf;have hc:=HK.out.cell;have HN:=Lib.hid HK.out.len;go_enter Tryz.func258,Tryz.ntmps258;go_wp2_with fail;refine(a6B _ _ _ _).mono ?_;rintro e w2 ⟨rfl,rfl⟩;go_wp2_with fail;refine(a6D 0 n (by omega) (by omega) (by omega) (by omega) _ HK.out.row).mono ?_;rintro e w1 ⟨rfl,hr1,ho1⟩;have H1:=Lib.hid (HK.out.swapped hr1 ho1);have HO:=Lib.hid ho1;clear hr1 ho1 hc;have hc:=H1.out.cell;go_wp2_with fail;refine(c0w o 0 n (by omega) (by omega) (by omega) _ H1.out ?hG ?hU).mono ?_
 case hG=>exact λ y hy=>HG.out y ((a4l _ _ _ (by rw[<- HN.out];omega) (by rw[<- HN.out];omega)).subset hy)
 case hU=>exact From.swapped (by rw[<- HN.out];omega) HF.out
 rintro e w2 ⟨⟨b,rfl⟩,ys,h1,h2,h3,h4,h5⟩;have H2:=Lib.hid h1;have HP:=Lib.hid h2;have HF2:=Lib.hid h3;have HE:=Lib.hid (h4 n (Nat.le_refl _));have HO2:=Lib.hid h5;clear h1 h2 h3 h4 h5 hc;have hc:=H2.out.cell;go_wp2_with fail;refine(c0q _ H2.out.blk H2.out.row).mono ?_;rintro e w3 ⟨rfl,hb3,hr3,ho3⟩
 have HQ:Hid (b3a p base g n cap xs w (.returned (.iface 266 (.agg #[.int .i64 (ys.getD n z3).1,.int .i64 (ys.getD n z3).2.1,.int .i64 (ys.getD n z3).2.2]))) w3):=by
  have e1:ys.getD n z3=xs.getD 0 z3:=by
   rw[HE.out]
   show(swap z3 xs 0 n).getD n z3=_
   rw[a3j _ _ _ _ (by rw[<- HN.out];omega) (by rw[<- HN.out];omega),if_pos rfl]
  refine⟨by rw[e1],ys.take n,⟨hb3,hr3⟩,popped HN.out.symm HP.out HE.out,HF2.out.taken,?_⟩;exact((HO.out.trans HO2.out).mono (S':=λ k=>k=p\/k=g) (λ _ _ h=>.inr h)).trans (ho3.mono (λ _ _ h=>.inl h))
 clear hb3 hr3 ho3;go_wp2_with fail;go_ret;exact HQ.out
end Go.Proofs.YtflfjpkmjnnodaaGreat
namespace Go.Proofs.YtflfjpkmjnnodaaGreat
open Go.RowKit Go.Proofs.YtflfjpkmjnnodaaGreatW.PrintWords
def logT (t:Int):Nat:=((List.range 12).find? (λ r=>t==2^(r+1))).elim 0 (· + 1)
def logC (c:List Int):Nat:=logT (a1d c)
theorem a6E {t:Int} {r:Nat} (h1:1<=r) (h2:r<=12) (h:t=2^r):logT t=r:=by
 obtain⟨m,rfl⟩:∃ m,r=m+1:=⟨r-1,by omega⟩;have hm:m<12:=by omega
 subst h;have:∀ m:Fin 12,logT (2^(m.val+1))=m.val+1:=by decide
 exact this ⟨m,hm⟩
theorem b3b {t:Int} (h:∀ r,1<=r->r<=12->t≠2^r):logT t=0:=by
 unfold logT;rw[List.find?_eq_none.2]
 · rfl
 · intro r hr;have:=List.mem_range.1 hr;simp only[beq_iff_eq];exact h (r+1) (by omega) (by omega)
theorem a1M (t:Int):logT t<=12:=by
 unfold logT
 cases h:(List.range 12).find? (λ r=>t==2^(r+1)) with
 | none=>simp
 | some r=>have:=List.mem_range.1 (List.mem_of_find?_eq_some h);simp;omega
theorem a8U {t:Int} (h:logT t≠0):t=2^logT t:=by
 unfold logT at h ⊢
 cases e:(List.range 12).find? (λ r=>t==2^(r+1)) with
 | none=>simp[e] at h
 | some r=>have:=List.find?_some e;simpa using this
def a6F (c:List Int) (w:World) (e:Ending) (w':World):Prop:=e=.returned (.tuple #[.int .i64 (logC c),.bool (decide (logC c≠0))])/\w=w'
theorem a1K {r:Nat} (h:r<=12):1<=(2:Int)^r/\(2:Int)^r<=4096:=by
 have:∀ r:Fin 13,1<=(2:Int)^r.val/\(2:Int)^r.val<=4096:=by decide
 exact this ⟨r,by omega⟩
theorem a5x (A:Option Addr) (cp:Nat) (c:List Int) (w:World) (hr:(Kd.int .i64).C w A c.length c) :
    Calls Tryz.prog 204 #[.slice A c.length cp] w (a6F c w):=by
 have HR:=Lib.hid hr;clear hr;go_enter Tryz.func204,Tryz.ntmps204;go_wp2_with fail;refine(b2x _ _ _ _ HR.out).mono ?_;obtain⟨t,ht⟩:∃ t,t=a1d c:=⟨_,rfl⟩;rw[<- ht];have HT:=Lib.hid ht;clear ht;rintro e w' ⟨rfl,rfl⟩;go_wp2_with fail;go_loop [5] (λ rv=>∃ (r:Nat),rv=.int .i64 r/\1<=r/\r<=13/\Hid (∀ m,1<=m->m<r->t≠2^m)) (λ rv=>13-(intOf rv).toNat)
 case atStart=>exact⟨1,rfl,by omega,by omega,λ m h1 h2=>by omega⟩
 case round=>
  obtain⟨r,rfl,h1,h2,H⟩:=hrel
  by_cases hlt:r<=12
  · have hp:=a1K hlt;have hwr:wrap64 (2^r)=2^r:=w64 (by omega)
    by_cases he:t=2^r
    · have hb:(t==wrap64 (2^r))=true:=by rw[hwr];simpa using he
      have HE:Hid (logC c=r):=by unfold logC;rw[<- HT.out];exact a6E h1 hlt he
      clear hp hwr he;go_wp2_with fail;go_ret2;exact⟨by rw[HE.out];simp;omega,rfl⟩
    · have hb:(t==wrap64 (2^r))=false:=by rw[hwr];simpa using he
      have HN:Hid (∀ m,1<=m->m<r+1->t≠2^m):=by
       intro m h3 h4 h5
       by_cases hm:m=r
       · subst hm;exact he h5
       · exact H.out m h3 (by omega) h5
      clear hp hwr he;go_wp2_with fail;go_round
      case rel=>exact⟨r+1,by go_num,by omega,by omega,HN⟩
      case measure=>simp[intOf];omega
  · have HE:Hid (logC c=0):=by unfold logC;rw[<- HT.out];exact b3b (λ m h3 h4=>H.out m h3 (by omega))
    go_wp2_with fail;go_ret2;exact⟨by rw[HE.out];simp,rfl⟩
theorem b3c (A:Option Addr) (cp:Nat) (c:List Int) (w:World) (hr:(Kd.int .i64).C w A c.length c) :
    Calls Tryz.prog 217 #[.slice A c.length cp] w λ e w'=>e=.returned (.int .i64 (logC c))/\w=w':=by
 have HR:=Lib.hid hr;clear hr;go_enter Tryz.func217,Tryz.ntmps217;go_wp2_with fail;refine(a5x _ _ _ _ HR.out).mono ?_;rintro e w' ⟨rfl,rfl⟩;go_wp2_with fail;go_ret;exact⟨rfl,rfl⟩
theorem c0y (A:Option Addr) (cp:Nat) (c:List Int) (r:Int) (w:World) (hr:(Kd.int .i64).C w A c.length c) :
    Calls Tryz.prog 213 #[.slice A c.length cp,.int .i64 r] w λ e w'=>e=.returned (.bool (decide (logC c≠0/\(logC c:Int)=r)))/\w=w':=by
 have HR:=Lib.hid hr;clear hr;go_enter Tryz.func213,Tryz.ntmps213;go_wp2_with fail;refine(a5x _ _ _ _ HR.out).mono ?_;rintro e w' ⟨rfl,rfl⟩
 by_cases h:logC c≠0
 · have h':decide (logC c≠0)=true:=decide_eq_true h;rw[h'];have HH:=Lib.hid h;clear h h';go_wp2_with fail;go_ret;refine⟨a0W ?_,rfl⟩;have:=HH.out;rw[Bool.eq_iff_iff];simp[this]
 · have h':decide (logC c≠0)=false:=decide_eq_false h;rw[h'];have HH:=Lib.hid h;clear h h';go_wp2_with fail;go_ret;refine⟨a0W ?_,rfl⟩;have:=HH.out;simp[this]
end Go.Proofs.YtflfjpkmjnnodaaGreat
namespace Go.Proofs.YtflfjpkmjnnodaaGreat
open Go.RowKit HeapL
theorem rightB_iff {i q s:Int}:a1b i q s=true↔1<=q/\q<=4096/\q<=i/\i<2*q/\0<=s/\s<256:=by
 unfold a1b;exact decide_eq_true_iff
theorem a8V {x y:Int} (h1:0<=x) (h2:x<=8192) (h3:0<=y) (h4:y<=8192):0<=x*y/\x*y<=67108864:=
 ⟨Int.mul_nonneg h1 h3,Int.le_trans (Int.mul_le_mul h2 h4 h3 (by omega)) (by omega)⟩
theorem wmul {x y:Int} (h1:0<=x) (h2:x<=8192) (h3:0<=y) (h4:y<=8192):wrap64 (x*y)=x*y:=by
 have:=a8V h1 h2 h3 h4;exact w64 (by omega)
theorem b3d {x y:Int}:cmpI x y<0↔x<y:=by unfold cmpI;split <;> (try split) <;> omega
theorem cmpI_zero {x y:Int}:cmpI x y=0↔x=y:=by unfold cmpI;split <;> (try split) <;> omega
theorem a8W {x y:K3} (hx:GK x) (hy:GK y):lessK x y=true↔x.1*y.2.1<y.1*x.2.1\/(x.1*y.2.1=y.1*x.2.1/\x.2.2<y.2.2):=by
 have a:=rightB_iff.1 hx;have b:=rightB_iff.1 hy;unfold lessK cmpK;rw[if_pos (by simp[show a1b x.1 x.2.1 x.2.2=true from hx,show a1b y.1 y.2.1 y.2.2=true from hy]),wmul (by omega) (by omega) (by omega) (by omega),wmul (by omega) (by omega) (by omega) (by omega),decide_eq_true_iff]
 by_cases h:cmpI (x.1*y.2.1) (y.1*x.2.1)=0
 · rw[if_pos h,b3d];have:=cmpI_zero.1 h;omega
 · rw[if_neg h,b3d];have:¬ x.1*y.2.1=y.1*x.2.1:=λ e=>h (cmpI_zero.2 e);omega
theorem a2p {x y:K3} (hx:GK x) (hy:GK y):lessK x y=false↔y.1*x.2.1<x.1*y.2.1\/(x.1*y.2.1=y.1*x.2.1/\y.2.2<=x.2.2):=by
 rw[<- Bool.not_eq_true,a8W hx hy];omega
theorem cross {i p j q k r:Int} (hp:1<=p) (hq:1<=q) (hr:1<=r) (h1:i*q<=j*p) (h2:j*r<=k*q):i*r<=k*p/\(i*q<j*p\/j*r<k*q->i*r<k*p):=by
 have e1:i*q*r=i*r*q:=by rw[Int.mul_assoc,Int.mul_comm q r,<- Int.mul_assoc]
 have e2:j*p*r=j*r*p:=by rw[Int.mul_assoc,Int.mul_comm p r,<- Int.mul_assoc]
 have e3:k*q*p=k*p*q:=by rw[Int.mul_assoc,Int.mul_comm q p,<- Int.mul_assoc]
 have a1:i*q*r<=j*p*r:=Int.mul_le_mul_of_nonneg_right h1 (by omega);have a2:j*r*p<=k*q*p:=Int.mul_le_mul_of_nonneg_right h2 (by omega);refine⟨Int.le_of_mul_le_mul_right (a:=q) (by omega) (by omega),λ h=>Int.lt_of_mul_lt_mul_right (a:=q) ?_ (by omega)⟩;rcases h with h | h
 · have:=Int.mul_lt_mul_of_pos_right h (show 0<r by omega);omega
 · have:=Int.mul_lt_mul_of_pos_right h (show 0<p by omega);omega
theorem ordK:Ord lessK GK where
 asym a b ha hb h:=by
  rw[a8W ha hb] at h;rw[a2p hb ha];omega
 trans a b c ha hb hc h1 h2:=by
  rw[a2p hb ha] at h1;rw[a2p hc hb] at h2;rw[a2p hc ha];have a1:=rightB_iff.1 ha;have a2:=rightB_iff.1 hb;have a3:=rightB_iff.1 hc;have:=@cross a.1 a.2.1 b.1 b.2.1 c.1 c.2.1 (by omega) (by omega) (by omega) (by omega) (by omega);omega
def leK (a b:K3):Prop:=lessK b a=false
theorem a6G {a:K3} (ha:GK a):leK a a:=by
 unfold leK;rw[a2p ha ha];omega
theorem a8X {a b c:K3} (ha:GK a) (hb:GK b) (hc:GK c) (h1:leK a b) (h2:leK b c):leK a c:=ordK.trans a b c ha hb hc h1 h2
def a1r (x:K3):List K3:=(List.range (2*x.2.1-x.1).toNat).map λ (d:Nat)=>(x.1+d,x.2.1,x.2.2)
def a1c (n:Int) (s:Nat):List K3:=(List.range n.toNat).map λ (d:Nat)=>(n+d,n,(s:Int))
def a0D (q:List Int):List K3:=q.zipIdx.flatMap λ p=>a1c p.1 p.2
theorem c0z (n:Int) (s:Nat):a1r (n,n,s)=a1c n s:=by
 unfold a1r a1c;rw[show(2*n-n).toNat=n.toNat by congr 1;omega]
theorem b3e {x:K3} (h:x.1+1=2*x.2.1):a1r x=[x]:=by
 unfold a1r;rw[show(2*x.2.1-x.1).toNat=1 by omega];simp
theorem b3f {x:K3} (h:x.1+1<2*x.2.1):a1r x=x :: a1r (x.1+1,x.2.1,x.2.2):=by
 unfold a1r;rw[show(2*x.2.1-x.1).toNat=(2*x.2.1-(x.1+1)).toNat+1 by omega,List.range_succ_eq_map];simp only[List.map_cons,List.map_map]
 congr 1
 · simp
 · apply List.map_congr_left;intro d _;simp;omega
theorem c0A (q:List Int) (n:Int):a0D (q++[n])=a0D q++a1c n q.length:=by
 simp[a0D,List.zipIdx_append]
theorem a3k {q:List Int} {k:Nat} (h:k<q.length):a0D (q.take (k+1))=a0D (q.take k)++a1c (q.getD k 0) k:=by
 rw[List.take_succ_eq_append_getElem h,c0A,List.getD_eq_getElem?_getD,List.getElem?_eq_getElem h,Option.getD_some,List.length_take,Nat.min_eq_left (by omega)]
theorem b3g {n:Int} (h:¬ 0<n) (s:Nat):a1c n s=[]:=by
 unfold a1c;rw[show n.toNat=0 by omega];rfl
structure Good (q:List Int):Prop where
 len:q.length=256
 nonneg:∀ x∈q,0<=x
 sum:q.sum<=4096
theorem Good.get {q:List Int} (h:Good q) (k:Nat):0<=q.getD k 0/\q.getD k 0<=4096:=by
 rw[List.getD_eq_getElem?_getD]
 by_cases hk:k<q.length
 · rw[List.getElem?_eq_getElem hk,Option.getD_some];have:=h.nonneg _ (List.getElem_mem hk);have:=a6t h.nonneg (List.getElem_mem hk);have:=h.sum;omega
 · rw[List.getElem?_eq_none (by omega)];simp
theorem a6H {q:List Int} (h:∀ x∈q,0<=x):((a0D q).length:Int)=q.sum:=by
 have key:∀ (l:List Int) (k:Nat),(∀ x∈l,0<=x)->(((l.zipIdx k).flatMap λ p=>a1c p.1 p.2).length:Int)=l.sum:=by
  intro l
  induction l with
  | nil=>intro k _;simp
  | cons a l ih=>
   intro k hl;have:=ih (k+1) (λ x hx=>hl x (by simp[hx]));have ha:=hl a (by simp);simp only[List.zipIdx_cons,List.flatMap_cons,List.length_append,List.sum_cons,Int.natCast_add,this];simp[a1c];omega
 exact key q 0 h
structure Fill (q:List Int) (k:Nat) (xs:List K3):Prop where
 good:All GK xs
 heap:From lessK z3 xs 0 xs.length
 perm:(xs.flatMap a1r).Perm (a0D (q.take k))
 len:xs.length<=k
theorem Fill.start (q:List Int):Fill q 0 []:=⟨(λ _ h=>by cases h),(λ k h1 h2 _=>by simp at h2),by simp[a0D],Nat.le_refl _⟩
theorem Fill.skip {q:List Int} {k:Nat} {xs:List K3} (h:Fill q k xs) (hk:k<q.length) (hn:¬ 0<q.getD k 0):Fill q (k+1) xs:=
 ⟨h.good,h.heap,by rw[a3k hk,b3g hn,List.append_nil];exact h.perm,Nat.le_succ_of_le h.len⟩
theorem b3h {q:List Int} (hq:Good q) {k:Nat} (hk:k<256) (hn:0<q.getD k 0):GK (q.getD k 0,q.getD k 0,(k:Int)):=by
 have:=hq.get k;exact rightB_iff.2 (by simp only[];omega)
theorem Fill.put {q:List Int} (hq:Good q) {k:Nat} {xs ys:List K3} (h:Fill q k xs) (hk:k<q.length) (hn:0<q.getD k 0) (hp:ys.Perm ((q.getD k 0,q.getD k 0,(k:Int)) :: xs)) (hh:From lessK z3 ys 0 ys.length):Fill q (k+1) ys where
 good:=λ x hx=>by
  rcases List.mem_cons.1 (hp.subset hx) with rfl | hx
  · exact b3h hq (by have:=hq.len;omega) hn
  · exact h.good x hx
 heap:=hh
 perm:=by
  rw[a3k hk];refine(hp.flatMap_right a1r).trans ?_;rw[List.flatMap_cons,c0z];exact List.perm_append_comm.trans (List.Perm.append_right _ h.perm)
 len:=by rw[hp.length_eq,List.length_cons];have:=h.len;omega
structure Pour (q:List Int) (out xs:List K3):Prop where
 good:All GK xs
 heap:From lessK z3 xs 0 xs.length
 perm:(out++xs.flatMap a1r).Perm (a0D q)
 goodOut:All GK out
 sorted:out.Pairwise leK
 before:∀ a∈out,∀ b∈xs,leK a b
theorem Pour.start {q:List Int} {xs:List K3} (h:Fill q q.length xs):Pour q [] xs:=
 ⟨h.good,h.heap,by have:=h.perm;rw[List.take_length] at this;simpa using this,(λ _ h=>by cases h),.nil,(λ _ h=>by cases h)⟩
theorem c0B {x:K3} (hx:GK x):x∈a1r x:=by
 have:=rightB_iff.1 hx;unfold a1r;exact List.mem_map.2 ⟨0,List.mem_range.2 (by omega),by simp⟩
theorem Pour.root {q:List Int} {out xs:List K3} (h:Pour q out xs):∀ b∈xs,leK (xs.getD 0 z3) b:=by
 intro b hb;obtain⟨k,hk,rfl⟩:=List.getElem_of_mem hb;have:=From.root ordK h.heap (Nat.le_refl _) h.good k hk
 rwa [List.getD_eq_getElem?_getD,List.getElem?_eq_getElem hk,Option.getD_some] at this
theorem Pour.len {q:List Int} (hq:Good q) {out xs:List K3} (h:Pour q out xs):out.length+(xs.flatMap a1r).length<=4096:=by
 have h1:=h.perm.length_eq;have h2:=a6H hq.nonneg;have h3:=hq.sum;rw[List.length_append] at h1;omega
theorem Pour.done {q:List Int} {out:List K3} (h:Pour q out []):out.Perm (a0D q):=by
 have:=h.perm;simpa using this
theorem Pour.last {q:List Int} {out xs ys:List K3} (h:Pour q out xs) (hn:0<xs.length) (hp:(xs.getD 0 z3 :: ys).Perm xs) (hh:From lessK z3 ys 0 ys.length) (hl:(xs.getD 0 z3).1+1=2*(xs.getD 0 z3).2.1):Pour q (out++[xs.getD 0 z3]) ys:=by
 have hx:GK (xs.getD 0 z3):=h.good.get 0 hn;have hr:=h.root;have hx0:xs.getD 0 z3∈xs:=by rw[List.getD_eq_getElem?_getD,List.getElem?_eq_getElem hn];exact List.getElem_mem hn
 refine⟨λ y hy=>h.good y (hp.subset (List.mem_cons_of_mem _ hy)),hh,?_,?_,?_,?_⟩
 · refine List.Perm.trans ?_ h.perm;rw[List.append_assoc];refine List.Perm.append_left _ ?_;have:=hp.flatMap_right a1r;rw[List.flatMap_cons,b3e hl] at this;exact this
 · intro y hy;rcases List.mem_append.1 hy with h1 | h1
   · exact h.goodOut y h1
   · rw[List.mem_singleton.1 h1];exact hx
 · rw[List.pairwise_append];refine⟨h.sorted,List.pairwise_singleton _ _,λ a ha b hb=>?_⟩;rw[List.mem_singleton.1 hb];exact h.before a ha _ hx0
 · intro a ha b hb;have hb':b∈xs:=hp.subset (List.mem_cons_of_mem _ hb);rcases List.mem_append.1 ha with h1 | h1
   · exact h.before a h1 b hb'
   · rw[List.mem_singleton.1 h1];exact hr b hb'
theorem a6I {x:K3} (hx:GK x) (hl:x.1+1≠2*x.2.1):GK (x.1+1,x.2.1,x.2.2):=by
 have:=rightB_iff.1 hx;exact rightB_iff.2 (by simp only[];omega)
theorem c0C {x:K3} (hx:GK x) (hl:x.1+1≠2*x.2.1):leK x (x.1+1,x.2.1,x.2.2):=by
 have:=rightB_iff.1 hx;unfold leK;rw[a2p (a6I hx hl) hx];left
 show x.1*x.2.1<(x.1+1)*x.2.1
 rw[Int.add_mul];omega
theorem Pour.more {q:List Int} {out xs ys zs:List K3} (h:Pour q out xs) (hn:0<xs.length) (hp:(xs.getD 0 z3 :: ys).Perm xs) (hl:(xs.getD 0 z3).1+1≠2*(xs.getD 0 z3).2.1)
    (hz:zs.Perm (((xs.getD 0 z3).1+1,(xs.getD 0 z3).2.1,(xs.getD 0 z3).2.2) :: ys)) (hh:From lessK z3 zs 0 zs.length):Pour q (out++[xs.getD 0 z3]) zs:=by
 have hx:GK (xs.getD 0 z3):=h.good.get 0 hn;have hr:=h.root;have hx0:xs.getD 0 z3∈xs:=by rw[List.getD_eq_getElem?_getD,List.getElem?_eq_getElem hn];exact List.getElem_mem hn
 have hb:=rightB_iff.1 hx;refine⟨?_,hh,?_,?_,?_,?_⟩
 · intro y hy;rcases List.mem_cons.1 (hz.subset hy) with rfl | hy
   · exact a6I hx hl
   · exact h.good y (hp.subset (List.mem_cons_of_mem _ hy))
 · refine List.Perm.trans ?_ h.perm;rw[List.append_assoc];refine List.Perm.append_left _ ?_;have h1:=hp.flatMap_right a1r;rw[List.flatMap_cons,b3f (by omega)] at h1;have h2:=hz.flatMap_right a1r;rw[List.flatMap_cons] at h2;exact(List.Perm.cons _ h2).trans h1
 · intro y hy;rcases List.mem_append.1 hy with h1 | h1
   · exact h.goodOut y h1
   · rw[List.mem_singleton.1 h1];exact hx
 · rw[List.pairwise_append];refine⟨h.sorted,List.pairwise_singleton _ _,λ a ha b hb=>?_⟩;rw[List.mem_singleton.1 hb];exact h.before a ha _ hx0
 · intro a ha b hb
   have ha':GK a/\leK a (xs.getD 0 z3):=by
    rcases List.mem_append.1 ha with h1 | h1
    · exact⟨h.goodOut a h1,h.before a h1 _ hx0⟩
    · rw[List.mem_singleton.1 h1];exact⟨hx,a6G hx⟩
   rcases List.mem_cons.1 (hz.subset hb) with rfl | hb
   · exact a8X ha'.1 hx (a6I hx hl) ha'.2 (c0C hx hl)
   · have hb':b∈xs:=hp.subset (List.mem_cons_of_mem _ hb);exact a8X ha'.1 hx (h.good b hb') ha'.2 (hr b hb')
def a3H (x:K3):List K3->List K3
 | []=>[x]
 | y :: ys=>if lessK y x then y :: a3H x ys else x :: y :: ys
def a0t (q:List Int):List K3:=(a0D q).foldr a3H []
theorem b3i (x:K3) (l:List K3):(a3H x l).Perm (x :: l):=by
 induction l with
 | nil=>exact .refl _
 | cons y ys ih=>
  unfold a3H
  split
  · exact(List.Perm.cons _ ih).trans (List.Perm.swap _ _ _)
  · exact .refl _
theorem c0D {x:K3} {l:List K3} (hx:GK x) (hl:All GK l) (hs:l.Pairwise leK):(a3H x l).Pairwise leK:=by
 induction l with
 | nil=>exact List.pairwise_singleton _ _
 | cons y ys ih=>
  have hy:GK y:=hl y (by simp);have hys:All GK ys:=λ z hz=>hl z (by simp[hz]);rw[List.pairwise_cons] at hs;unfold a3H
  split
  · rename_i h;rw[List.pairwise_cons];refine⟨λ b hb=>?_,ih hys hs.2⟩;rcases List.mem_cons.1 ((b3i x ys).subset hb) with rfl | hb
    · exact ordK.asym _ _ hy hx h
    · exact hs.1 b hb
  · rename_i h;have hxy:leK x y:=by unfold leK;simpa using h
    rw[List.pairwise_cons];refine⟨λ b hb=>?_,List.pairwise_cons.2 hs⟩;rcases List.mem_cons.1 hb with rfl | hb
    · exact hxy
    · exact a8X hx hy (hys b hb) hxy (hs.1 b hb)
theorem mem_allKeys {q:List Int} {x:K3}:x∈a0D q↔∃ (s d:Nat),s<q.length/\(d:Int)<q.getD s 0/\x=(q.getD s 0+d,q.getD s 0,(s:Int)):=by
 simp only[a0D,List.mem_flatMap,a1c,List.mem_map,List.mem_range]
 constructor
 · rintro ⟨⟨n,s⟩,hm,d,hd,rfl⟩;rw[List.mem_zipIdx_iff_getElem?] at hm;have hs:=(List.getElem?_eq_some_iff.1 hm).1;have e:q.getD s 0=n:=by rw[List.getD_eq_getElem?_getD,hm];rfl
   exact⟨s,d,hs,by rw[e];simp only[] at hd;omega,by rw[e]⟩
 · rintro ⟨s,d,hs,hd,rfl⟩;refine⟨(q.getD s 0,s),?_,d,by simp only[];omega,rfl⟩;rw[List.mem_zipIdx_iff_getElem?,List.getD_eq_getElem?_getD,List.getElem?_eq_getElem hs];rfl
theorem a3I {q:List Int} (hq:Good q):All GK (a0D q):=by
 intro x hx;obtain⟨s,d,hs,hd,rfl⟩:=mem_allKeys.1 hx;have:=hq.get s;have:=hq.len;exact rightB_iff.2 (by simp only[];omega)
theorem b3j {l:List K3} (hl:All GK l):(l.foldr a3H []).Perm l/\(l.foldr a3H []).Pairwise leK:=by
 induction l with
 | nil=>exact⟨.refl _,.nil⟩
 | cons a l ih=>
  obtain⟨h1,h2⟩:=ih (λ x hx=>hl x (by simp[hx]));rw[List.foldr_cons];exact⟨(b3i _ _).trans (List.Perm.cons _ h1),c0D (hl a (by simp)) (λ x hx=>hl x (by simp[h1.subset hx])) h2⟩
theorem a3l {q:List Int} (hq:Good q):(a0t q).Perm (a0D q):=(b3j (a3I hq)).1
theorem a6J {q:List Int} (hq:Good q):(a0t q).Pairwise leK:=(b3j (a3I hq)).2
theorem b3k {q:List Int} (hq:Good q) {a b:K3} (ha:a∈a0D q) (hb:b∈a0D q) (h1:leK a b) (h2:leK b a):a=b:=by
 have ga:=a3I hq a ha;have gb:=a3I hq b hb;unfold leK at h1 h2;rw[a2p gb ga] at h1;rw[a2p ga gb] at h2;obtain⟨s,d,hs,hd,rfl⟩:=mem_allKeys.1 ha;obtain⟨t,e,ht,he,rfl⟩:=mem_allKeys.1 hb;simp only[] at h1 h2;have est:(s:Int)=t:=by omega
 have:s=t:=by omega
 subst this;have hp:0<q.getD s 0:=by omega
 have:q.getD s 0+(d:Int)=q.getD s 0+e:=Int.eq_of_mul_eq_mul_right (a:=q.getD s 0) (by omega) (by omega);rw[this]
theorem c0E {q:List Int} (hq:Good q) {out:List K3} (hp:out.Perm (a0D q)) (hs:out.Pairwise leK):out=a0t q:=
 List.Perm.eq_of_pairwise (λ _ _ ha hb h1 h2=>b3k hq (hp.subset ha) ((a3l hq).subset hb) h1 h2) hs (a6J hq) (hp.trans (a3l hq).symm)
theorem Pour.order {q:List Int} (hq:Good q) {out:List K3} (h:Pour q out []):out=a0t q:=c0E hq h.done h.sorted
end Go.Proofs.YtflfjpkmjnnodaaGreat
namespace Go.Proofs.YtflfjpkmjnnodaaGreat
open Go.RowKit Go.Proofs.YtflfjpkmjnnodaaGreatW.PrintWords
theorem c0F (i q s:Int) (w:World) (h:a1b i q s=true) (hl:i+1=2*q) :
    Calls Tryz.prog 263 #[.agg #[.int .i64 i,.int .i64 q,.int .i64 s]] w (Ret (.tuple #[.agg #[.int .i64 0,.int .i64 0,.int .i64 0],.bool false]) w):=by
 have hb:1<=q/\q<=4096:=by simp[a1b] at h;omega
 have hi:0<=i/\i<=8192:=by simp[a1b] at h;omega
 obtain⟨hb1,hb2⟩:=hb;obtain⟨hi1,hi2⟩:=hi;have HL:(i+1==2*q)=true:=by simpa using hl
 clear hl;go_enter Tryz.func263,Tryz.ntmps263;go_wp2_with fail;refine(a3i _ _ _ _).mono ?_;rintro e w1 ⟨rfl,hb⟩;obtain⟨hc1,hf1⟩:=bcell hb;have s1:=hb.size;simp only[World.size_alloc] at s1;have Z1:Below w.heap.size w w1:=(((Below.refl _ _).alloc (Nat.le_refl _) _).alloc (by simp) _).trans (hb.mono (by simp;omega));have z10:w.heap.size<w1.heap.size:=by omega
 have z11:w.heap.size+1<w1.heap.size:=by omega
 have HZ:=Lib.hid Z1;clear hb Z1;go_wp2_with fail;refine bodyPost_ret (v:=.tuple #[.agg #[.int .i64 0,.int .i64 0,.int .i64 0],.bool false]) ?_ rfl ⟨rfl,?_⟩
 · simp[results,Tryz.results263,go_sem,hc1]
 · repeat (first | exact HZ.out | (refine Below.setCell ?_ (by simp) _))
theorem c0G (i q s:Int) (w:World) (h:a1b i q s=true) (hl:i+1≠2*q) :
    Calls Tryz.prog 263 #[.agg #[.int .i64 i,.int .i64 q,.int .i64 s]] w (Ret (.tuple #[.agg #[.int .i64 (i+1),.int .i64 q,.int .i64 s],.bool true]) w):=by
 have hb:1<=q/\q<=4096:=by simp[a1b] at h;omega
 have hi:0<=i/\i<=8192:=by simp[a1b] at h;omega
 obtain⟨hb1,hb2⟩:=hb;obtain⟨hi1,hi2⟩:=hi;have HL:(i+1==2*q)=false:=by simpa using hl
 clear hl;go_enter Tryz.func263,Tryz.ntmps263;go_wp2_with fail;refine(a3i _ _ _ _).mono ?_;rintro e w1 ⟨rfl,hb⟩;have s1:=hb.size;simp only[World.size_alloc] at s1;have B0:=a0h (a0o (a0i w (.cells #[.int .i64 i,.int .i64 q,.int .i64 s] 266)) _) hb;have B1:=a0h (a0i (w.alloc (.cells #[.int .i64 i,.int .i64 q,.int .i64 s] 266)) _) hb;rw[World.size_alloc] at B1;have Z1:Below w.heap.size w w1:=(((Below.refl _ _).alloc (Nat.le_refl _) _).alloc (by simp) _).trans (hb.mono (by simp;omega));have HZ:=Lib.hid Z1;clear hb Z1;have a0:=(a0a B0 0).trans rfl;have a1:=(a0a B0 1).trans rfl;have a2:=(a0a B0 2).trans rfl;have b0:=(a0a B1 0).trans rfl;have b1:=(a0a B1 1).trans rfl;have b2:=(a0a B1 2).trans rfl;have f0:=a0e B0 0;have g0:=a0e B1 0;have g1:=a0e B1 1;have g2:=a0e B1 2;clear B0 B1;go_wp2_with fail;refine bodyPost_ret (v:=.tuple #[.agg #[.int .i64 (i+1),.int .i64 q,.int .i64 s],.bool true]) ?_ rfl ⟨rfl,?_⟩
 · simp[results,Tryz.results263,go_sem,b0,b1,b2]
 · repeat (first | exact HZ.out | (refine Below.setCell ?_ (by simp) _))
open HeapL
theorem a2G {α:Type} {d:Kd α} (hE:d.E=[]) {e:Nat} {w w1:World} {base:Nat} {ok:Nat->Prop} {v:Value} {xs:List α} {S:Nat->Prop} (h:d.R e w base ok v xs) (ho:Only S w w1) (hs:∀ k,v.ownBlock=some k->¬ S k):d.R e w1 base (λ _=>True) v xs:=
 Kd.R_mono (Kd.R_step (Kd.R_tight hE h) (λ k hk hlt=>ho.block k hlt (hs k hk.symm))) (λ _ _=>trivial)
theorem c0H {α:Type} {d:Kd α} (hE:d.E=[]) {e:Nat} {w w1:World} {base:Nat} {ok:Nat->Prop} {v:Value} {xs:List α} {row:Option Nat} (h:d.R e w base ok v xs) (hg:w.grownBy w1 row) (hs:∀ k,v.ownBlock=some k->some k≠row) (ok':Nat->Prop) (hok:∀ k,v.ownBlock=some k->ok' k):d.R e w1 base ok' v xs:=
 Kd.R_mono (Kd.R_grown (Kd.R_tight hE h) hg (λ k hk=>hs k hk.symm)) (λ k hk=>hok k hk.symm)
theorem Kp.grown {p base:Nat} {w w1:World} {v:Value} {xs:List K3} {row:Option Nat} (h:Kp p base w v xs) (hg:w.grownBy w1 row) (h1:some p≠row) (h2:∀ k,v.ownBlock=some k->some k≠row):Kp p base w1 v xs:=
 ⟨a1g h.blk hg h1,c0H rfl h.row hg h2 _ (λ k hk=>h.row.1 k hk)⟩
theorem Kp.only_below {p base:Nat} {w w1:World} {v:Value} {xs:List K3} (h:Kp p base w v xs) (hb:base<=p) (ho:Only (λ k=>k=p\/v.ownBlock=some k) w w1) (hs:base<=w.heap.size):Below base w w1:=
 ho.below hs (λ k hk=>hk.elim (λ e=>e ▸ hb) (λ e=>Kd.R_base h.row k e))
def c0I (q:List Int) (w:World) (e:Ending) (w':World):Prop:=∃ v,e=.returned v/\k3.R 266 w' w.heap.size (λ _=>True) v (a0t q)/\Below w.heap.size w w'
theorem c0J {xs:List K3} (h:All GK xs):xs.length<=(xs.flatMap a1r).length:=by
 induction xs with
 | nil=>simp
 | cons a l ih=>
  have:=ih (λ x hx=>h x (by simp[hx]));have ha:=List.length_pos_of_mem (c0B (h a (by simp)));rw[List.flatMap_cons,List.length_append,List.length_cons];omega
def a6K (p base:Nat) (q:List Int) (w:World) (outs:List K3) (v vo:Value) (xs:List K3) (wr:World):Prop:=
 Kp p base wr v xs/\k3.R 266 wr base (λ _=>True) vo outs/\(∀ k,vo.ownBlock=some k->k≠p/\v.ownBlock≠some k)/\Pour q outs xs/\Below base w wr
def a6L (p base:Nat) (q:List Int) (w:World) (k:Nat) (v:Value) (xs:List K3) (wr:World):Prop:=Kp p base wr v xs/\Fill q k xs/\Below base w wr
theorem c0K (A:Option Addr) (c:Nat) (q:List Int) (w:World) (hq:Good q) (hr:(Kd.int .i64).C w A q.length q) :
    Calls Tryz.prog 241 #[.slice A q.length c] w (c0I q w):=by
 have hlen:=hq.len;obtain⟨ad,rfl,hcs⟩:=a5v hr (by omega);rw[hlen] at hcs ⊢;have HC:=Lib.hid hcs;have HQ:=Lib.hid hq;have HE:=Lib.hid hlen;clear hcs hr hq hlen;obtain⟨p,hp⟩:∃ p,p=w.heap.size:=⟨_,rfl⟩;have HP:=Lib.hid hp
 have HI:Hid (a6L w.heap.size w.heap.size q w 0 (.slice none 0 0) [] (w.alloc (.cells #[.slice none 0 0] 279))):=
  ⟨⟨a0i _ _,Kd.R_nil _ _ _ _ _⟩,Fill.start q,(Below.refl _ _).alloc (Nat.le_refl _) _⟩
 clear hp;go_enter Tryz.func241,Tryz.ntmps241;go_wp2_with fail;go_loopw [12] (λ kv wr=>∃ (k:Nat) (v:Value) (xs:List K3),kv=.int .i64 k/\k<=256/\Hid (a6L w.heap.size w.heap.size q w k v xs wr)) (λ kv _=>256-(intOf kv).toNat)
 case atStart=>exact⟨0,_,_,rfl,by omega,HI⟩
 case round=>
  obtain⟨k,v,xs,rfl,hk,H⟩:=hrel
  by_cases hlt:k<256
  · have hcell:=a0p H.out.2.2 (HC.out k hlt);obtain⟨x,hx⟩:∃ x,x=q.getD k 0:=⟨_,rfl⟩;rw[<- hx] at hcell;have HX:=Lib.hid hx;have hx2:=HQ.out.get k;rw[<- hx] at hx2;obtain⟨hx0,hx1⟩:=hx2;clear hx
    by_cases hpos:0<x
    · go_wp2_with fail;refine(b2Z ordK (x,x,(k:Int)) _ H.out.1 H.out.2.2.size (by have:=H.out.2.1.len;omega) H.out.2.1.good (by have:=b3h HQ.out hlt (by rw[<- HX.out];exact hpos);rw[<- HX.out] at this;exact this) H.out.2.1.heap).mono ?_;rintro e w1 ⟨rfl,v',ys,h1,h2,h3,h4,h5⟩
      have H1:Hid (a6L w.heap.size w.heap.size q w (k+1) v' ys w1):=
       ⟨h1,H.out.2.1.put HQ.out (by rw[HE.out];exact hlt) (by rw[<- HX.out];exact hpos) (by rw[<- HX.out];exact h2) h3,H.out.2.2.trans (H.out.1.only_below (Nat.le_refl _) h5 H.out.2.2.size)⟩
      clear h1 h2 h3 h4 h5 hcell;go_wp2_with fail;go_roundw
      case rel=>exact⟨k+1,_,_,by go_num,by omega,H1⟩
      case measure=>simp[intOf];omega
    · have H1:Hid (a6L w.heap.size w.heap.size q w (k+1) v xs wr):=
        ⟨H.out.1,H.out.2.1.skip (by rw[HE.out];exact hlt) (by rw[<- HX.out];exact hpos),H.out.2.2⟩
      go_wp2_with fail;go_roundw
      case rel=>exact⟨k+1,_,_,by go_num,by omega,H1⟩
      case measure=>simp[intOf];omega
  · go_wp2_with fail;obtain rfl:k=256:=by omega
    have HS:Hid (a6K w.heap.size w.heap.size q w [] v (.slice none 0 0) xs wr):=
     ⟨H.out.1,Kd.R_nil _ _ _ _ _,(λ k hk=>by simp[Value.ownBlock] at hk),Pour.start (by rw[HE.out];exact H.out.2.1),H.out.2.2⟩
    have ta:=b2T;clear H;go_loopg [6] 4096 (λ kq vo wr=>∃ (outs:List K3) (v:Value) (xs:List K3),Hid (a6K w.heap.size w.heap.size q w outs v vo xs wr/\(xs.flatMap a1r).length<=kq))
    case atStart=>exact⟨[],v,xs,HS.out,by have:=HS.out.2.2.2.1.len HQ.out;omega⟩
    case round=>
     obtain⟨outs,v,xs,H⟩:=hrel
     by_cases hz:xs.length=0
     · obtain⟨A1,c1,rfl⟩:=Kd.R_slice H.out.1.1.row;have hc:=H.out.1.1.cell;have hz':¬ (0<xs.length):=by omega
       have HZ:=Lib.hid hz;clear hz;go_wp2_with fail;refine(a6B _ _ _ _).mono ?_;rintro e w2 ⟨rfl,rfl⟩;go_wp2_with fail;go_ret;obtain⟨⟨h1,h2,h3,h4,h5⟩,-⟩:=H.out;obtain rfl:=List.length_eq_zero_iff.1 HZ.out;exact⟨_,rfl,by rw[<- h4.order HQ.out];exact h2,h5⟩
     · obtain⟨g,cap,rfl,-⟩:=Kd.R_form H.out.1.1.row (by omega);obtain⟨n,hn⟩:∃ n,xs.length=n+1:=⟨xs.length-1,by omega⟩;rw[hn] at H;have HN:=Lib.hid hn;have hc:=H.out.1.1.cell;have hz':n<=4096:=by have:=H.out.1.2.2.2.1.len HQ.out;have:=c0J H.out.1.2.2.2.1.good;omega
       clear hz hn;go_wp2_with fail;refine(a6B _ _ _ _).mono ?_;rintro e w2 ⟨rfl,rfl⟩;go_wp2_with fail;refine(c0x ordK _ H.out.1.1 (by omega) H.out.1.2.2.2.1.good (by have:=H.out.1.2.2.2.1.heap;rw[HN.out] at this;exact this)).mono ?_;rintro e w1 ⟨rfl,ys,h1,h2,h3,h4⟩;obtain⟨x,hx⟩:∃ x,x=xs.getD 0 z3:=⟨_,rfl⟩;rw[<- hx] at h2 ⊢;have HX:=Lib.hid hx;have H1:=Lib.hid h1;have HY:=Lib.hid h2;have HF:=Lib.hid h3;have HO:=Lib.hid h4;clear hx h1 h2 h3 h4 hc
       have HV:Hid (k3.R 266 w1 w.heap.size (λ _=>True) u6 outs):=
        a2G rfl H.out.1.2.1 HO.out (λ k hk e=>e.elim (H.out.1.2.2.1 k hk).1 (λ e=>(H.out.1.2.2.1 k hk).2 (by rw[e];rfl)))
       have HB1:Hid (Below w.heap.size w w1):=H.out.1.2.2.2.2.trans (H.out.1.1.only_below (Nat.le_refl _) (HO.out.mono (λ k _ e=>e.imp_right (λ e=>by rw[e];rfl))) H.out.1.2.2.2.2.size);have HL:Hid ((outs.length+1)*24<=140737488355328):=by have:=H.out.1.2.2.2.1.len HQ.out;show _<=_;omega
       have HS1:Hid (w.heap.size<=(w1.alloc (.cells #[.int .i64 x.1,.int .i64 x.2.1,.int .i64 x.2.2] 266)).heap.size):=by show _<=_;have:=HB1.out.size;simp;omega
       have HB2:Hid (Below w.heap.size w (w1.alloc (.cells #[.int .i64 x.1,.int .i64 x.2.1,.int .i64 x.2.2] 266))):=HB1.out.alloc HB1.out.size _;have HNE:Hid (some w1.heap.size≠u6.ownBlock):=λ e=>by have:=Kd.R_lt HV.out _ e.symm;omega
       go_wp2_with (at_builtin;refine Kd.R_append k3 (w0:=w) (W:=w1.alloc (.cells #[.int .i64 x.1,.int .i64 x.2.1,.int .i64 x.2.2] 266)) w.heap.size rfl (.tmp 33) (.tmp 35) 263 266 _ 24 rfl Tryz.underlying263 b2S rfl (by decide) (by decide) u6 outs x [.int .i64 x.1,.int .i64 x.2.1,.int .i64 x.2.2] (λ _=>True) (λ _=>False) rfl (by simp[go_sem]) (a5w _ _ _ x) (λ _ h=>h.elim) (λ _ _=>trivial) (Kd.R_alloc HV.out _) HB2.out HS1.out HL.out ?_;intro v2 w2 hr2 hb2 hg2 hat2;have HK2:=Lib.hid (a1g (a0i w1 (.cells #[.int .i64 x.1,.int .i64 x.2.1,.int .i64 x.2.2] 266)) hg2 HNE.out);have c0:=(a0a HK2.out 0).trans rfl;have c1:=(a0a HK2.out 1).trans rfl;have c2:=(a0a HK2.out 2).trans rfl;have HR2:=Lib.hid hr2;have HG2:=Lib.hid hg2;have HA2:=Lib.hid hat2;have HW2:=Lib.hid hb2;clear hr2 hb2 hg2 hat2);have hap:=H.out.1.2.2.1
       have HKp:Hid (Kp w.heap.size w.heap.size w2 (.slice (some ⟨g,0,none⟩) n cap) ys):=
        (H1.out.below ((Below.refl _ _).alloc (Nat.le_refl _) _)).grown HG2.out (λ e=>(hap _ e.symm).1 rfl) (λ k hk e=>(hap _ e.symm).2 hk)
       have HAP:Hid (∀ k,v2.ownBlock=some k->k≠w.heap.size/\(Value.slice (some ⟨g,0,none⟩) n cap).ownBlock≠some k):=by
        intro k hk;rcases HA2.out with ha | ⟨b,hb,hle⟩
        · exact hap k (by rw[<- ha];exact hk)
        · rw[hb] at hk;injection hk with hk
          subst hk;have h1:=a0g H1.out.blk;have h2:=Kd.R_lt H1.out.row;simp at hle;exact⟨by omega,λ e=>by have:=h2 _ e;omega⟩
       have HGX:Hid (GK x):=by rw[HX.out];exact H.out.1.2.2.2.1.good.get 0 (by rw[HN.out];omega)
       have HYL:Hid (ys.length=n):=H1.out.len.symm;have HPr:Hid (0<xs.length):=by show _<_;rw[HN.out];omega
       clear hap c0 c1 c2
       by_cases hl:x.1+1=2*x.2.1
       · have HLX:=Lib.hid hl;clear hl;refine(c0F x.1 x.2.1 x.2.2 _ HGX.out HLX.out).mono ?_;rintro e w3 ⟨rfl,hb3⟩
         have HP3:Hid (a6K w.heap.size w.heap.size q w (outs++[x]) (.slice (some ⟨g,0,none⟩) n cap) v2 ys (w3.alloc (.cells #[.int .i64 0,.int .i64 0,.int .i64 0] 266))/\(ys.flatMap a1r).length<gk):=by
          have hb4:=hb3.trans ((Below.refl w2.heap.size w3).alloc hb3.size (.cells #[.int .i64 0,.int .i64 0,.int .i64 0] 266));refine⟨⟨HKp.out.below hb4,Kd.R_below HR2.out hb4,HAP.out,?_,HW2.out.trans (hb4.mono HW2.out.size)⟩,?_⟩
          · have:=H.out.1.2.2.2.1.last HPr.out (by rw[<- HX.out];exact HY.out) (by rw[HYL.out];exact HF.out) (by rw[<- HX.out];exact HLX.out);rw[<- HX.out] at this;exact this
          · have h1:=(HY.out.flatMap_right a1r).length_eq;rw[List.flatMap_cons,b3e HLX.out] at h1;have h2:=H.out.2;simp only[List.length_append,List.length_cons,List.length_nil] at h1;omega
         clear hb3;go_wp2_with fail;go_roundg (gk-1)
         case measure=>have:=HP3.out.2;omega
         case rel=>exact⟨_,_,_,HP3.out.1,by have:=HP3.out.2;omega⟩
       · have HLX:=Lib.hid hl;clear hl;refine(c0G x.1 x.2.1 x.2.2 _ HGX.out HLX.out).mono ?_;rintro e w3 ⟨rfl,hb3⟩;have HP3:Hid (Below w2.heap.size w2 (w3.alloc (.cells #[.int .i64 (x.1+1),.int .i64 x.2.1,.int .i64 x.2.2] 266))):=hb3.trans ((Below.refl w2.heap.size w3).alloc hb3.size _);clear hb3;have HYG:Hid (All GK ys):=λ y hy=>H.out.1.2.2.2.1.good y (HY.out.subset (List.mem_cons_of_mem _ hy));go_wp2_with fail;refine(b2Z ordK (x.1+1,x.2.1,x.2.2) _ (HKp.out.below HP3.out) (Nat.le_trans HW2.out.size HP3.out.size) (by rw[HYL.out];omega) HYG.out (a6I HGX.out HLX.out) (by rw[HYL.out];exact HF.out)).mono ?_;rintro e w4 ⟨rfl,v5,zs,h1,h2,h3,h4,h5⟩
         have HP4:Hid (a6K w.heap.size w.heap.size q w (outs++[x]) v5 v2 zs w4/\(zs.flatMap a1r).length<gk):=by
          have hlt:=λ k hk=>Kd.R_lt (Kd.R_below HR2.out HP3.out) k hk;refine⟨⟨h1,a2G rfl (Kd.R_below HR2.out HP3.out) h5 (λ k hk e=>e.elim (HAP.out k hk).1 (HAP.out k hk).2),λ k hk=>⟨(HAP.out k hk).1,λ e=>?_⟩,?_,(HW2.out.trans (HP3.out.mono HW2.out.size)).trans ((HKp.out.below HP3.out).only_below (Nat.le_refl _) h5 (Nat.le_trans HW2.out.size HP3.out.size))⟩,?_⟩
          · rcases h4 with h4 | ⟨b,hb,hle⟩
            · exact(HAP.out k hk).2 (h4 ▸ e)
            · rw[hb] at e;injection e with e
              have:=hlt k hk;omega
          · have:=H.out.1.2.2.2.1.more (ys:=ys) (zs:=zs) HPr.out (by rw[<- HX.out];exact HY.out) (by rw[<- HX.out];exact HLX.out) (by rw[<- HX.out];exact h2) h3;rw[<- HX.out] at this;exact this
          · have e1:=(HY.out.flatMap_right a1r).length_eq;have e2:=(h2.flatMap_right a1r).length_eq;have hb:=rightB_iff.1 HGX.out;have:=HLX.out;rw[List.flatMap_cons,b3f (by omega)] at e1;rw[List.flatMap_cons] at e2;have:=H.out.2;simp only[List.length_append,List.length_cons,List.cons_append] at e1 e2;omega
         clear h1 h2 h3 h4 h5;go_wp2_with fail;go_roundg (gk-1)
         case measure=>have:=HP4.out.2;omega
         case rel=>exact⟨_,_,_,HP4.out.1,by have:=HP4.out.2;omega⟩
theorem a1A {q:List Int} (h:logC q≠0):Good q:=by
 have h1:=a8U h;have h2:=a1K (a1M (a1d q))
 have hr:a0S q=true:=by
  cases e:a0S q with
  | true=>rfl
  | false=>unfold a1d at h1 h2;rw[e] at h1 h2;simp at h1 h2;omega
 have h3:a1d q=q.sum:=by unfold a1d;rw[if_pos hr]
 obtain⟨a,b,c⟩:=rightC_iff.1 hr;exact⟨a,b,by omega⟩
def symsL (q:List Int):List Int:=(a0t q).map (λ x=>x.2.2)
def c0L (q:List Int) (w:World) (e:Ending) (w':World):Prop:=
 (logC q=0->e=.returned (.tuple #[.slice none 0 0,.int .i64 1]))/\(logC q≠0->∃ v,e=.returned (.tuple #[v,.int .i64 0])/\(Kd.int .u8).R 5 w' w.heap.size (λ _=>True) v (symsL q))/\Below w.heap.size w w'
theorem b3l {q:List Int} (hq:Good q):(a0t q).length<=4096:=by
 have h1:=(a3l hq).length_eq;have h2:=a6H hq.nonneg;have h3:=hq.sum;omega
theorem b3m {q:List Int} (hq:Good q) (k:Nat) (hk:k<(a0t q).length):0<=((a0t q).getD k z3).2.2/\((a0t q).getD k z3).2.2<256:=by
 have hm:(a0t q).getD k z3∈a0t q:=by rw[List.getD_eq_getElem?_getD,List.getElem?_eq_getElem hk];exact List.getElem_mem hk
 have:=rightB_iff.1 (a3I hq _ ((a3l hq).subset hm));omega
theorem c0M {q:List Int} {k:Nat} (hk:k<(a0t q).length):(symsL q).take (k+1)=(symsL q).take k++[((a0t q).getD k z3).2.2]:=by
 have h:k<(symsL q).length:=by unfold symsL;simpa using hk
 rw[List.take_succ_eq_append_getElem h]
 congr 2
 rw[List.getD_eq_getElem?_getD,List.getElem?_eq_getElem hk];simp[symsL]
theorem a6M (A:Option Addr) (c:Nat) (q:List Int) (w:World) (hr:(Kd.int .i64).C w A q.length q) :
    Calls Tryz.prog 216 #[.slice A q.length c] w (c0L q w):=by
 have HR:=Lib.hid hr;clear hr
 by_cases hl:logC q≠0
 · have hd:decide (logC q≠0)=true:=decide_eq_true hl;have HQ:=Lib.hid (a1A hl);have HL:=Lib.hid hl;clear hl;go_enter Tryz.func216,Tryz.ntmps216;go_wp2_with fail;refine(a5x _ _ _ _ HR.out).mono ?_;unfold a6F;rw[hd];rintro e w' ⟨rfl,rfl⟩;clear hd;go_wp2_with fail;refine(c0K _ _ _ _ HQ.out HR.out).mono ?_;rintro e w1 ⟨vo,rfl,hv,hb⟩;obtain⟨A1,c1,rfl⟩:=Kd.R_slice hv;have HC:=Lib.hid (Kd.R_reads' hv).2.2;have HB:=Lib.hid hb;have HN:=Lib.hid (b3l HQ.out);have hn:=HN.out;clear hv hb;go_wp2_with fail;go_loopw [6,19] (λ v kv wr=>∃ (k:Nat),kv=.int .i64 k/\k<=(a0t q).length/\Hid ((Kd.int .u8).R 5 wr w1.heap.size (λ _=>True) v ((symsL q).take k)/\Below w1.heap.size w1 wr)) (λ _ kv _=>(a0t q).length-(intOf kv).toNat)
   case atStart=>exact⟨0,rfl,by omega,Kd.R_nil _ _ _ _ _,Below.refl _ _⟩
   case round=>
    obtain⟨k,rfl,hk,H⟩:=hrel
    by_cases hlt:k<(a0t q).length
    · obtain⟨ad,rfl,cx1,cx2,cx3⟩:=k3_at (Kd.C_below HC.out H.out.2) k hlt;have hs:=b3m HQ.out k hlt;obtain⟨x,hx⟩:∃ x,x=(a0t q).getD k z3:=⟨_,rfl⟩;rw[<- hx] at cx1 cx2 cx3 hs;have HX:=Lib.hid hx;obtain⟨hs1,hs2⟩:=hs;clear hx;have HV:=Lib.hid (Kd.R_alloc H.out.1 (.cells #[.int .i64 x.1,.int .i64 x.2.1,.int .i64 x.2.2] 266));have HB2:=Lib.hid (H.out.2.alloc H.out.2.size (.cells #[.int .i64 x.1,.int .i64 x.2.1,.int .i64 x.2.2] 266));have HLn:Hid ((((symsL q).take k).length+1)*1<=140737488355328):=by show _<=_;rw[List.length_take];omega
      go_wp2_with (at_builtin;refine a6s .u8 (w0:=w1) (W:=wr.alloc (.cells #[.int .i64 x.1,.int .i64 x.2.1,.int .i64 x.2.2] 266)) rfl (.tmp 23) (.tmp 27) 22 5 1 rfl Tryz.underlying22 a0I (by decide) u6 _ x.2.2 rfl (by simp[go_sem]) HV.out HB2.out HLn.out ?_;intro v2 w2 hr2 hb2 hg2 hat2;have HR2:=Lib.hid hr2;have HW2:=Lib.hid hb2;have HG2:=Lib.hid hg2;clear hr2 hb2 hg2 hat2);go_roundw
      case rel=>
       refine⟨k+1,by go_num,by omega,?_,HW2.out⟩;rw[c0M hlt,<- HX.out];exact HR2.out
      case measure=>simp[intOf];omega
    · go_wp2_with fail;go_ret2;have hk':(symsL q).take k=symsL q:=by rw[List.take_of_length_le];simp[symsL];omega
      exact⟨λ h=>absurd h HL.out,λ _=>⟨_,rfl,by rw[<- hk'];exact Kd.R_lower H.out.1 HB.out.size⟩,HB.out.trans (H.out.2.mono HB.out.size)⟩
 · have hd:decide (logC q≠0)=false:=decide_eq_false hl;have HL:=Lib.hid hl;clear hl;go_enter Tryz.func216,Tryz.ntmps216;go_wp2_with fail;refine(a5x _ _ _ _ HR.out).mono ?_;unfold a6F;rw[hd];rintro e w' ⟨rfl,rfl⟩;clear hd;go_wp2_with fail;go_ret2;exact⟨λ _=>rfl,λ h=>absurd h HL.out,Below.refl _ _⟩
end Go.Proofs.YtflfjpkmjnnodaaGreat
namespace Go.Proofs.YtflfjpkmjnnodaaGreat
open Go.RowKit Go.ChangeMaps Go.MapKept
open Go.WideElems (Fit rd rg pl rd_val elemAt)
open Go.Maps
def tok (v:Value):Option (DataW Value×List MemPlace):=some (.held v,[])
def held? (o:Option Value) (z:DataW Value):DataW Value:=match o with | some v=>.held v | none=>z
def MapB (P:Program) (k:TypeId) (q:IntKind) (o:Option Obj) (n:Nat) (f:Int->Option Value):Prop:=
 ∃ es clock,o=some (.map es clock)/\Fit P k tok es clock/\es.size<=n/\∀ i,(Lit.int q i).wf=true->∀ z,(DataW.map ((es.toList.map (rg P k tok)).foldr DataW.insert [])).atKey (.int q i) z=held? (f i) z
def upd (f:Int->Option Value) (i:Int) (u:Value):Int->Option Value:=λ j=>if j=i then some u else f j
theorem a3J (f:Int->Option Value) (i:Int) (u:Value):upd f i u i=some u:=by simp[upd]
theorem a3K (f:Int->Option Value) {i j:Int} (u:Value) (h:j≠i):upd f i u j=f j:=by simp[upd,h]
section
variable {P:Program} {k t e:TypeId} {q:IntKind} {n:Nat} {f:Int->Option Value}
theorem a8Y:MapB P k q (some (.map #[] 0)) 0 (λ _=>none):=⟨#[],0,rfl,⟨by simp,stamped_empty 0,by simp⟩,Nat.le_refl _,λ _ _ _=>rfl⟩
theorem b3n {o:Option Obj} {m:Nat} (h:MapB P k q o n f) (hm:n<=m):MapB P k q o m f:=by
 obtain⟨es,cl,a,b,c,d⟩:=h;exact⟨es,cl,a,b,Nat.le_trans c hm,d⟩
theorem a5y (hk:P.underlying k=some (.int q)) (ht:P.underlying t=some (.map k e)) {z:Value} {i:Int} (hi:(Lit.int q i).wf=true) {w:World} {b:Nat} (hz:(zeroValue e).run P w=.ok z w) (h:MapB P k q w.heap[b]? n f) :
    (Instr.lookup t (.map (some b)) (.int q i) false).run P w=.ok ((f i).getD z) w:=by
 obtain⟨es,cl,hb,F,_,hat⟩:=h;have hat:=hat i hi;rcases Maps.fit_look false (int_keyed hk) ht hz hb F (keyOf_int_mk hk hi) with ⟨hrun,_,h1⟩ | ⟨e0,y,_,_,hrun,hR,h1,_⟩
 · cases hf:f i with
   | none=>exact hrun
   | some v=>
    have:=h1 .nil;rw[hat .nil,hf] at this
    cases this
 · cases hf:f i with
   | none=>
    have h2:=h1 .nil;have h3:=h1 (.held (.int .i64 0));rw[hat,hf] at h2 h3;rw[<- h3] at h2
    cases h2
   | some v=>
    have h2:=h1 .nil;rw[hat .nil,hf] at h2
    cases hR
    cases h2
    exact hrun
theorem a5z (hk:P.underlying k=some (.int q)) (ht:P.underlying t=some (.map k e)) {i:Int} (hi:(Lit.int q i).wf=true) {w:World} {b:Nat} (h:MapB P k q w.heap[b]? n f) (hn:n<maxLen) (u:Value) :
    ∃ w',(Instr.mapUpdate t (.map (some b)) (.int q i) u).run P w=.ok () w'/\MapB P k q w'.heap[b]? (n+1) (upd f i u)/\w.grownBy w' (some b)/\w'.heap.size=w.heap.size:=by
 obtain⟨es,cl,hb,F,hs,hat⟩:=h;obtain⟨es',clock',hrun,F',hput,_⟩:=Maps.fit_store (R':=tok) (int_keyed hk) ht hb F (Nat.lt_of_le_of_lt hs hn) (λ _ _ _ _ hz=>hz) (keyOf_int_mk hk hi) (yv:=(.held u,[])) (val:=u) rfl;refine⟨_,hrun,⟨es',clock',heap_setBlock_same hb _,F',?_,?_⟩,⟨rfl,rfl,rfl,by simp[setBlock],λ i _ hi=>heap_setBlock_other hb _ (λ e=>hi (by rw[e]))⟩,by simp[setBlock]⟩
 · have e1:es'.size=((es'.toList.map (rg P k tok)).foldr DataW.insert []).length:=by rw[length_sorted];simp
   rw[e1,hput];unfold ChangeMaps.putKey;rw[length_insert];have e2:=List.length_filter_le (ChangeMaps.notKey (.int q i)) ((es.toList.map (rg P k tok)).foldr DataW.insert []);rw[length_sorted] at e2;simp at e2;omega
 · intro j hj z;rw[hput,<- DataW.put_eq]
   by_cases hij:j=i
   · subst hij;rw[a3J,Maps.atKey_put_same (k:=.int q j) ⟨_,rfl⟩ (by trivial)];rfl
   · rw[a3K _ _ hij,Maps.atKey_put_other (by intro e;cases e;exact hij rfl)];exact hat j hj z
end
end Go.Proofs.YtflfjpkmjnnodaaGreat
namespace Go.Proofs.YtflfjpkmjnnodaaGreat
open Go.RowKit Go.Proofs.YtflfjpkmjnnodaaGreatW.PrintWords
def posN (l:List Int) (s:Int) (k:Nat):List Int:=((List.range k).filter (λ j=>decide (l.getD j (-1)=s))).map Int.ofNat
theorem a8Z (l:List Int) (s:Int):posN l s 0=[]:=rfl
theorem a2H {l:List Int} {s:Int} {k:Nat} (h:l.getD k (-1)=s):posN l s (k+1)=posN l s k++[(k:Int)]:=by
 unfold posN;rw[List.range_succ,List.filter_append,List.map_append];have:[k].filter (λ j=>decide (l.getD j (-1)=s))=[k]:=by simp only[List.filter_cons,List.filter_nil,h,decide_true];rfl
 rw[this];rfl
theorem a3L {l:List Int} {s:Int} {k:Nat} (h:l.getD k (-1)≠s):posN l s (k+1)=posN l s k:=by
 unfold posN;rw[List.range_succ,List.filter_append,List.map_append];have:[k].filter (λ j=>decide (l.getD j (-1)=s))=[]:=by simp only[List.filter_cons,List.filter_nil,h,decide_false];rfl
 rw[this];simp
theorem b3o (l:List Int) (s:Int) (k:Nat):(posN l s k).length<=k:=by
 unfold posN;rw[List.length_map];exact Nat.le_trans (List.length_filter_le _ _) (by simp)
def a1k (q:List Int) (s:Int):List Int:=posN (symsL q) s (symsL q).length
def nilS:Value:=.slice none 0 0
def rowOf (f:Int->Option Value) (s:Int):Value:=(f s).getD nilS
structure Rows (w:World) (base:Nat) (ok:Nat->Prop) (f:Int->Option Value) (l:List Int) (k:Nat):Prop where
 row:∀ s:Int,0<=s->s<256->(Kd.int .i64).R 3 w base ok (rowOf f s) (posN l s k)
 apart:∀ s s':Int,0<=s->s<256->0<=s'->s'<256->s≠s'->(rowOf f s).ownBlock=none\/(rowOf f s).ownBlock≠(rowOf f s').ownBlock
def EtabAt (lo hi:Nat) (w:World) (tb:Nat) (q:List Int):Prop:=
 ∃ (b n:Nat) (f:Int->Option Value),lo<=b/\b<hi/\lo<=tb/\tb<hi/\w.heap[tb]?=some (.cells #[.int .i64 (logC q),.map (some b)] 259 (0,0)) /\
  MapB Tryz.prog 5 .u8 w.heap[b]? n f/\∀ s:Int,0<=s->s<256->(Kd.int .i64).R 3 w lo (λ k=>lo<=k/\k<hi) (rowOf f s) (a1k q s)
theorem EtabAt.agree {lo hi:Nat} {w w':World} {tb:Nat} {q:List Int} (h:EtabAt lo hi w tb q) (ha:∀ k,lo<=k->k<hi->w'.heap[k]?=w.heap[k]?):EtabAt lo hi w' tb q:=by
 obtain⟨b,n,f,h1,h2,h3,h4,h5,h6,h7⟩:=h;exact⟨b,n,f,h1,h2,h3,h4,(ha _ h3 h4).trans h5,by rw[ha _ h1 h2];exact h6,λ s s0 s1=>Kd.R_step (h7 s s0 s1) (λ k hk _=>ha k hk.1 hk.2)⟩
def a9a (q:List Int) (w:World) (e:Ending) (w':World):Prop:=
 (logC q=0->e=.returned (.tuple #[.pointer none,.int .i64 1]))/\(logC q≠0->∃ tb,e=.returned (.tuple #[.pointer (some ⟨tb,0,none⟩),.int .i64 0])/\EtabAt w.heap.size w'.heap.size w' tb q)/\Below w.heap.size w w'
theorem c0N (w:World) (base:Nat) (l:List Int):Rows w base (λ _=>True) (λ _=>none) l 0:=
 ⟨λ _ _ _=>Kd.R_nil _ _ _ _ _,λ _ _ _ _ _ _ _=>.inl rfl⟩
theorem c0O {w w1 w2:World} {base:Nat} {f:Int->Option Value} {l:List Int} {k:Nat} {s:Int} {v1:Value} {bm:Nat} (h:Rows w base (λ _=>True) f l k) (hs:0<=s/\s<256) (hl:l.getD k (-1)=s)
    (h1:(Kd.int .i64).R 3 w1 base (λ _=>True) v1 (posN l s k++[(k:Int)])) (hg:w.grownBy w1 (rowOf f s).ownBlock) (hat:v1.ownBlock=(rowOf f s).ownBlock\/∃ b,v1.ownBlock=some b/\w.heap.size<=b)
    (hg2:w1.grownBy w2 (some bm)) (hbm:bm<base):Rows w2 base (λ _=>True) (upd f s v1) l (k+1):=by
 have far:∀ {u:Value} {xs:List Int},(Kd.int .i64).R 3 w1 base (λ _=>True) u xs->(Kd.int .i64).R 3 w2 base (λ _=>True) u xs:=λ {u xs} hu=>
  Kd.R_grown1 hu rfl hg2 (λ e=>by have:=(Kd.R_bound hu).1 bm e.symm;omega)
 have hlt:∀ s':Int,0<=s'->s'<256->∀ g,(rowOf f s').ownBlock=some g->g<w.heap.size:=λ s' a b g hg=>((Kd.R_bound (h.row s' a b)).1 g hg).2.2.1;refine⟨λ s' a b=>?_,λ s1 s2 a b c d hne=>?_⟩
 · by_cases e:s'=s
   · subst e;rw[a2H hl];unfold rowOf;rw[a3J];exact far h1
   · rw[a3L (by rw[hl];exact λ x=>e x.symm)];unfold rowOf;rw[a3K _ _ e];refine far ?_;rcases h.apart s' s a b hs.1 hs.2 e with x | x
     · refine Kd.R_mono (Kd.R_grown (Kd.R_tight rfl (h.row s' a b)) hg (λ k hk=>?_)) (λ _ _=>trivial);have:some k=(rowOf f s').ownBlock:=hk;rw[x] at this;cases this
     · exact Kd.R_grown1 (h.row s' a b) rfl hg (λ y=>x y.symm)
 · by_cases e1:s1=s
   · subst e1;have e2:s2≠s1:=λ x=>hne x.symm;unfold rowOf;rw[a3J,a3K _ _ e2]
     show v1.ownBlock=none\/v1.ownBlock≠(rowOf f s2).ownBlock
     rcases hat with x | ⟨g,x,y⟩
     · rw[x];exact h.apart s1 s2 a b c d hne
     · right;rw[x];intro z;have:=hlt s2 c d g z.symm;omega
   · by_cases e2:s2=s
     · subst e2;unfold rowOf;rw[a3J,a3K _ _ e1]
       show(rowOf f s1).ownBlock=none\/(rowOf f s1).ownBlock≠v1.ownBlock
       rcases hat with x | ⟨g,x,y⟩
       · rw[x];exact h.apart s1 s2 a b c d hne
       · cases hz:(rowOf f s1).ownBlock with
         | none=>exact .inl rfl
         | some g'=>right;rw[x];intro z;cases z;have:=hlt s1 a b g hz;omega
     · unfold rowOf;rw[a3K _ _ e1,a3K _ _ e2];exact h.apart s1 s2 a b c d hne
theorem c0P (w:World):(zeroValue 84).run Tryz.prog w=.ok nilS w:=by kernel_rfl
theorem wf_u8 {s:Int} (h0:0<=s) (h1:s<256):(Lit.int .u8 s).wf=true:=by
 have a:IntKind.u8.min=0:=rfl;have b:IntKind.u8.max=255:=rfl;simp only[Lit.wf,a,b,Bool.and_eq_true,decide_eq_true_eq];omega
theorem a3M {q:List Int} (hq:Good q) (k:Nat) (hk:k<(symsL q).length):0<=(symsL q).getD k 0/\(symsL q).getD k 0<256/\(symsL q).getD k (-1)=(symsL q).getD k 0:=by
 have hk':k<(a0t q).length:=by simpa [symsL] using hk
 have:=b3m hq k hk'
 have e:(symsL q).getD k 0=((a0t q).getD k z3).2.2:=by
  unfold symsL;rw[List.getD_eq_getElem?_getD,List.getElem?_map,List.getD_eq_getElem?_getD,List.getElem?_eq_getElem hk'];rfl
 rw[e];refine⟨this.1,this.2,?_⟩;rw[<- e,List.getD_eq_getElem?_getD,List.getD_eq_getElem?_getD,List.getElem?_eq_getElem hk];rfl
theorem a9b {q:List Int} (hq:Good q):(symsL q).length<=4096:=by have:=b3l hq;simpa [symsL] using this
structure NewRel (q:List Int) (w1:World) (bm k:Nat) (f:Int->Option Value) (wr:World):Prop where
 mapB:MapB Tryz.prog 5 .u8 wr.heap[bm]? k f
 rows:Rows wr (bm+2) (λ _=>True) f (symsL q) k
 blk:wr.heap[bm+1]?=some (.cells #[.int .i64 (logC q),.map (some bm)] 259 (0,0))
 below:Below w1.heap.size w1 wr
 lt:bm+2<=wr.heap.size
theorem c0Q (q:List Int) (w1:World) (bm:Nat) (hbm:bm=w1.heap.size):NewRel q w1 bm 0 (λ _=>none) ((w1.alloc (.map #[] 0)).alloc (.cells #[.int .i64 (logC q),.map (some bm)] 259)):=by
 subst hbm;have e:(w1.alloc (.map #[] 0)).heap.size=w1.heap.size+1:=by simp
 refine⟨?_,c0N _ _ _,?_,((Below.refl _ _).alloc (Nat.le_refl _) _).alloc (by omega) _,by simp⟩
 · rw[a0o (a0i w1 (.map #[] 0))];exact a8Y
 · have:=a0i (w1.alloc (.map #[] 0)) (.cells #[.int .i64 (logC q),.map (some w1.heap.size)] 259);rw[e] at this;exact this
theorem c0R {q:List Int} {w1 wr wa w2:World} {bm k:Nat} {f:Int->Option Value} {x:Int} {vr v1:Value} (h:NewRel q w1 bm k f wr) (hv:vr=rowOf f x) (hx:0<=x/\x<256) (hl:(symsL q).getD k (-1)=x)
    (h1:(Kd.int .i64).R 3 wa (bm+2) (λ _=>True) v1 (posN (symsL q) x k++[(k:Int)])) (hg:wr.grownBy wa vr.ownBlock) (hat:v1.ownBlock=vr.ownBlock\/∃ b,v1.ownBlock=some b/\wr.heap.size<=b)
    (hm:MapB Tryz.prog 5 .u8 w2.heap[bm]? (k+1) (upd f x v1)) (hg2:wa.grownBy w2 (some bm)) (hB:w1.heap.size<=bm:=by assumption):NewRel q w1 bm (k+1) (upd f x v1) w2:=by
 subst hv;have hne:∀ j,j<bm+2->some j≠(rowOf f x).ownBlock:=λ j hj e=>by have:=(Kd.R_bound (h.rows.row x hx.1 hx.2)).1 j e.symm;omega
 have hge:∀ j,(rowOf f x).ownBlock=some j->bm+2<=j:=λ j e=>((Kd.R_bound (h.rows.row x hx.1 hx.2)).1 j e).2.1;have hs:=h.below.size;refine⟨hm,c0O h.rows hx hl h1 hg hat hg2 (by omega),a1g (a1g h.blk hg (hne _ (by omega))) hg2 (by simp),?_,Nat.le_trans h.lt (Nat.le_trans hg.size hg2.size)⟩;exact(h.below.grown hg hs (λ j e=>by have:=hge j e;omega)).grown hg2 (Nat.le_trans hs hg.size) (λ j e=>by cases e;exact hB)
theorem c0S {q:List Int} {w w1 wr:World} {bm:Nat} {f:Int->Option Value} (hb:Below w.heap.size w w1) (hl:logC q≠0) (hbm:bm=w1.heap.size) (h:NewRel q w1 bm (symsL q).length f wr) :
    a9a q w (.returned (.tuple #[.pointer (some ⟨bm+1,0,none⟩),.int .i64 0])) wr:=by
 have hs:=hb.size;have hl2:=h.lt;refine⟨λ e=>absurd e hl,λ _=>⟨bm+1,rfl,bm,(symsL q).length,f,by omega,by omega,by omega,by omega,h.blk,h.mapB,λ s a b=>?_⟩,hb.trans (h.below.mono hs)⟩;exact Kd.R_mono (Kd.R_bound (Kd.R_lower (h.rows.row s a b) (by omega))) (λ k hk=>⟨hk.2.1,hk.2.2.1⟩)
theorem lookT (b n:Nat) (f:Int->Option Value) (x:Int) (W:World) (hx:(Lit.int .u8 x).wf=true) (h:MapB Tryz.prog 5 .u8 W.heap[b]? n f) :
    (Instr.lookup 257 (.map (some b)) (.int .u8 x) false).run Tryz.prog W=.ok (rowOf f x) W:=
 a5y (t:=257) (e:=84) Tryz.underlying5 Tryz.underlying257 hx (c0P W) h
theorem c0T (A:Option Addr) (c:Nat) (q:List Int) (w:World) (hr:(Kd.int .i64).C w A q.length q) :
    Calls Tryz.prog 201 #[.slice A q.length c] w (a9a q w):=by
 have HR:=Lib.hid hr;clear hr;have hmm:=@run_makeMap Tryz.prog
 by_cases hl:logC q≠0
 · have HQ:=Lib.hid (a1A hl);have HL:=Lib.hid hl;have hd:decide (logC q≠0)=true:=decide_eq_true hl;clear hl;go_enter Tryz.func201,Tryz.ntmps201;go_wp2_with fail;refine(a6M _ _ _ _ HR.out).mono ?_;rintro e w1 ⟨_,h2,hb⟩;obtain⟨v,rfl,hv⟩:=h2 HL.out;obtain⟨A1,c1,rfl⟩:=Kd.R_slice hv;have HC:=Lib.hid (Kd.R_reads' hv).2.2;have HB:=Lib.hid hb;clear h2 hv hb;go_wp2_with fail;refine(b3c _ _ _ _ (Kd.C_below HR.out HB.out)).mono ?_;rintro e w' ⟨rfl,rfl⟩;obtain⟨bm,hbm⟩:∃ bm,bm=w1.heap.size:=⟨_,rfl⟩;go_wp2_with fail;have hl2:=lookT;rw[<- hbm];have HBM:=Lib.hid hbm;clear hbm;go_loopw [24] (λ kv wr=>∃ (k:Nat) (f:Int->Option Value),kv=.int .i64 k/\k<=(symsL q).length/\Hid (NewRel q w1 bm k f wr)) (λ kv _=>(symsL q).length-(intOf kv).toNat)
   case atStart=>exact⟨0,λ _=>none,rfl,Nat.zero_le _,c0Q q w1 bm HBM.out⟩
   case round=>
    obtain⟨k,f,rfl,hk,H⟩:=hrel
    by_cases hlt:k<(symsL q).length
    · obtain⟨ad,rfl,hc⟩:=a0v (Kd.C_below HC.out H.out.below) k hlt;have hs:=a3M HQ.out k hlt;obtain⟨x,hx⟩:∃ x,x=(symsL q).getD k 0:=⟨_,rfl⟩;rw[<- hx] at hc hs;obtain⟨hs0,hs1,hs2⟩:=hs;have HX:=Lib.hid hs2;clear hs2 hx;have hcell:wr.cell? ⟨bm+1,1,none⟩=some (.map (some bm)):=(a0a H.out.blk 1).trans rfl;have hcell2:(wr.alloc (.cells #[.int .i64 k] 3)).cell? ⟨bm+1,1,none⟩=some (.map (some bm)):=(a0a (a0o H.out.blk _) 1).trans rfl;have hlen:=a9b HQ.out;have HLn:Hid (((posN (symsL q) x k).length+1)*8<=140737488355328):=by show _<=_;have:=b3o (symsL q) x k;omega
      have HN:Hid (k<maxLen):=by show _<_;unfold maxLen;omega
      have HW:=Lib.hid (wf_u8 hs0 hs1);have HV:=Lib.hid (H.out.rows.row x hs0 hs1);have hlk:(Instr.lookup 257 (.map (some bm)) (.int .u8 x) false).run Tryz.prog wr.drew=.ok (rowOf f x) wr.drew:=hl2 bm k f x wr.drew HW.out H.out.mapB;have hlk2:(Instr.lookup 257 (.map (some bm)) (.int .u8 x) false).run Tryz.prog (wr.alloc (.cells #[.int .i64 k] 3)).drew=.ok (rowOf f x) (wr.alloc (.cells #[.int .i64 k] 3)).drew:=hl2 bm k f x _ HW.out (by rw[show(wr.alloc (.cells #[.int .i64 k] 3)).drew.heap[bm]?=wr.heap[bm]? from Below.heap_alloc wr _ bm (by have:=H.out.lt;omega)];exact H.out.mapB);obtain⟨vr,hvr⟩:∃ vr,vr=rowOf f x:=⟨_,rfl⟩;rw[<- hvr] at hlk hlk2;rw[<- hvr] at HV;have HVR:=Lib.hid hvr;clear hvr hl2;go_wp2_with fail
      have HM:Hid (∀ wa,wr.grownBy wa vr.ownBlock->MapB Tryz.prog 5 .u8 wa.heap[bm]? k f/\wa.cell? ⟨bm+1,1,none⟩=some (.map (some bm))):=λ wa hg=>by
       have hne:∀ j,j<bm+2->some j≠vr.ownBlock:=λ j hj e=>by have:=(Kd.R_bound HV.out).1 j e.symm;omega
       refine⟨?_,(a0a (a1g H.out.blk hg (hne _ (by omega))) 1).trans rfl⟩;rw[hg.block bm (by have:=H.out.lt;omega) (hne _ (by omega))];exact H.out.mapB
      have HSz:=Lib.hid H.out.lt
      go_region_law (first
       | (refine a5r (Kd.int .i64) (w0:=wr) (W:=wr) (bm+2) rfl (.tmp 39) (.tmp 41) 84 3 (.int .i64 0) 8 rfl Tryz.underlying84 a4h rfl (by decide) (by decide) vr _ (k:Int) [.int .i64 k] (λ _=>True) (λ _=>False) rfl rfl rfl (λ _ h=>h.elim) (λ _ _=>trivial) HV.out (Below.refl _ _) HSz.out HLn.out ?_;intro v1 wa hr1 hb1 hg1 hat1;obtain⟨hmB,hca⟩:=HM.out wa hg1;have HR1:=Lib.hid hr1;have HG1:=Lib.hid hg1;have HAT:=Lib.hid hat1;obtain⟨w2,hrun,hm2,hg2,hs2⟩:=a5z (t:=257) Tryz.underlying5 Tryz.underlying257 HW.out hmB HN.out v1;have HM2:=Lib.hid hm2;have HG2:=Lib.hid hg2;clear hr1 hb1 hg1 hat1 hmB hm2 hg2 hs2)
       | fail)
      all_goals
       go_wp2_with fail;go_roundw
       case rel=>
        refine⟨k+1,upd f x v1,by go_num,by omega,?_⟩;exact c0R H.out HVR.out ⟨hs0,hs1⟩ HX.out HR1.out HG1.out HAT.out HM2.out HG2.out (Nat.le_of_eq HBM.out.symm)
       case measure=>simp[intOf];omega
    · have hkk:k=(symsL q).length:=by omega
      subst hkk;go_wp2_with fail;go_ret2;exact c0S HB.out HL.out HBM.out H.out
 · have HL:=Lib.hid hl;clear hl;go_enter Tryz.func201,Tryz.ntmps201;go_wp2_with fail;refine(a6M _ _ _ _ HR.out).mono ?_;rintro e w1 ⟨h1,_,hb⟩;have h3:=h1 (by have:=HL.out;omega);subst h3;go_wp2_with fail;go_ret2;exact⟨λ _=>rfl,λ h=>absurd h HL.out,hb⟩
end Go.Proofs.YtflfjpkmjnnodaaGreat
namespace Go.Proofs.YtflfjpkmjnnodaaGreat
open Go.RowKit Go.Proofs.YtflfjpkmjnnodaaGreatW.PrintWords Go.Proofs.YtflfjpkmjnnodaaGreatW.PrintMore
attribute [local go_sem] a2j a1Z a2k a2a
def a2b (n:Int):Nat:=Lib.bitLen n.toNat
def a0n (n:Int):Nat:=a2b n-1
theorem b3p (n:Int) (w:World) (h0:0<=n) (h1:n<=18446744073709551615):Calls Tryz.prog 240 #[.int .u64 n] w λ e w'=>e=.returned (.int .i64 (a2b n))/\w=w':=
 (c0W n w h0 h1).mono λ _ _ ⟨a,b⟩=>⟨a,b.symm⟩
theorem c0X {n:Int} (h:n<0):a2b n=a2b 0:=by unfold a2b;rw[show n.toNat=0 by omega];rfl
theorem a5A (n:Int) (w:World) (h : -9223372036854775808<=n/\n<=9223372036854775807) :
    Calls Tryz.prog 210 #[.int .i64 n] w λ e w'=>e=.returned (.int .i64 (a2b n))/\w=w':=by
 by_cases h0:0<=n
 · go_enter Tryz.func210,Tryz.ntmps210;go_wp2_with fail;refine(b3p _ _ h0 (by omega)).mono ?_;rintro e w' ⟨rfl,rfl⟩;go_wp2_with fail;go_ret;exact⟨rfl,rfl⟩
 · have HW:=Lib.hid (c0X (n:=n) (by omega));go_enter Tryz.func210,Tryz.ntmps210;go_wp2_with fail;refine(b3p 0 _ (by omega) (by omega)).mono ?_;rintro e w' ⟨rfl,rfl⟩;go_wp2_with fail;go_ret;exact⟨by rw[HW.out];rfl,rfl⟩
theorem c0Y (n:Int) (h:n<=9223372036854775807):a2b n<=64:=by
 unfold a2b;have:Lib.bitLen n.toNat<=64:=Lib.bitLen_le _ 64 (by omega) (by omega);exact this
theorem a6N (n:Int) (w:World) (h : -9223372036854775808<=n/\n<=9223372036854775807) :
    Calls Tryz.prog 193 #[.int .i64 n] w λ e w'=>e=.returned (.int .i64 (a0n n))/\w=w':=by
 have hw:=c0Y n h.2;obtain⟨m,hm⟩:∃ m,m=a2b n:=⟨_,rfl⟩;rw[<- hm] at hw;have HM:=Lib.hid hm;clear hm;have hf:Hid (a0n n=m-1):=by show _=_;unfold a0n;rw[HM.out]
 by_cases h0:m=0
 · have h1:(m:Int)-1<0:=by omega
   go_enter Tryz.func193,Tryz.ntmps193;go_wp2_with fail;refine(a5A _ _ h).mono ?_;rw[<- HM.out];rintro e w' ⟨rfl,rfl⟩;go_wp2_with fail;go_ret;exact⟨a1J (by rw[hf.out];omega),rfl⟩
 · have h1:¬ (m:Int)-1<0:=by omega
   go_enter Tryz.func193,Tryz.ntmps193;go_wp2_with fail;refine(a5A _ _ h).mono ?_;rw[<- HM.out];rintro e w' ⟨rfl,rfl⟩;go_wp2_with fail;go_ret;exact⟨a1J (by rw[hf.out];omega),rfl⟩
end Go.Proofs.YtflfjpkmjnnodaaGreat
namespace Go.Proofs.YtflfjpkmjnnodaaGreat
open Go.RowKit Go.Proofs.YtflfjpkmjnnodaaGreatW.PrintWords
def outC (x c:Nat):Nat:=((List.range 64).find? (λ n=>decide (x<2*c*2^n))).getD 0
theorem a5B {x c n:Nat} (_:0<c) (hn:n<64) (h1:c*2^n<=x) (h2:x<2*c*2^n):outC x c=n:=by
 unfold outC
 have:(List.range 64).find? (λ n=>decide (x<2*c*2^n))=some n:=by
  rw[List.find?_eq_some_iff_append];refine⟨by simpa using h2,List.range n,(List.range' (n+1) (63-n)),?_,?_⟩
  · rw[List.range_eq_range',List.range_eq_range'];have:List.range' 0 64=List.range' 0 n++List.range' (0+n) (64-n):=by rw[List.range'_append_1];congr 1;omega
    rw[this,show 64-n=(63-n)+1 by omega,List.range'_succ];simp
  · intro m hm;simp only[List.mem_range] at hm;simp only[Bool.not_eq_true',decide_eq_false_iff_not,Nat.not_lt];have:2^(m+1)<=2^n:=Nat.pow_le_pow_right (by omega) (by omega)
    calc 2*c*2^m=c*2^(m+1):=by rw[Nat.pow_succ];ac_rfl
     _<=c*2^n:=Nat.mul_le_mul_left _ this
     _<=x:=h1
 rw[this];rfl
theorem a6O {x c:Nat} (hc:0<c) (h:c<=x) (hx:x<100000):c*2^outC x c<=x/\x<2*c*2^outC x c/\outC x c<=17:=by
 have hm:x/c≠0:=by have:=Nat.div_pos h hc;omega
 obtain⟨n,hn⟩:∃ n,n=Nat.log2 (x/c):=⟨_,rfl⟩;have h1:2^n<=x/c:=by rw[hn];exact Nat.log2_self_le hm
 have h2:x/c<2^(n+1):=by rw[hn];exact Nat.lt_log2_self
 have h3:c*2^n<=x:=Nat.le_trans (Nat.mul_le_mul_left _ h1) (Nat.mul_div_le x c)
 have h4:x<2*c*2^n:=by
  have:=(Nat.div_lt_iff_lt_mul hc).1 h2;rw[Nat.pow_succ] at this
  calc x<2^n*2*c:=this
   _=2*c*2^n:=by ac_rfl
 have h5:n<=17:=by
  by_cases e:n<=17
  · exact e
  · have:2^18<=2^n:=Nat.pow_le_pow_right (by omega) (by omega);have:=Nat.div_le_self x c;omega
 rw[a5B hc (by omega) h3 h4];exact⟨h3,h4,h5⟩
theorem a3m (x:Nat):0<x->x<2^64->0<Lib.bitLen x/\2^(Lib.bitLen x-1)<=x/\x<2^Lib.bitLen x:=by
 induction x using Nat.strongRecOn with
 | _ x ih=>
  intro h0 h1
  by_cases h:x=1
  · subst h;decide
  · obtain⟨a,b,c⟩:=ih (x/2) (by omega) (by omega) (by omega);rw[Lib.bitLen_half x (by omega) h1];obtain⟨m,hm⟩:∃ m,Lib.bitLen (x/2)=m+1:=⟨Lib.bitLen (x/2)-1,by omega⟩;rw[hm] at b c ⊢;simp only[Nat.add_sub_cancel] at b;refine⟨by omega,?_,?_⟩
    · rw[show 1+(m+1)-1=m+1 by omega,Nat.pow_succ];omega
    · rw[show 1+(m+1)=(m+1)+1 by omega,Nat.pow_succ];omega
theorem a3n (x:Nat) (h:0<x) (h2:x<2^64):2^a0n x<=x/\x<2^(a0n x+1):=by
 obtain⟨a,b,c⟩:=a3m x h h2;have e:a0n x=Lib.bitLen x-1:=rfl;rw[e,show Lib.bitLen x-1+1=Lib.bitLen x by omega];exact⟨b,c⟩
theorem c0Z (c x:Nat) (hc:0<c) (h:c<=x) (h2:x<2^64):a0n c<=a0n x:=by
 have h1:=a3n c hc (by omega);have h2:=a3n x (by omega) h2
 by_cases hh:a0n c<=a0n x
 · exact hh
 · have:2^(a0n x+1)<=2^a0n c:=Nat.pow_le_pow_right (by omega) (by omega);omega
theorem c1a (x:Nat) (h:x<100000):a0n x<=16:=by
 by_cases h0:0<x
 · have h1:=a3n x h0 (by omega)
   by_cases hh:a0n x<=16
   · exact hh
   · have:2^17<=2^a0n x:=Nat.pow_le_pow_right (by omega) (by omega);omega
 · have:x=0:=by omega
   subst this;decide
theorem c1b {x c fc n:Nat} (hc:0<c) (h16:fc+n<=16) (hc1:2^fc<=c) (_:c<2^(fc+1)) (_:2^(fc+n)<=x) (hx2:x<2^(fc+n+1)) (h:2*c<=x/2^n):outC x c=n+1:=by
 have hp:0<2^n:=Nat.two_pow_pos n;have h1:=(Nat.le_div_iff_mul_le hp).1 h
 refine a5B hc (by omega) (by rw[Nat.pow_succ];calc c*(2^n*2)=2*c*2^n:=by ac_rfl
                                                      _<=x:=h1) ?_
 have h2:2^fc*2^n<=c*2^n:=Nat.mul_le_mul_right _ hc1;rw[<- Nat.pow_add] at h2;have e1:2^(fc+n+1)=2*2^(fc+n):=by rw[Nat.pow_succ];ac_rfl
 have e2:2*c*2^(n+1)=4*(c*2^n):=by rw[Nat.pow_succ];rw[show(4:Nat)=2*2 from rfl];ac_rfl
 omega
theorem c1c {x c fc n:Nat} (hc:0<c) (h16:fc+n<=16) (_:2^fc<=c) (hc2:c<2^(fc+1)) (hx1:2^(fc+n)<=x) (hx2:x<2^(fc+n+1)) (h1:c<=x) (h:x/2^n<c):1<=n/\outC x c=n-1:=by
 have hp:0<2^n:=Nat.two_pow_pos n;have h3:=(Nat.div_lt_iff_lt_mul hp).1 h
 have hn:1<=n:=by
  by_cases e:n=0
  · subst e;simp at h3;omega
  · omega
 obtain⟨m,rfl⟩:∃ m,n=m+1:=⟨n-1,by omega⟩;refine⟨hn,?_⟩;rw[Nat.add_sub_cancel];have e0:c*2^(m+1)=2*(c*2^m):=by rw[Nat.pow_succ];ac_rfl
 have e1:2*c*2^m=2*(c*2^m):=by ac_rfl
 have h2:c*2^(m+1)<2^(fc+1)*2^(m+1):=Nat.mul_lt_mul_of_pos_right hc2 (Nat.two_pow_pos _);have e2:2^(fc+1)*2^(m+1)=2*2^(fc+(m+1)):=by rw[<- Nat.pow_add,show fc+1+(m+1)=(fc+(m+1))+1 by omega,Nat.pow_succ];ac_rfl
 exact a5B hc (by omega) (by omega) (by omega)
theorem c1d (x c:Nat) (w:World) (hc:0<c) (h1:c<=x) (h2:x<100000) :
    Calls Tryz.prog 237 #[.int .i64 x,.int .i64 c] w λ e w'=>e=.returned (.int .i64 (outC x c))/\w=w':=by
 obtain⟨hx1,hx2⟩:=a3n x (by omega) (by omega);obtain⟨hc1,hc2⟩:=a3n c (by omega) (by omega);have hle:=c0Z c x hc h1 (by omega);have h16:=c1a x h2;obtain⟨fc,hfc⟩:∃ m,m=a0n c:=⟨_,rfl⟩;obtain⟨n,hn⟩:∃ n,a0n x=fc+n:=⟨a0n x-fc,by omega⟩;rw[hn] at hx1 hx2 h16;rw[<- hfc] at hc1 hc2;have HN:=Lib.hid hn;have HC:=Lib.hid hfc;clear hn hfc hle;go_enter Tryz.func237,Tryz.ntmps237;go_wp2_with fail;refine(a6N _ _ (by omega)).mono ?_;rintro e w' ⟨rfl,rfl⟩;rw[HN.out];go_wp2_with fail;refine(a6N _ _ (by omega)).mono ?_;rintro e w' ⟨rfl,rfl⟩;rw[<- HC.out];go_wp2_with fail
 · rename_i hh;go_ret;refine⟨a1J ?_,rfl⟩;have hh':2*c<=x/2^n:=by exact_mod_cast hh
   rw[c1b hc h16 hc1 hc2 hx1 hx2 hh'];omega
 · rename_i hh;go_ret;refine⟨a1J ?_,rfl⟩;have hh':x/2^n<c:=by exact_mod_cast hh
   obtain⟨a,b⟩:=c1c hc h16 hc1 hc2 hx1 hx2 h1 hh';rw[b];omega
 · rename_i hh1 hh;go_ret;refine⟨a1J ?_,rfl⟩;have hh':c<=x/2^n:=by exact_mod_cast hh
   have hh1':x/2^n<2*c:=by exact_mod_cast hh1
   have hp:0<2^n:=Nat.two_pow_pos n;rw[a5B hc (by omega) ((Nat.le_div_iff_mul_le hp).1 hh') ((Nat.div_lt_iff_lt_mul hp).1 hh1')];omega
open Go.IntWalk
def a0Z (q:List Int) (x:Int):Nat:=2^logC q+x.toNat
def cntC (q:List Int) (s:Int):Nat:=(a1k q s).length
def a0F (q:List Int) (x s:Int):Nat:=outC (a0Z q x) (cntC q s)
def a1s (q:List Int) (x s:Int):Int:=(a1k q s).getD (a0Z q x/2^a0F q x s-cntC q s) 0
def a1w (q:List Int) (x s:Int):Nat:=a0Z q x%2^a0F q x s
theorem a1Q {q:List Int} (h:logC q≠0):(symsL q).length=2^logC q:=by
 have hq:=a1A h;have h1:=(a3l hq).length_eq;have h2:=a6H hq.nonneg;have h3:=a8U h;have h4:a1d q=q.sum:=by unfold a1d;rw[if_pos (rightC_iff.2 ⟨hq.len,hq.nonneg,by have:=hq.sum;omega⟩)]
 have h5:(symsL q).length=(a0t q).length:=by simp[symsL]
 have h6:((symsL q).length:Int)=((2^logC q:Nat):Int):=by
  rw[h5,h1,h2,<- h4,h3];unfold logC;simp
 exact_mod_cast h6
theorem a4J {q:List Int} (h:logC q≠0) (s:Int):cntC q s<=2^logC q:=by
 have:=b3o (symsL q) s (symsL q).length;rw[a1Q h] at this;unfold cntC a1k;rw[a1Q h];exact this
theorem c1e (n:Int) (h₀:0<=n) (h₁:n<2^62):IntKind.i64.wrap n=n:=i64_in _ (by omega)
theorem c1f (W m:Nat) (hW:W<100000) (hm:m<=17):bits BinOp.and IntKind.i64 W (wrap64 (wrap64 (2^m)-1))%4294967296=((W%2^m:Nat):Int):=by
 have hp:(2:Int)^m<=131072:=by
  have:2^m<=2^17:=Nat.pow_le_pow_right (by omega) hm;have h2:((2^m:Nat):Int)<=131072:=by omega
  simpa using h2
 have hp1:(1:Int)<=2^m:=by
  have:=Nat.two_pow_pos m;have h2:(1:Int)<=((2^m:Nat):Int):=by omega
  simpa using h2
 rw[w64 (n:=2^m) (by omega),w64 (n:=2^m-1) (by omega)];rw[bits_mask .i64 62 (by decide) c1e m (by omega) (W:Int) (by omega) (by omega)];have e:(W:Int)%2^m=((W%2^m:Nat):Int):=by simp
 rw[e];have:=Nat.mod_le W (2^m);omega
theorem c1g (lo hi tb:Nat) (q:List Int) (x s:Int) (w:World) (hT:EtabAt lo hi w tb q) (hl0:logC q≠0) (hx0:0<=x) (hx1:x<2^logC q) (hs0:0<=s) (hs1:s<256) (hn:0<cntC q s) :
    Calls Tryz.prog 199 #[.pointer (some ⟨tb,0,none⟩),.int .i64 x,.int .u8 s] w (Ret (.tuple #[.int .i64 (a1s q x s),.int .i64 (a0F q x s),.int .u32 (a1w q x s),.bool true]) w):=by
 obtain⟨b,n,f,h1,h2,h3,h4,hblk,hM,hR⟩:=hT;have hlk:=lookT b n f s w (wf_u8 hs0 hs1) hM;have hrow:=hR s hs0 hs1;obtain⟨v,hv⟩:∃ v,v=rowOf f s:=⟨_,rfl⟩;rw[<- hv] at hlk hrow;clear hv hR hM;obtain⟨A,c,rfl⟩:=Kd.R_slice hrow;have HC:=Lib.hid (Kd.R_reads' hrow).2.2;clear hrow;have hc0:w.cell? ⟨tb,0,none⟩=some (.int .i64 (logC q)):=(a0a hblk 0).trans rfl;have hc1:w.cell? ⟨tb,1,none⟩=some (.map (some b)):=(a0a hblk 1).trans rfl;obtain⟨y,rfl⟩:∃ y:Nat,x=y:=⟨x.toNat,by omega⟩;have hr12:=a1M (a1d q);obtain⟨r,hr⟩:∃ r,r=logC q:=⟨_,rfl⟩;rw[<- hr] at hx1 hc0;have hr12:r<=12:=by rw[hr];exact a1M _
 have hb3:decide ((y:Int)<0)=false:=by simp
 clear hblk;have hp:=a1K hr12;obtain⟨P,hP⟩:∃ P:Nat,P=2^r:=⟨_,rfl⟩;have hPI:(2:Int)^r=P:=by rw[hP,Int.natCast_pow];rfl
 rw[hPI] at hp hx1;have hp4:P<=4096:=by omega
 have hyP:y<P:=by omega
 have HWR:Hid (wrap64 (2^r)=(P:Int)):=by show _=_;rw[hPI];exact w64 (by omega)
 have hb:decide (wrap64 (2^r)<=(y:Int))=false:=by rw[HWR.out];simp;omega
 clear hp hPI hx1 hx0;obtain⟨N,hN⟩:∃ N,N=a0F q y s:=⟨_,rfl⟩;obtain⟨X,hX⟩:∃ X,X=a1s q y s:=⟨_,rfl⟩;obtain⟨L,hL⟩:∃ L,L=a1w q y s:=⟨_,rfl⟩;rw[<- hN,<- hX,<- hL];obtain⟨l,hl⟩:∃ l,l=a1k q s:=⟨_,rfl⟩;have hcl:cntC q s=l.length:=by rw[hl];rfl
 have hcP:=a4J hl0 s;rw[<- hr,<- hP] at hcP;rw[hcl] at hn hcP;rw[<- hl] at hlk HC;have HNX:=Lib.hid (And.intro hN (And.intro hX hL));have HL:=Lib.hid hl;have HP:=Lib.hid hP;have HR:=Lib.hid hr;have HW2:Hid (wrap64 (wrap64 (2^r)+(y:Int))=((P+y:Nat):Int)):=by show _=_;rw[HWR.out];rw[w64 (by omega)];simp
 clear hP hr;have hb2:((l.length:Int)==0)=false:=by simp;intro e;rw[e] at hn;cases hn
 clear hN hX hL hcl hl;go_enter Tryz.func199,Tryz.ntmps199;go_wp2_with fail;rw[HW2.out];obtain⟨W,hW⟩:∃ W,W=P+y:=⟨_,rfl⟩;rw[<- hW];have hWl:l.length<=W:=by omega
 have hWu:W<100000:=by omega
 have hl4:l.length<=4096:=by omega
 refine(c1d W l.length w hn hWl hWu).mono ?_;obtain⟨o1,o2,o3⟩:=a6O hn hWl hWu;obtain⟨m,hm⟩:∃ m,m=outC W l.length:=⟨_,rfl⟩;rw[<- hm] at o1 o2 o3 ⊢;rintro e w' ⟨rfl,rfl⟩;have HM:=Lib.hid hm;have HWW:=Lib.hid hW;have hp2:0<2^m:=Nat.two_pow_pos m;have p1:=(Nat.le_div_iff_mul_le hp2).2 o1;have p2:=(Nat.div_lt_iff_lt_mul hp2).2 o2;obtain⟨D,hD⟩:∃ D,D=W/2^m:=⟨_,rfl⟩;have hDI:(W:Int)/2^m=(D:Int):=by rw[hD,Int.natCast_ediv,Int.natCast_pow];rfl
 rw[<- hD] at p1 p2;have hjl:D-l.length<l.length:=by omega
 obtain⟨ad,rfl,hcx⟩:=a0v HC.out (D-l.length) hjl
 have hX:X=l.getD (D-l.length) 0:=by
  rw[HNX.out.2.1];unfold a1s a0Z a0F cntC;rw[<- HL.out,<- HR.out,<- HP.out];rw[hD,hm,hW];simp only[Int.toNat_natCast];unfold a0Z;rw[<- HR.out,<- HP.out];simp only[Int.toNat_natCast]
 rw[<- hX] at hcx;have HO:=Lib.hid (And.intro o1 (And.intro o2 o3));have HDD:=Lib.hid hD;have HXX:=Lib.hid hX;clear hm hW hWl hcP hp2 o1 o2 hD hX;obtain⟨j,hj⟩:∃ j,j=D-l.length:=⟨_,rfl⟩;rw[<- hj] at hcx hjl;have hDj:D=l.length+j:=by omega
 have hadd:((D:Int)-(l.length:Int))=(j:Int):=by rw[hDj];simp;omega
 have hj4:j<100000:=by omega
 have hwj:IntKind.i64.wrap (j:Int)=(j:Int):=i64_in _ (by omega);have hji:(j:Int)<(l.length:Int):=by omega
 have HJ:=Lib.hid hj;have HDJ:=Lib.hid hDj;clear hj hDj;go_wp2_with fail;go_region
 all_goals
  go_wp2;rw[c1f W m hWu o3];refine bodyPost_ret (v:=.tuple #[.int .i64 X,.int .i64 N,.int .u32 L,.bool true]) ?_ rfl ⟨rfl,(Below.refl _ _).drew⟩;have e1:m=N:=by rw[HNX.out.1];unfold a0F a0Z;rw[show cntC q s=l.length by rw[HL.out];rfl,HM.out,HWW.out,HP.out,HR.out];simp
  have e2:W%2^m=L:=by rw[HNX.out.2.2];unfold a1w;rw[<- HNX.out.1,e1];unfold a0Z;rw[HWW.out,HP.out,HR.out];simp
  rw[e2,e1];simp[results,Tryz.results199,go_sem]
end Go.Proofs.YtflfjpkmjnnodaaGreat
namespace Go.Proofs.YtflfjpkmjnnodaaGreat
open Go.RowKit Go.Proofs.YtflfjpkmjnnodaaGreatW.PrintWords
theorem c1h (l:List Int) (d:Int):l=(List.range l.length).map (λ j=>l.getD j d):=by
 apply List.ext_getElem
 · simp
 · intro i h1 h2;simp[List.getElem?_eq_getElem h1]
theorem c1i (l:List Int) (s:Int):(posN l s l.length).length=l.count s:=by
 have e:l.count s=((List.range l.length).map (λ j=>l.getD j (-1))).count s:=congrArg (List.count s) (c1h l (-1));rw[e];unfold posN;rw[List.length_map,List.count,List.countP_map,List.countP_eq_length_filter]
 congr 1
theorem b3q {l:List Int} {s:Int} {k:Nat} (hk:k<l.length) (h:l.getD k (-1)=s):(posN l s k).length<(posN l s l.length).length:=by
 have mono:∀ m n,m<=n->(posN l s m).length<=(posN l s n).length:=by
  intro m n hmn
  induction hmn with
  | refl=>exact Nat.le_refl _
  | step _ ih=>
   rename_i n _;refine Nat.le_trans ih ?_
   by_cases e:l.getD n (-1)=s
   · rw[a2H e];simp
   · rw[a3L e];exact Nat.le_refl _
 have:=mono (k+1) l.length hk;rw[a2H h] at this;simp at this;omega
theorem c1j (n:Int) (k:Nat) (s:Int):((a1c n k).map (λ x=>x.2.2)).count s=if s=(k:Int) then n.toNat else 0:=by
 unfold a1c;rw[List.map_map];have:(λ (d:Nat)=>(k:Int))=((λ x:K3=>x.2.2)∘λ (d:Nat)=>((n+d,n,(k:Int)):K3)):=rfl;rw[<- this,List.map_const',List.count_replicate];simp only[List.length_range]
 by_cases e:s=(k:Int)
 · subst e;simp
 · simp[e,show ¬ (k:Int)=s from λ x=>e x.symm]
theorem c1k (q:List Int) (s:Nat):((a0D q).map (λ x=>x.2.2)).count (s:Int)=(q.getD s 0).toNat:=by
 have key:∀ k,k<=q.length->((a0D (q.take k)).map (λ x=>x.2.2)).count (s:Int)=if s<k then (q.getD s 0).toNat else 0:=by
  intro k
  induction k with
  | zero=>intro _;simp[a0D]
  | succ k ih=>
   intro hk;rw[a3k (by omega),List.map_append,List.count_append,ih (by omega),c1j]
   by_cases e:s=k
   · subst e;simp
   · have e2:¬ (s:Int)=(k:Int):=by omega
     by_cases e3:s<k
     · simp[e2,e3,show s<k+1 by omega]
     · simp[e2,e3,show ¬ s<k+1 by omega]
 have h:=key q.length (Nat.le_refl _);rw[List.take_length] at h;rw[h]
 by_cases e:s<q.length
 · simp[e]
 · simp[e]
theorem a1R {q:List Int} (hq:Good q) (s:Nat):cntC q s=(q.getD s 0).toNat:=by
 unfold cntC a1k;rw[c1i,<- c1k q s];unfold symsL;exact((a3l hq).map _).count_eq _
def a0u (q:List Int) (j:Nat):Nat:=(q.getD ((symsL q).getD j 0).toNat 0).toNat+(posN (symsL q) ((symsL q).getD j 0) j).length
theorem b3r {q:List Int} (hq:Good q) (j:Nat) (hj:j<(symsL q).length):0<(q.getD ((symsL q).getD j 0).toNat 0).toNat/\a0u q j<2*(q.getD ((symsL q).getD j 0).toNat 0).toNat:=by
 have hs:=a3M hq j hj;obtain⟨s,hse⟩:∃ s:Nat,(symsL q).getD j 0=s:=⟨((symsL q).getD j 0).toNat,by omega⟩;have h1:=b3q hj hs.2.2;rw[hse] at h1;have h2:=a1R hq s;unfold cntC a1k at h2;unfold a0u;rw[hse];simp only[Int.toNat_natCast];omega
def a0T (q:List Int) (j:Nat):K3:=((symsL q).getD j 0,((logC q-a0n (a0u q j):Nat):Int),(a0u q j:Int)*2^(logC q-a0n (a0u q j))-2^logC q)
def a2c (q:List Int) (k:Nat):List K3:=(List.range k).map (a0T q)
def a0V (q:List Int):List K3:=a2c q (symsL q).length
theorem c1l (q:List Int) (k:Nat):a2c q (k+1)=a2c q k++[a0T q k]:=by unfold a2c;rw[List.range_succ,List.map_append];rfl
theorem a9c {q:List Int} (hl:logC q≠0) (j:Nat) (hj:j<(symsL q).length):0<a0u q j/\a0u q j<100000/\a0n (a0u q j)<=logC q/\2^logC q<=a0u q j*2^(logC q-a0n (a0u q j))/\a0u q j*2^(logC q-a0n (a0u q j))<2*2^logC q:=by
 have hq:=a1A hl;obtain⟨h0,h1⟩:=b3r hq j hj;have hs:=a3M hq j hj;obtain⟨s,hse⟩:∃ s:Nat,(symsL q).getD j 0=s:=⟨((symsL q).getD j 0).toNat,by omega⟩;have h2:=a4J hl s;rw[a1R hq s] at h2;rw[hse] at h0 h1;simp only[Int.toNat_natCast] at h0 h1;have hr:logC q<=12:=a1M _;have hp:2^logC q<=2^12:=Nat.pow_le_pow_right (by omega) hr;have hg0:0<a0u q j:=by unfold a0u;rw[hse];simp only[Int.toNat_natCast];omega
 obtain⟨f1,f2⟩:=a3n (a0u q j) hg0 (by omega)
 have hf:a0n (a0u q j)<=logC q:=by
  by_cases e:a0n (a0u q j)<=logC q
  · exact e
  · have:2^(logC q+1)<=2^a0n (a0u q j):=Nat.pow_le_pow_right (by omega) (by omega);rw[Nat.pow_succ] at this;omega
 refine⟨hg0,by omega,hf,?_,?_⟩
 · calc 2^logC q=2^a0n (a0u q j)*2^(logC q-a0n (a0u q j)):=by rw[<- Nat.pow_add];congr 1;omega
     _<=_:=Nat.mul_le_mul_right _ f1
 · calc _<2^(a0n (a0u q j)+1)*2^(logC q-a0n (a0u q j)):=Nat.mul_lt_mul_of_pos_right f2 (Nat.two_pow_pos _)
     _=2^(logC q+1):=by rw[<- Nat.pow_add];congr 1;omega
     _=_:=by rw[Nat.pow_succ];ac_rfl
open Go.IntWalk
def kc:Kd K3:=Kd.pair (Kd.int .u8) (Kd.pair (Kd.int .i64) (Kd.int .i64))
theorem c1m {w:World} {x:K3} {cs:List Value} (h:kc.K w x cs):cs=[.int .u8 x.1,.int .i64 x.2.1,.int .i64 x.2.2]:=by
 obtain⟨a,b,rfl,rfl,c,d,rfl,rfl,rfl⟩:=h;rfl
theorem c1n (w:World) (base:Nat) (ok:Nat->Prop) (x:K3):kc.M w base ok x [.int .u8 x.1,.int .i64 x.2.1,.int .i64 x.2.2]:=⟨[.int .u8 x.1],[.int .i64 x.2.1,.int .i64 x.2.2],rfl,rfl,[.int .i64 x.2.1],[.int .i64 x.2.2],rfl,rfl,rfl⟩
def b3s (w:World) (a:Addr) (x:K3):Prop:=w.cell? a=some (.int .u8 x.1)/\w.cell? ⟨a.block,a.off+1,none⟩=some (.int .i64 x.2.1)/\w.cell? ⟨a.block,a.off+2,none⟩=some (.int .i64 x.2.2)
theorem kc_at {w:World} {A:Option Addr} {n:Nat} {xs:List K3} (h:kc.C w A n xs) (i:Nat) (hi:i<n):∃ ad,A=some ad/\b3s w (ad.add (i*3)) (xs.getD i z3):=by
 obtain⟨ad,c,e,hl,hr,hc⟩:=ReadsRow.get_ h z3 (i:Int) (by omega) (by omega);obtain rfl:=c1m hr;simp only[Int.toNat_natCast] at hc;refine⟨ad,e,hc 0 _ rfl,?_,?_⟩
 · rw[<- a4z _ _ _ (by decide)];exact hc 1 _ rfl
 · rw[<- a4z _ _ _ (by decide)];exact hc 2 _ rfl
theorem c1o:(Tryz.prog.info? 170).map (λ i=>(i.zero,i.size,i.bytes))=some (some (.agg #[.int .u8 0,.int .i64 0,.int .i64 0]),kc.sz,24):=by kernel_rfl
theorem a6P (κ:IntKind) (e:TypeId) (W:World) (base:Nat) (ok:Nat->Prop) (hb:base<=W.heap.size) (hok:ok W.heap.size):(Kd.int κ).R e (W.alloc (.cells #[] e)) base ok (.slice (some ⟨W.heap.size,0,none⟩) 0 0) []:=by
 refine⟨λ k hk=>by cases hk;exact hok,[],⟨rfl,.inr ⟨W.heap.size,0,#[],rfl,hb,a0i W _,Nat.le_refl _,Nat.zero_le _,rfl,rfl⟩⟩,Reps.none _ _⟩
def a1N (q:List Int) (k:Nat):List Int:=(List.range 256).map (λ s=>q.getD s 0+((posN (symsL q) s k).length:Int))
theorem c1p {q:List Int} (h:q.length=256):a1N q 0=q:=by
 apply List.ext_getElem
 · simp[a1N,h]
 · intro i h1 h2;simp[a1N,a8Z,List.getElem?_eq_getElem h2]
theorem c1q (q:List Int) (k s:Nat) (h:s<256):(a1N q k).getD s 0=q.getD s 0+((posN (symsL q) s k).length:Int):=by
 unfold a1N;rw[List.getD_eq_getElem?_getD,List.getElem?_map,List.getElem?_range h];rfl
theorem b3t (q:List Int) (k i:Nat) (h:i<(a1N q k).length):(a1N q k)[i]=q.getD i 0+((posN (symsL q) i k).length:Int):=by simp[a1N]
theorem c1r {q:List Int} {k s:Nat} (h:(symsL q).getD k (-1)=s):a1N q (k+1)=(a1N q k).set s (q.getD s 0+((posN (symsL q) s k).length:Int)+1):=by
 apply List.ext_getElem
 · simp[a1N]
 · intro i h1 h2;rw[List.getElem_set,b3t]
   by_cases e:s=i
   · subst e;rw[if_pos rfl,a2H h];simp;omega
   · rw[if_neg e,a3L (by rw[h];omega),b3t]
theorem a9d {κ:IntKind} {e base:Nat} {ok:Nat->Prop} {w:World} {v:Value} {xs:List Int} (h:(Kd.int κ).R e w base ok v xs) (hn:0<xs.length):∃ g c,v=.slice (some ⟨g,0,none⟩) xs.length c:=by
 obtain⟨ad,c,rfl⟩:=Kd.R_slice1 h hn;obtain⟨g,rfl⟩:=Kd.R_head h;exact⟨g,c,rfl⟩
theorem a1D {κ:IntKind} {e:TypeId} {W:World} {base:Nat} {ok:Nat->Prop} {g n cap:Nat} {xs:List Int} (h:(Kd.int κ).R e W base ok (.slice (some ⟨g,0,none⟩) n cap) xs) (i:Nat) (hi:i<n) :
    W.cell? ⟨g,i,none⟩=some (.int κ (xs.getD i 0))/\W.frozen? ⟨g,i,none⟩=false:=by
 obtain⟨c,hl,hm,hc,hf⟩:=Kd.R_elem h 0 (i:Int) (by omega) (by omega);have hm':c=[.int κ (xs.getD (i:Int).toNat 0)]:=hm;subst hm';simp only[Int.toNat_natCast] at hc hf;have e1:i*(Kd.int κ).sz+0=i:=by show i*1+0=i;omega
 have h1:=hc 0 _ rfl;have h2:=hf 0;rw[e1] at h1 h2;exact⟨h1,h2⟩
structure OfRel (q:List Int) (w1:World) (g c2 k:Nat) (v:Value) (wr:World):Prop where
 row:(Kd.int .i64).R 3 wr w1.heap.size (λ b=>b=g) (.slice (some ⟨g,0,none⟩) 256 c2) (a1N q k)
 out:kc.R 170 wr w1.heap.size (λ b=>b≠g) v (a2c q k)
 below:Below w1.heap.size w1 wr
theorem c1s {q:List Int} {w1 w2:World} {g c2:Nat} (hq:Good q) (hr:(Kd.int .i64).R 3 w2 w1.heap.size (λ _=>True) (.slice (some ⟨g,0,none⟩) 256 c2) q) (hb:Below w1.heap.size w1 w2):OfRel q w1 g c2 0 (.slice none 0 0) w2:=by
 refine⟨?_,Kd.R_nil _ _ _ _ _,hb⟩;rw[c1p hq.len];exact Kd.R_reok rfl hr (λ k hk=>by cases hk;rfl)
theorem c1u {q:List Int} (hq:Good q) {k x:Nat} (hx:(symsL q).getD k 0=x):q.getD x 0+((posN (symsL q) x k).length:Int)=(a0u q k:Int):=by
 unfold a0u;rw[hx];simp only[Int.toNat_natCast];have:=(hq.get x).1;simp only[Int.natCast_add];omega
theorem of_ge {q:List Int} {w1 wr:World} {g c2 k:Nat} {v:Value} (h:OfRel q w1 g c2 k v wr):w1.heap.size<=g/\g<wr.heap.size:=
 ⟨((Kd.R_bound h.row).1 g rfl).2.1,((Kd.R_bound h.row).1 g rfl).2.2.1⟩
theorem c1v {q:List Int} {w1 wr:World} {g c2 k:Nat} {v:Value} (h:OfRel q w1 g c2 k v wr):∀ j,wr.heap.size<=j->j≠g:=λ j hj e=>by have:=(of_ge h).2;omega
theorem c1w {q:List Int} {w1 wr wa:World} {g c2 k x:Nat} {u v:Value} (h:OfRel q w1 g c2 k v wr) (hg:wr.grownBy wa v.ownBlock) (hx:x<256) (hc:wr.cell? ⟨g,x,none⟩=some u) :
    (Kd.int .i64).R 3 wa w1.heap.size (λ b=>b=g) (.slice (some ⟨g,0,none⟩) 256 c2) (a1N q k)/\wa.cell? ⟨g,x,none⟩=some u/\wa.frozen? ⟨g,x,none⟩=false:=by
 have h1:=Kd.R_grown1 h.row rfl hg (λ e=>h.out.1 g e rfl);have h2:=a1D h1 x hx;have h3:=(a1D h.row x hx).1;rw[hc] at h3;exact⟨h1,by rw[h2.1,<- h3],h2.2⟩
theorem c1x {q:List Int} {w1 wa:World} {g c2 k x y:Nat} {v1:Value} {b:Nat} {E:Int} (hr:(Kd.int .i64).R 3 wa w1.heap.size (λ b=>b=g) (.slice (some ⟨g,0,none⟩) 256 c2) (a1N q k))
    (ho:kc.R 170 wa w1.heap.size (λ b=>b≠g) v1 (a2c q k++[((x:Int),(b:Int),E)])) (hb:Below w1.heap.size w1 wa) (he:a2c q k++[((x:Int),(b:Int),E)]=a2c q (k+1))
    (hs:(symsL q).getD k (-1)=x) (hG:q.getD x 0+((posN (symsL q) x k).length:Int)=(a0u q k:Int)) (hy:y=a0u q k) (hge:w1.heap.size<=g) :
    OfRel q w1 g c2 (k+1) v1 (wa.setCell ⟨g,x,none⟩ (.int .i64 ((y:Int)+1))):=by
 refine⟨?_,?_,hb.setCell hge _⟩
 · rw[c1r hs,hG,<- hy];exact Kd.R_putn hr (x:Int) ((y:Int)+1)
 · rw[he] at ho;exact Kd.R_far (p:=⟨g,x,none⟩) ho (λ k hk=>hk) _
theorem b3u {q:List Int} {k x y r fl b:Nat} (hx:(symsL q).getD k 0=x) (hy:y=a0u q k) (hr:r=logC q) (hfl:fl=a0n y) (hb:r=fl+b) (hu:y*2^(r-fl)<2*2^r) (hr12:r<=12) :
    ((x:Int),(b:Int),IntKind.i64.wrap (IntKind.i64.wrap ((y:Int)*2^b)-IntKind.i64.wrap (2^r)))=a0T q k:=by
 unfold a0T;rw[hx,<- hy,<- hr,<- hfl];rw[show r-fl=b by omega] at hu ⊢;have hp:2^r<=2^12:=Nat.pow_le_pow_right (by omega) hr12;have e1:(y:Int)*2^b=((y*2^b:Nat):Int):=by simp
 have e2:(2:Int)^r=((2^r:Nat):Int):=by simp
 have hy2:y*2^b<=8192:=by omega
 rw[e1,e2];rw[i64_in ((y*2^b:Nat):Int) (by omega),i64_in ((2^r:Nat):Int) (by omega),i64_in (((y*2^b:Nat):Int)-((2^r:Nat):Int)) (by omega)]
def b3v (q:List Int) (w:World) (e:Ending) (w':World):Prop:=
 (logC q=0->e=.returned (.tuple #[.slice none 0 0,.int .i64 1]))/\(logC q≠0->∃ v,e=.returned (.tuple #[v,.int .i64 0])/\kc.R 170 w' w.heap.size (λ _=>True) v (a0V q))/\Below w.heap.size w w'
theorem c1y (A:Option Addr) (c:Nat) (q:List Int) (w:World) (hr:(Kd.int .i64).C w A q.length q) :
    Calls Tryz.prog 171 #[.slice A q.length c] w (b3v q w):=by
 have HR:=Lib.hid hr;clear hr
 by_cases hl:logC q≠0
 · have HQ:=Lib.hid (a1A hl);have HL:=Lib.hid hl;have hd:decide (logC q≠0)=true:=decide_eq_true hl;clear hl;go_enter Tryz.func171,Tryz.ntmps171;go_wp2_with fail;refine(a6M _ _ _ _ HR.out).mono ?_;rintro e w1 ⟨_,h2,hb⟩;obtain⟨v,rfl,hv⟩:=h2 HL.out;obtain⟨A1,c1,rfl⟩:=Kd.R_slice hv;have HC:=Lib.hid (Kd.R_reads' hv).2.2;have HB:=Lib.hid hb;clear h2 hv hb;go_wp2_with fail;refine(b3c _ _ _ _ (Kd.C_below HR.out HB.out)).mono ?_;rintro e w' ⟨rfl,rfl⟩;have HE:=Lib.hid (a6P .i64 3 w1 w1.heap.size (λ _=>True) (Nat.le_refl _) trivial);have HA:=Lib.hid (Kd.C_alloc (Kd.C_below HR.out HB.out) (.cells #[] 3));have HL2:Hid ((([]:List Int).length+q.length)*8<=140737488355328):=by show _<=_;rw[HQ.out.len];decide
   go_wp2_with (at_builtin;refine Kd.R_append_rows (Kd.int .i64) (Rr:=(Kd.int .i64).K (w1.alloc (.cells #[] 3))) (w0:=w1) (W:=w1.alloc (.cells #[] 3)) w1.heap.size rfl (.tmp 22) (.tmp 23) 84 3 (.int .i64 0) 8 rfl Tryz.underlying84 a4h rfl (by decide) (by decide) (.slice (some ⟨w1.heap.size,0,none⟩) 0 0) [] q A q.length c (λ _=>True) (λ _=>False) rfl rfl HE.out HA.out (λ _ _ h=>h) (λ _ h=>h.elim) (λ _ _=>trivial) ((Below.refl _ _).alloc (Nat.le_refl _) _) (by simp) HL2.out ?_;intro vi w2 hr2 hb2 hg2 hat2;have HR2:=Lib.hid hr2;have HB2:=Lib.hid hb2;clear hr2 hb2 hg2 hat2);rw[List.nil_append] at HR2;obtain⟨g,c2,rfl⟩:=a9d HR2.out (by rw[HQ.out.len];decide);rw[HQ.out.len] at HR2;have hql:=HQ.out.len;rw[hql];clear hql HL2 HE HA;go_loopw [8,27] (λ v kv wr=>∃ (k:Nat),kv=.int .i64 k/\k<=(symsL q).length/\Hid (OfRel q w1 g c2 k v wr)) (λ _ kv _=>(symsL q).length-(intOf kv).toNat)
   case atStart=>exact⟨0,rfl,Nat.zero_le _,c1s HQ.out HR2.out HB2.out⟩
   case round=>
    obtain⟨k,rfl,hk,H⟩:=hrel;have hk4:=a9b HQ.out
    by_cases hlt:k<(symsL q).length
    · obtain⟨ad,rfl,hc⟩:=a0v (Kd.C_below HC.out H.out.below) k hlt;have hs:=a3M HQ.out k hlt;obtain⟨x,hx⟩:∃ x:Nat,(symsL q).getD k 0=x:=⟨((symsL q).getD k 0).toNat,by omega⟩;rw[hx] at hc hs;obtain⟨_,hs1,hs2⟩:=hs;have hx256:x<256:=by omega
      obtain⟨hci,hfi⟩:=a1D H.out.row x hx256;rw[c1q q k x hx256] at hci;have hG:Hid (q.getD x 0+((posN (symsL q) x k).length:Int)=(a0u q k:Int)):=c1u HQ.out hx;rw[hG.out] at hci;obtain⟨g1,g2,g3,g4,g5⟩:=a9c HL.out k hlt;obtain⟨y,hy⟩:∃ y,y=a0u q k:=⟨_,rfl⟩;rw[<- hy] at hci g1 g2 g3 g4 g5;obtain⟨r,hr⟩:∃ r,r=logC q:=⟨_,rfl⟩;rw[<- hr] at g3 g4 g5 ⊢;obtain⟨fl,hfl⟩:∃ fl,fl=a0n y:=⟨_,rfl⟩;rw[<- hfl] at g3 g4 g5;obtain⟨b,hb⟩:∃ b,r=fl+b:=⟨r-fl,by omega⟩;have hr12:r<=12:=by rw[hr];exact a1M _
      have HY:=Lib.hid (And.intro hy (And.intro hr (And.intro hfl (And.intro g4 g5))));have HS:=Lib.hid (And.intro hs2 hx);have HB3:=Lib.hid hb;have hbr:(r:Int)-fl=b:=by omega
      have hbn:b<=12:=by omega
      clear hy hr hfl g4 g5 hs2 hx hb;go_wp2_with fail;refine(a6N _ _ (by omega)).mono ?_;rintro e w' ⟨rfl,rfl⟩;rw[<- HY.out.2.2.1];go_wp2_with fail
      have HEL:Hid ((a2c q k++[((x:Int),(b:Int),IntKind.i64.wrap (IntKind.i64.wrap ((y:Int)*2^b)-IntKind.i64.wrap (2^r)))])=a2c q (k+1)):=by
       show _=_
       rw[c1l,b3u HS.out.2 HY.out.1 HY.out.2.1 HY.out.2.2.1 HB3.out HY.out.2.2.2.2 hr12]
      have HLn:Hid (((a2c q k).length+1)*24<=140737488355328):=by show _<=_;have:=a9b HQ.out;unfold a2c;rw[List.length_map,List.length_range];omega
      have HH:=Lib.hid H.out.out;have HBs:=Lib.hid H.out.below.size;go_region_law (first | (refine a5r kc (w0:=w1) (W:=wr) w1.heap.size rfl (.tmp 38) (.tmp 51) 165 170 (.agg #[.int .u8 0,.int .i64 0,.int .i64 0]) 24 rfl Tryz.underlying165 c1o rfl (by decide) (by decide) _ _ ((x:Int),(b:Int),IntKind.i64.wrap (IntKind.i64.wrap ((y:Int)*2^b)-IntKind.i64.wrap (2^r))) [.int .u8 (x:Int),.int .i64 (b:Int),.int .i64 (IntKind.i64.wrap (IntKind.i64.wrap ((y:Int)*2^b)-IntKind.i64.wrap (2^r)))] (λ b=>b≠g) (λ _=>False) rfl rfl (c1n _ _ _ _) (λ _ h=>h.elim) (c1v H.out) HH.out H.out.below HBs.out HLn.out ?_;intro v1 wa hr1 hb1 hg1 hat1;obtain⟨hr5,hc5,hf5⟩:=c1w H.out hg1 hx256 hci;have HR1:=Lib.hid hr1;have HB1:=Lib.hid hb1;have HR5:=Lib.hid hr5;clear hr1 hb1 hg1 hat1 hr5) | fail)
      all_goals
       go_wp2_with fail;go_roundw
       case rel=>
        refine⟨k+1,by go_num,by omega,?_⟩;exact c1x HR5.out HR1.out HB1.out HEL.out HS.out.1 hG.out HY.out.1 (of_ge H.out).1
       case measure=>simp[intOf];omega
    · have hkk:k=(symsL q).length:=by omega
      subst hkk;go_wp2_with fail;go_ret2;exact⟨λ e=>absurd e HL.out,λ _=>⟨_,rfl,Kd.R_mono (Kd.R_lower H.out.out HB.out.size) (λ _ _=>trivial)⟩,HB.out.trans (H.out.below.mono HB.out.size)⟩
 · have HL:=Lib.hid hl;clear hl;go_enter Tryz.func171,Tryz.ntmps171;go_wp2_with fail;refine(a6M _ _ _ _ HR.out).mono ?_;rintro e w1 ⟨h1,_,hb⟩;have h3:=h1 (by have:=HL.out;omega);subst h3;go_wp2_with fail;go_ret2;exact⟨λ _=>rfl,λ h=>absurd h HL.out,hb⟩
def byteL:List Bool->Nat
 | []=>0
 | b :: l=>b.toNat+2*byteL l
theorem a3N:∀ l:List Bool,byteL l<2^l.length
 | []=>by decide
 | b :: l=>by
  have:=a3N l;simp only[byteL,List.length_cons,Nat.pow_succ];have:b.toNat<=1:=by cases b <;> decide
  omega
theorem a3o:∀ (l:List Bool) (b:Bool),byteL (l++[b])=byteL l+b.toNat*2^l.length
 | [],b=>by simp[byteL]
 | a :: l,b=>by
  simp only[List.cons_append,byteL,a3o l b,List.length_cons,Nat.pow_succ];rw[Nat.mul_add];have:b.toNat*(2^l.length*2)=2*(b.toNat*2^l.length):=by ac_rfl
  omega
def packB (bs:List Bool):List Int:=(List.range ((bs.length+7)/8)).map (λ i=>(byteL ((bs.drop (8*i)).take 8):Int))
theorem a0B (bs:List Bool):(packB bs).length=(bs.length+7)/8:=by simp[packB]
theorem a1S (bs:List Bool) (i:Nat) (h:i<(packB bs).length):(packB bs)[i]=(byteL ((bs.drop (8*i)).take 8):Int):=by simp[packB]
theorem a9e (bs:List Bool) (b:Bool) (i:Nat) (h:8*i+8<=bs.length):((bs++[b]).drop (8*i)).take 8=(bs.drop (8*i)).take 8:=by
 rw[List.drop_append_of_le_length (by omega),List.take_append_of_le_length (by rw[List.length_drop];omega)]
theorem c1z {bs:List Bool} (b:Bool) (h:bs.length%8=0):packB (bs++[b])=packB bs++[(b.toNat:Int)]:=by
 apply List.ext_getElem
 · simp[a0B];omega
 · intro i h1 h2;rw[a1S]
   by_cases hi:i<(packB bs).length
   · rw[List.getElem_append_left hi,a1S,a9e _ _ _ (by rw[a0B] at hi;omega)]
   · have hl:(packB bs).length=bs.length/8:=by rw[a0B];omega
     have he:i=bs.length/8:=by rw[List.length_append,List.length_singleton] at h2;omega
     rw[List.getElem_append_right (by omega)];have e8:8*i=bs.length:=by omega
     rw[e8,List.drop_append_of_le_length (Nat.le_refl _),List.drop_length];simp[byteL]
theorem c1A {bs:List Bool} (b:Bool) (h:bs.length%8≠0):packB (bs++[b])=(packB bs).set ((packB bs).length-1) ((byteL (bs.drop (8*(bs.length/8))):Int)+(b.toNat:Int)*2^(bs.length%8)):=by
 have hl:(packB bs).length=bs.length/8+1:=by rw[a0B];omega
 apply List.ext_getElem
 · simp[a0B];omega
 · intro i h1 h2;rw[a1S,List.getElem_set]
   by_cases hi:(packB bs).length-1=i
   · rw[if_pos hi];have he:i=bs.length/8:=by omega
     rw[he,List.drop_append_of_le_length (by omega)];have hdl:(bs.drop (8*(bs.length/8))).length=bs.length%8:=by rw[List.length_drop];omega
     rw[List.take_of_length_le (by rw[List.length_append,hdl,List.length_singleton];omega),a3o,hdl];simp
   · rw[if_neg hi,a1S,a9e _ _ _ (by rw[List.length_set] at h2;omega)]
theorem b3w {bs:List Bool} (h:bs.length%8≠0):(packB bs).getD ((packB bs).length-1) 0=(byteL (bs.drop (8*(bs.length/8))):Int)/\byteL (bs.drop (8*(bs.length/8)))<2^(bs.length%8):=by
 have hl:(packB bs).length=bs.length/8+1:=by rw[a0B];omega
 have hdl:(bs.drop (8*(bs.length/8))).length=bs.length%8:=by rw[List.length_drop];omega
 constructor
 · rw[List.getD_eq_getElem?_getD,List.getElem?_eq_getElem (by omega),Option.getD_some,a1S];rw[show(packB bs).length-1=bs.length/8 by omega,List.take_of_length_le (by omega)]
 · have:=a3N (bs.drop (8*(bs.length/8)));rw[hdl] at this;exact this
structure WrVal (w:World) (base p:Nat) (v:Value) (bs:List Bool):Prop where
 blk:w.heap[p]?=some (.cells #[v,.int .i64 bs.length] 229 (0,0))
 row:(Kd.int .u8).R 5 w base (λ k=>k≠p) v (packB bs)
def a6Q (base p:Nat) (v0:Value) (bs:List Bool) (b:Bool) (w:World) (e:Ending) (w':World):Prop:=
 e=.returned (.tuple #[])/\∃ v',WrVal w' base p v' (bs++[b])/\(v'.ownBlock=v0.ownBlock\/∃ b,v'.ownBlock=some b/\w.heap.size<=b)/\Only (λ k=>k=p\/v0.ownBlock=some k) w w'
theorem c1B {base p g c1:Nat} {v0:Value} {bs:List Bool} {w wa:World} (h:WrVal w base p v0 bs) (hr:(Kd.int .u8).R 5 wa base (λ k=>k≠p) (.slice (some ⟨g,0,none⟩) (packB bs++[0]).length c1) (packB bs++[0])) (hg:w.grownBy wa v0.ownBlock)
    (hat:(Value.slice (some ⟨g,0,none⟩) (packB bs++[0]).length c1).ownBlock=v0.ownBlock\/∃ b,(Value.slice (some ⟨g,0,none⟩) (packB bs++[0]).length c1).ownBlock=some b/\w.heap.size<=b) :
    wa.frozen? ⟨p,0,none⟩=false/\wa.cell? ⟨p,0,none⟩=some v0/\Hid (wa.heap[p]?=some (.cells #[v0,.int .i64 bs.length] 229 (0,0))/\(Kd.int .u8).R 5 wa base (λ k=>k≠p) (.slice (some ⟨g,0,none⟩) (packB bs++[0]).length c1) (packB bs++[0]) /\
     (some g=v0.ownBlock\/w.heap.size<=g)/\Only (λ k=>k=p\/v0.ownBlock=some k) w wa):=by
 have hb:=a1g h.blk hg (λ e=>h.row.1 p e.symm rfl);refine⟨a0e hb 0,(a0a hb 0).trans rfl,hb,hr,?_,Only.of_grown hg (λ k hk=>.inr hk)⟩;rcases hat with e | ⟨b,e,hb⟩
 · exact .inl e
 · cases e;exact .inr hb
theorem c1C {base p g c1 k n:Nat} {v0:Value} {bs:List Bool} {xs:List Int} {wa:World} (hb:wa.heap[p]?=some (.cells #[v0,.int .i64 bs.length] 229 (0,0)))
    (hr:(Kd.int .u8).R 5 wa base (λ k=>k≠p) (.slice (some ⟨g,0,none⟩) k c1) xs) (hk:0<k) (hn:n=bs.length) :
    ((wa.setCell ⟨p,0,none⟩ (.slice (some ⟨g,0,none⟩) k c1)).heap[p]?=some (.cells #[.slice (some ⟨g,0,none⟩) k c1,.int .i64 bs.length] 229 (0,0))/\(Kd.int .u8).R 5 (wa.setCell ⟨p,0,none⟩ (.slice (some ⟨g,0,none⟩) k c1)) base (λ k=>k≠p) (.slice (some ⟨g,0,none⟩) k c1) xs) /\
    (wa.setCell ⟨p,0,none⟩ (.slice (some ⟨g,0,none⟩) k c1)).cell? ⟨p,0,none⟩=some (.slice (some ⟨g,0,none⟩) k c1)/\(wa.setCell ⟨p,0,none⟩ (.slice (some ⟨g,0,none⟩) k c1)).cell? ⟨p,1,none⟩=some (.int .i64 n) /\
    (wa.setCell ⟨p,0,none⟩ (.slice (some ⟨g,0,none⟩) k c1)).frozen? ⟨p,1,none⟩=false/\g≠p /\
    (wa.setCell ⟨p,0,none⟩ (.slice (some ⟨g,0,none⟩) k c1)).cell? ⟨g,k-1,none⟩=some (.int .u8 (xs.getD (k-1) 0))/\(wa.setCell ⟨p,0,none⟩ (.slice (some ⟨g,0,none⟩) k c1)).frozen? ⟨g,k-1,none⟩=false:=by
 have h1:=a0x hb 0 (.slice (some ⟨g,0,none⟩) k c1);have h2:=Kd.R_far (p:=⟨p,0,none⟩) hr (λ k hk=>hk) (.slice (some ⟨g,0,none⟩) k c1);have h3:=a1D h2 (k-1) (by omega);subst hn;exact⟨⟨h1,h2⟩,(a0a h1 0).trans rfl,(a0a h1 1).trans rfl,a0e h1 1,hr.1 g rfl,h3.1,h3.2⟩
structure Mid (p g m c1 n:Nat) (x:Int) (W1:World):Prop where
 c0:W1.cell? ⟨p,0,none⟩=some (.slice (some ⟨g,0,none⟩) (m+1) c1)
 c1:W1.cell? ⟨p,1,none⟩=some (.int .i64 n)
 f1:W1.frozen? ⟨p,1,none⟩=false
 ne:g≠p
 cx:W1.cell? ⟨g,m,none⟩=some (.int .u8 x)
 fx:W1.frozen? ⟨g,m,none⟩=false
theorem c1D {base p g c1 n:Nat} {v0:Value} {bs:List Bool} {wa:World} (hb:wa.heap[p]?=some (.cells #[v0,.int .i64 bs.length] 229 (0,0)))
    (hr:(Kd.int .u8).R 5 wa base (λ k=>k≠p) (.slice (some ⟨g,0,none⟩) (packB bs++[0]).length c1) (packB bs++[0])) (hn:n=bs.length) :
    Mid p g (packB bs).length c1 n 0 (wa.setCell ⟨p,0,none⟩ (.slice (some ⟨g,0,none⟩) ((packB bs).length+1) c1)):=by
 obtain⟨_,a,b,c,d,e,f⟩:=c1C (k:=(packB bs++[0]).length) hb hr (by simp) hn;have e1:(packB bs++[0]).length=(packB bs).length+1:=by simp
 have e2:(packB bs++[0]).getD (packB bs).length 0=0:=by rw[List.getD_eq_getElem?_getD,List.getElem?_append_right (Nat.le_refl _)];simp
 rw[e1] at a b c e f;rw[Nat.add_sub_cancel] at e f;rw[e2] at e;exact⟨a,b,c,d,e,f⟩
theorem a8y {W:World} {p g i j:Nat} {u:Value} (h:W.cell? ⟨p,i,none⟩=some u) (hne:p≠g) (v:Value):(W.setCell ⟨g,j,none⟩ v).drew.cell? ⟨p,i,none⟩=some u:=by
 have e:(W.setCell ⟨g,j,none⟩ v).drew.heap[p]?=W.heap[p]?:=Below.heap_setCell W ⟨g,j,none⟩ v p hne;exact(World.cell?_of_block (a:=⟨p,i,none⟩) e).trans h
theorem b3x {W:World} {p g i j:Nat} {b:Bool} (h:W.frozen? ⟨p,i,none⟩=b) (hne:p≠g) (v:Value):(W.setCell ⟨g,j,none⟩ v).drew.frozen? ⟨p,i,none⟩=b:=by
 have e:(W.setCell ⟨g,j,none⟩ v).drew.heap[p]?=W.heap[p]?:=Below.heap_setCell W ⟨g,j,none⟩ v p hne;exact(World.frozen?_of_block (a:=⟨p,i,none⟩) e).trans h
theorem b3y (u:Nat) (hu:u<4294967296):bits BinOp.and IntKind.u32 (u:Int) 1%256=((decide (u%2=1)).toNat:Int):=by
 have h:=bits_mask .u32 32 (by decide) (λ n h0 h1=>by rw[IntKind.wrap_u32];omega) 1 (by decide) (u:Int) (by omega) (by omega);have e:((2:Int)^1-1)=1:=by decide
 rw[e] at h;rw[h]
 by_cases h2:u%2=1
 · simp[h2];omega
 · simp[h2];omega
theorem or_u8 (a b j:Nat) (ha:a<2^j) (hb:b<=1) (hj:j<8):bits BinOp.or IntKind.u8 (a:Int) ((b*2^j:Nat):Int)=((a+b*2^j:Nat):Int):=by
 have h8:2^(j+1)<=2^8:=Nat.pow_le_pow_right (by omega) (by omega);rw[Nat.pow_succ] at h8;have hb2:b*2^j<=2^j:=by have:=Nat.mul_le_mul_right (2^j) hb;omega
 have h:=(bits_nat .u8 8 (by decide) (λ n h0 h1=>by rw[IntKind.wrap_u8];omega) a (b*2^j) (by omega) (by omega)).2;rw[h];have e:=Nat.two_pow_add_eq_or_of_lt ha b;rw[Nat.mul_comm b,Nat.or_comm,<- e,Nat.add_comm]
theorem c1E (u:Nat) (hu:u<4294967296:=by assumption):bits BinOp.or IntKind.u8 0 (bits BinOp.and IntKind.u32 (u:Int) 1%256)=((decide (u%2=1)).toNat:Int):=by
 rw[b3y u hu];have:=or_u8 0 (decide (u%2=1)).toNat 0 (by decide) (by cases decide (u%2=1) <;> decide) (by decide);simpa using this
theorem c1F (u x j:Nat) (hu:u<4294967296) (hx:x<2^j) (hj:j<8):bits BinOp.or IntKind.u8 (x:Int) (bits BinOp.and IntKind.u32 (u:Int) 1%256*2^j%256)=((x+(decide (u%2=1)).toNat*2^j:Nat):Int):=by
 rw[b3y u hu];have hb:(decide (u%2=1)).toNat<=1:=by cases decide (u%2=1) <;> decide
 have hp:2^j<=2^7:=Nat.pow_le_pow_right (by omega) (by omega);have h2:=Nat.mul_le_mul_right (2^j) hb
 have e:((decide (u%2=1)).toNat:Int)*2^j%256=(((decide (u%2=1)).toNat*2^j:Nat):Int):=by
  have e1:((decide (u%2=1)).toNat:Int)*2^j=(((decide (u%2=1)).toNat*2^j:Nat):Int):=by simp
  rw[e1];omega
 rw[e];exact or_u8 x _ j hx hb hj
theorem b3z {base p g m n c1:Nat} {V:Int} {v0:Value} {bs:List Bool} {xs:List Int} {b:Bool} {w W1 W2:World} (hb:W1.heap[p]?=some (.cells #[.slice (some ⟨g,0,none⟩) (m+1) c1,.int .i64 n] 229 (0,0)))
    (hr:(Kd.int .u8).R 5 W1 base (λ k=>k≠p) (.slice (some ⟨g,0,none⟩) (m+1) c1) xs) (hloc:some g=v0.ownBlock\/w.heap.size<=g) (ho:Only (λ k=>k=p\/v0.ownBlock=some k) w W1)
    (hne:g≠p) (hn:n=bs.length) (hx:xs.set m V=packB (bs++[b])) (hW2:W2=(W1.setCell ⟨g,m,none⟩ (.int .u8 V)).drew) :
    a6Q base p v0 bs b w (.returned (.tuple #[])) (W2.setCell ⟨p,1,none⟩ (.int .i64 ((n:Int)+1))):=by
 have r2:=Kd.R_drew (Kd.R_putn hr (m:Int) V);have b2:=a0Y (a1v hb (p:=⟨g,m,none⟩) (λ e=>hne e.symm) (.int .u8 V));have e2:((W1.setCell ⟨g,(m:Int).toNat,none⟩ (.int .u8 V)).drew)=W2:=by rw[hW2];rfl
 rw[e2] at r2;rw[<- hW2] at b2;have r3:=Kd.R_far (p:=⟨p,1,none⟩) r2 (λ k hk=>hk) (.int .i64 ((n:Int)+1));have b3:=a0x b2 1 (.int .i64 ((n:Int)+1));have hx':xs.set (m:Int).toNat V=packB (bs++[b]):=hx;rw[hx'] at r3;refine⟨rfl,.slice (some ⟨g,0,none⟩) (m+1) c1,⟨?_,r3⟩,?_,?_⟩
 · rw[b3];simp[hn]
 · rcases hloc with e | e
   · exact .inl e
   · exact .inr ⟨g,rfl,e⟩
 · have hS:g=p\/v0.ownBlock=some g\/w.heap.size<=g:=by
     rcases hloc with e | e
     · exact .inr (.inl e.symm)
     · exact .inr (.inr e)
   have o1:Only (λ k=>(k=p\/v0.ownBlock=some k)\/w.heap.size<=k) w W2:=by
    rw[hW2];exact(((ho.mono (λ k _ hk=>.inl hk)).setCell (p:=⟨g,m,none⟩) (by rcases hS with h | h | h;exact .inl (.inl h);exact .inl (.inr h);exact .inr h) _).drew)
   refine Only.mono (o1.setCell (p:=⟨p,1,none⟩) (.inl (.inl rfl)) _) (λ k hk h=>?_);rcases h with h | h
   · exact h
   · omega
theorem c1G {base p g m n c1 V:Nat} {v0:Value} {bs:List Bool} {b:Bool} {w wa W1 W2:World} (hb:wa.heap[p]?=some (.cells #[v0,.int .i64 bs.length] 229 (0,0)))
    (hr:(Kd.int .u8).R 5 wa base (λ k=>k≠p) (.slice (some ⟨g,0,none⟩) (packB bs++[0]).length c1) (packB bs++[0])) (hloc:some g=v0.ownBlock\/w.heap.size<=g) (ho:Only (λ k=>k=p\/v0.ownBlock=some k) w wa)
    (hne:g≠p) (hn:n=bs.length) (h8:n%8=0) (hm:m=(packB bs).length) (hW1:W1=wa.setCell ⟨p,0,none⟩ (.slice (some ⟨g,0,none⟩) (m+1) c1)) (hW2:W2=(W1.setCell ⟨g,m,none⟩ (.int .u8 (V:Int))).drew) (hV:V=b.toNat) :
    a6Q base p v0 bs b w (.returned (.tuple #[])) (W2.setCell ⟨p,1,none⟩ (.int .i64 ((n:Int)+1))):=by
 have e1:(packB bs++[0]).length=m+1:=by rw[hm];simp
 rw[e1] at hr;have r1:=Kd.R_far (p:=⟨p,0,none⟩) hr (λ k hk=>hk) (.slice (some ⟨g,0,none⟩) (m+1) c1);rw[<- hW1] at r1;have b1:=a0x hb 0 (.slice (some ⟨g,0,none⟩) (m+1) c1);rw[<- hW1] at b1;refine b3z (xs:=packB bs++[0]) (by rw[b1];simp[hn]) r1 hloc (by rw[hW1];exact ho.setCell (p:=⟨p,0,none⟩) (.inl rfl) _) hne hn ?_ hW2;rw[c1z b (by omega),hV,hm];simp[List.set_append_right]
theorem b3A (base p:Nat) (v0:Value) (bs:List Bool) (u:Nat) (w:World) (h:WrVal w base p v0 bs) (hB:base<=w.heap.size) (hl:bs.length<=1000000) (hu:u<4294967296) :
    Calls Tryz.prog 202 #[.pointer (some ⟨p,0,none⟩),.int .u32 u] w (a6Q base p v0 bs (decide (u%2=1)) w):=by
 have hc0:w.cell? ⟨p,0,none⟩=some v0:=(a0a h.blk 0).trans rfl;have hc1:w.cell? ⟨p,1,none⟩=some (.int .i64 bs.length):=(a0a h.blk 1).trans rfl;have hf0:=a0e h.blk 0;have hf1:=a0e h.blk 1;obtain⟨n,hn⟩:∃ n,n=bs.length:=⟨_,rfl⟩;rw[<- hn] at hc1 hl;have HH:=Lib.hid h;have HN:=Lib.hid hn;have hltp:p<w.heap.size:=a0g h.blk;have HB:=Lib.hid hB;clear h hn hB
 by_cases h8:n%8=0
 · have h8':(n:Int)%8=0:=by omega
   have HL:Hid (((packB bs).length+1)*1<=140737488355328):=by show _<=_;rw[a0B,<- HN.out];omega
   have HP:=Lib.hid hltp;have HFr:Hid (∀ k,w.heap.size<=k->k≠p):=λ k hk e=>by have:=HP.out;omega
   go_enter Tryz.func202,Tryz.ntmps202;go_wp2_with (at_builtin;refine Kd.R_append (Kd.int .u8) (w0:=w) (W:=w) base rfl (.tmp 14) (.tmp 15) 22 5 (.int .u8 0) 1 rfl Tryz.underlying22 a0I rfl (by decide) (by decide) v0 _ (0:Int) [.int .u8 0] (λ k=>k≠p) (λ _=>False) rfl rfl rfl (λ _ h=>h.elim) HFr.out HH.out.row (Below.refl _ _) HB.out HL.out ?_;intro v1 wa hr1 hb1 hg1 hat1;obtain⟨g,c1,rfl⟩:=a9d hr1 (by simp);obtain⟨hfa,hca,HA⟩:=c1B HH.out hr1 hg1 hat1;clear hr1 hb1 hg1 hat1);have HM:=c1D (n:=n) HA.out.1 HA.out.2.1 HN.out;obtain⟨m,hm⟩:∃ m,m=(packB bs).length:=⟨_,rfl⟩;rw[<- hm];rw[<- hm] at HM;obtain⟨W1,hW1⟩:∃ W1,W1=wa.setCell ⟨p,0,none⟩ (.slice (some ⟨g,0,none⟩) (m+1) c1):=⟨_,rfl⟩;rw[<- hW1];rw[<- hW1] at HM;obtain⟨S1,S2,S3,S4,S5,S6⟩:=HM;have HW1:=Lib.hid hW1;have HMM:=Lib.hid hm;have hm4:m<=1000000:=by rw[hm,a0B,<- HN.out];omega
   have hwm:IntKind.i64.wrap (m:Int)=m:=i64_in _ (by omega);have hm1:(m:Int)<(m:Int)+1:=by omega
   clear hW1 hm hc0 hf0 hf1 hc1 hca hfa;go_wp2_with fail;go_region
   all_goals
    rw[c1E u];obtain⟨V,hV⟩:∃ V:Nat,V=(decide (u%2=1)).toNat:=⟨_,rfl⟩;rw[<- hV];obtain⟨W2,hW2⟩:∃ W2,W2=(W1.setCell ⟨g,m,none⟩ (.int .u8 (V:Int))).drew:=⟨_,rfl⟩;rw[<- hW2];have hc2:W2.cell? ⟨p,1,none⟩=some (.int .i64 n):=by rw[hW2];exact a8y S2 (λ e=>S4 e.symm) _
    have hf2:W2.frozen? ⟨p,1,none⟩=false:=by rw[hW2];exact b3x S3 (λ e=>S4 e.symm) _
    have HV:=Lib.hid (And.intro hV (And.intro hW2 S4));clear hV hW2 S1 S2 S3 S4 S5 S6;go_wp2_with fail;go_end0;exact c1G HA.out.1 HA.out.2.1 HA.out.2.2.1 HA.out.2.2.2 HV.out.2.2 HN.out h8 HMM.out HW1.out HV.out.2.1 HV.out.1
 · obtain⟨j,hj⟩:∃ j,j=n%8:=⟨_,rfl⟩;have h8':(n:Int)%8=(j:Int):=by omega
   have hlen:=a0B bs;obtain⟨m,hm⟩:∃ m,(packB bs).length=m+1:=⟨(packB bs).length-1,by rw[hlen,<- HN.out];omega⟩;obtain⟨g,c1,rfl⟩:=a9d HH.out.row (by omega);have hne:g≠p:=HH.out.row.1 g rfl;obtain⟨S5,S6⟩:=a1D HH.out.row m (by omega);have hlast:=b3w (bs:=bs) (by rw[<- HN.out];omega);rw[hm,Nat.add_sub_cancel] at hlast;rw[hlast.1] at S5;obtain⟨x,hx⟩:∃ x,x=byteL (bs.drop (8*(bs.length/8))):=⟨_,rfl⟩;rw[<- hx] at S5 hlast;have HX:Hid (x<2^j/\j<8/\x=byteL (bs.drop (8*(bs.length/8)))/\j=bs.length%8):=⟨by rw[hj,HN.out];exact hlast.2,by omega,hx,by rw[hj,HN.out]⟩;have hm4:m<=1000000:=by have:=HN.out;omega
   have hwm:IntKind.i64.wrap (m:Int)=m:=i64_in _ (by omega);have hm1:(m:Int)<(m:Int)+1:=by omega
   rw[hm] at hc0 ⊢;have HM:=Lib.hid hm;clear hm hlen hlast hj hx;have hj8:j<8:=HX.out.2.1;have h80:¬ (j:Int)=0:=by have:=HX.out.2.2.2;have:=HN.out;omega
   go_enter Tryz.func202,Tryz.ntmps202;go_wp2_with fail;go_region
   all_goals
    rw[c1F u x j hu HX.out.1 HX.out.2.1];obtain⟨V,hV⟩:∃ V:Nat,V=x+(decide (u%2=1)).toNat*2^j:=⟨_,rfl⟩;rw[<- hV];obtain⟨W2,hW2⟩:∃ W2,W2=(w.setCell ⟨g,m,none⟩ (.int .u8 (V:Int))).drew:=⟨_,rfl⟩;rw[<- hW2];have hc2:W2.cell? ⟨p,1,none⟩=some (.int .i64 n):=by rw[hW2];exact a8y hc1 (λ e=>hne e.symm) _
    have hf2:W2.frozen? ⟨p,1,none⟩=false:=by rw[hW2];exact b3x hf1 (λ e=>hne e.symm) _
    have HV:=Lib.hid (And.intro hV (And.intro hW2 hne));clear hV hW2 S5 S6 hc0 hf0 hne;go_wp2_with fail;go_end0;have hrow:=HH.out.row;have hblk:=HH.out.blk;rw[HM.out] at hrow hblk;rw[<- HN.out] at hblk;refine b3z (xs:=packB bs) hblk hrow (.inl rfl) (Only.refl _ _) HV.out.2.2 HN.out ?_ HV.out.2.1;rw[c1A _ (by rw[<- HN.out];exact h8),HM.out,Nat.add_sub_cancel,<- HX.out.2.2.1,<- HX.out.2.2.2,HV.out.1];simp
def a0k (u n:Nat):List Bool:=(List.range n).map (λ i=>decide (u/2^i%2=1))
theorem b3B (u n:Nat):a0k u (n+1)=a0k u n++[decide (u/2^n%2=1)]:=by unfold a0k;rw[List.range_succ,List.map_append];rfl
theorem a0J (u n:Nat):(a0k u n).length=n:=by simp[a0k]
def PutRel (base p:Nat) (v0:Value) (bs:List Bool) (w:World) (w':World):Prop:=
 ∃ v',WrVal w' base p v' bs/\(v'.ownBlock=v0.ownBlock\/∃ b,v'.ownBlock=some b/\w.heap.size<=b)/\Only (λ k=>k=p\/v0.ownBlock=some k) w w'
theorem PutRel.trans {base p:Nat} {v0 v1:Value} {b1 b2:List Bool} {w w1 w2:World} (h:WrVal w1 base p v1 b1/\(v1.ownBlock=v0.ownBlock\/∃ b,v1.ownBlock=some b/\w.heap.size<=b)/\Only (λ k=>k=p\/v0.ownBlock=some k) w w1) (k:PutRel base p v1 b2 w1 w2):PutRel base p v0 b2 w w2:=by
 obtain⟨_,ha,ho⟩:=h;obtain⟨v2,h2,hb,ho2⟩:=k;refine⟨v2,h2,?_,ho.trans2 ho2 (λ i hi hs=>?_)⟩
 · rcases hb with e | ⟨b,e,hb⟩
   · rcases ha with e1 | ⟨b,e1,hb⟩
     · exact .inl (e.trans e1)
     · exact .inr ⟨b,e.trans e1,hb⟩
   · exact .inr ⟨b,e,Nat.le_trans ho.size hb⟩
 · rcases hs with hs | hs
   · exact .inl hs
   · rcases ha with e1 | ⟨b,e1,hb⟩
     · exact .inr (e1 ▸ hs)
     · rw[e1] at hs;cases hs;omega
theorem a2q (base p:Nat) (v0:Value) (bs:List Bool) (u n:Nat) (w:World) (h:WrVal w base p v0 bs) (hB:base<=w.heap.size) (hl:bs.length<=900000) (hu:u<4294967296) (hn:n<=24) :
    Calls Tryz.prog 200 #[.pointer (some ⟨p,0,none⟩),.int .u32 u,.int .i64 n] w λ e w'=>e=.returned (.bool true)/\PutRel base p v0 (bs++a0k u n) w w':=by
 have HH:=Lib.hid h;have HB:=Lib.hid hB;have HL:=Lib.hid hl;clear h hB hl;go_enter Tryz.func200,Tryz.ntmps200;go_wp2_with fail;go_loopw [15] (λ kv wr=>∃ (k:Nat),kv=.int .i64 k/\k<=n/\Hid (PutRel base p v0 (bs++a0k u k) w wr)) (λ kv _=>n-(intOf kv).toNat)
 case atStart=>exact⟨0,rfl,by omega,v0,by simpa [a0k] using HH.out,.inl rfl,Only.refl _ _⟩
 case round=>
  obtain⟨k,rfl,hk,H⟩:=hrel
  by_cases hlt:k<n
  · obtain⟨vk,hk1,hk2,hk3⟩:=H.out;have HK:=Lib.hid (And.intro hk1 (And.intro hk2 hk3));clear hk1 hk2 hk3;have hsh:(u:Int)/2^k=((u/2^k:Nat):Int):=by simp
    have hul:u/2^k<4294967296:=Nat.lt_of_le_of_lt (Nat.div_le_self _ _) hu;obtain⟨y,hy⟩:∃ y,y=u/2^k:=⟨_,rfl⟩;rw[<- hy] at hsh hul;have HY:=Lib.hid hy;clear hy;go_wp2_with fail;refine(b3A base p vk (bs++a0k u k) y wr HK.out.1 (Nat.le_trans HB.out HK.out.2.2.size) (by rw[List.length_append,a0J];have:=HL.out;omega) hul).mono ?_;rintro e w1 ⟨rfl,hp⟩;have HP:=Lib.hid (PutRel.trans HK.out hp);clear hp;go_wp2_with fail;go_roundw
    case rel=>
     refine⟨k+1,by go_num,by omega,?_⟩;rw[b3B,<- HY.out,<- List.append_assoc];exact HP.out
    case measure=>simp[intOf];omega
  · have hkn:k=n:=by omega
    subst hkn;go_wp2_with fail;go_ret;exact⟨rfl,H.out⟩
theorem a6R (w:World):Calls Tryz.prog 152 #[] w λ e w'=>e=.returned (.pointer (some ⟨w.heap.size,0,none⟩))/\w'=w.alloc (.cells #[.slice none 0 0,.int .i64 0] 229):=by
 go_enter Tryz.func152,Tryz.ntmps152;go_wp2_with fail;go_ret;exact⟨rfl,rfl⟩
theorem b3C (base p:Nat) (v0:Value) (bs:List Bool) (w:World) (h:WrVal w base p v0 bs) :
    Calls Tryz.prog 203 #[.pointer (some ⟨p,0,none⟩)] w λ e w'=>e=.returned (.int .i64 bs.length)/\w=w':=by
 have hc1:w.cell? ⟨p,1,none⟩=some (.int .i64 bs.length):=(a0a h.blk 1).trans rfl;clear h;go_enter Tryz.func203,Tryz.ntmps203;go_wp2_with fail;go_ret;exact⟨rfl,rfl⟩
def ctxI (b:List Int) (i:Int):Int:=if i<0\/(b.length:Int)<=i then -1 else if i=0 then 0 else b.getD (i-1).toNat 0
theorem a6S (A:Option Addr) (c:Nat) (b:List Int) (i:Nat) (w:World) (hr:(Kd.int .u8).C w A b.length b) (hi:i<b.length) (hl:b.length<=1000000) (hb:∀ x∈b,0<=x/\x<256) :
    Calls Tryz.prog 155 #[.slice A b.length c,.int .i64 i] w λ e w'=>e=.returned (.int .i64 (ctxI b i))/\w=w':=by
 have he:ctxI b i=if i=0 then 0 else b.getD (i-1) 0:=by
  unfold ctxI;rw[if_neg (by omega)]
  by_cases h:i=0
  · subst h;rfl
  · rw[if_neg (by omega),if_neg h];congr 1;omega
 obtain⟨z,hz⟩:∃ z,z=ctxI b i:=⟨_,rfl⟩;rw[<- hz] at he ⊢;have HE:=Lib.hid he;have hlt:(i:Int)<(b.length:Int):=by omega
 have hbn:¬ b=[]:=by intro e;subst e;cases hi
 clear he hz
 by_cases h0:i=0
 · subst h0;have HR:=Lib.hid hr;clear hr;go_enter Tryz.func155,Tryz.ntmps155;go_wp2_with fail;go_ret;exact⟨a1J HE.out.symm,rfl⟩
 · obtain⟨j,rfl⟩:∃ j,i=j+1:=⟨i-1,by omega⟩;obtain⟨ad,rfl,hc⟩:=a0v hr j (by omega);have HR:=Lib.hid hr;obtain⟨x,hx⟩:∃ x,x=b.getD j 0:=⟨_,rfl⟩
   have hxr:0<=x/\x<256:=by
    rw[hx,List.getD_eq_getElem?_getD,List.getElem?_eq_getElem (by omega)];exact hb _ (List.getElem_mem _)
   rw[<- hx] at hc;have HX:=Lib.hid hx;clear hr hx;go_enter Tryz.func155,Tryz.ntmps155;go_wp2_with fail;go_ret;refine⟨a1J ?_,rfl⟩;rw[HE.out,if_neg h0,Nat.add_sub_cancel,<- HX.out]
def kq:Kd (List Int):=Kd.slice 3 (Kd.int .i64)
theorem kq_at {w:World} {A:Option Addr} {n:Nat} {qs:List (List Int)} (h:kq.C w A n qs) (i:Nat) (hi:i<n) :
    ∃ ad B c,A=some ad/\w.cell? (ad.add i)=some (.slice B (qs.getD i []).length c)/\(qs.getD i []).length<=c/\(Kd.int .i64).C w B (qs.getD i []).length (qs.getD i []):=by
 obtain⟨ad,e,hc⟩:=h.2.2 (by omega);have hl:i<qs.length:=by have:=h.1;omega
 obtain⟨cs,hs,hr,hcell⟩:=hc i _ (List.getElem?_eq_getElem hl);obtain⟨B,c,rfl,hle,hC⟩:=hr;have h1:=hcell 0 _ rfl;have e1:i*kq.sz+0=i:=by show i*1+0=i;omega
 rw[e1] at h1;rw[List.getD_eq_getElem?_getD,List.getElem?_eq_getElem hl,Option.getD_some];exact⟨ad,B,c,e,h1,hle,hC⟩
def badQ (lg:Int) (q:List Int):Bool:=decide (0<q.length/\¬ (logC q≠0/\(logC q:Int)=lg))
theorem c1H (lg:Int) (A:Option Addr) (c:Nat) (q:List Int) (w:World) (hr:(Kd.int .i64).C w A q.length q) :
    Calls Tryz.prog 165 #[.int .i64 lg,.slice A q.length c] w λ e w'=>e=.returned (.bool (badQ lg q))/\w=w':=by
 have HR:=Lib.hid hr;clear hr
 by_cases h0:0<q.length
 · have hb:decide (0<(q.length:Int))=true:=decide_eq_true (by omega);have hne:¬ q=[]:=by intro e;subst e;cases h0
   have hp:0<(q.length:Int):=by omega
   obtain⟨b,hbb⟩:∃ b,b=decide (logC q≠0/\(logC q:Int)=lg):=⟨_,rfl⟩;have HZ:Hid (badQ lg q = !b):=by show _=_;unfold badQ;rw[hbb];by_cases h:(logC q≠0/\(logC q:Int)=lg) <;> simp[h,h0] <;> omega
   rw[HZ.out];have HB:=Lib.hid hbb;clear hbb HZ;go_enter Tryz.func165,Tryz.ntmps165;go_wp2_with fail;refine(c0y _ _ _ _ _ HR.out).mono ?_;rw[<- HB.out];rintro e w' ⟨rfl,rfl⟩;go_wp2_with fail;go_ret;exact⟨rfl,rfl⟩
 · have h1:q=[]:=List.eq_nil_of_length_eq_zero (by omega);subst h1;go_enter Tryz.func165,Tryz.ntmps165;go_wp2_with fail;go_ret;exact⟨rfl,rfl⟩
theorem c1I (lg:Int) (A:Option Addr) (c:Nat) (qs:List (List Int)) (w:World) (hr:kq.C w A qs.length qs) (hl:qs.length<=1000000) :
    Calls Tryz.prog 212 #[.slice A qs.length c,.func (.func 165) #[.int .i64 lg] #[]] w λ e w'=>∃ i:Int,e=.returned (.int .i64 i)/\(0<=i↔qs.any (badQ lg)=true)/\w=w':=by
 have HR:=Lib.hid hr;clear hr;go_enter Tryz.func212,Tryz.ntmps212;go_wp2_with fail;go_loop [8] (λ kv=>∃ (k:Nat),kv=.int .i64 k/\k<=qs.length/\Hid (∀ q∈qs.take k,badQ lg q=false)) (λ kv=>qs.length-(intOf kv).toNat)
 case atStart=>exact⟨0,rfl,by omega,λ q hq=>by simp at hq⟩
 case round=>
  obtain⟨k,rfl,hk,H⟩:=hrel
  by_cases hlt:k<qs.length
  · obtain⟨ad,B,cb,rfl,hc,_,hC⟩:=kq_at HR.out k hlt;have hkI:(k:Int)<(qs.length:Int):=by omega
    obtain⟨q,hq⟩:∃ q,q=qs.getD k []:=⟨_,rfl⟩;rw[<- hq] at hc hC;have HQ:=Lib.hid (And.intro hq hC);clear hq hC;go_wp2_with fail;refine(c1H lg B cb q w HQ.out.2).mono ?_;obtain⟨b,hb⟩:∃ b,b=badQ lg q:=⟨_,rfl⟩;rw[<- hb];rintro e w' ⟨rfl,rfl⟩;have hq2:qs[k]=q:=by rw[HQ.out.1,List.getD_eq_getElem?_getD,List.getElem?_eq_getElem hlt];rfl
    have HB:=Lib.hid (And.intro hb hq2);clear hb hq2
    cases b with
    | true=>
     go_wp2_with fail;go_ret;exact⟨k,rfl,⟨λ _=>List.any_eq_true.2 ⟨q,HB.out.2 ▸ List.getElem_mem hlt,HB.out.1.symm⟩,λ _=>by omega⟩,rfl⟩
    | false=>
     go_wp2_with fail;go_round
     case rel=>
      refine⟨k+1,by go_num,by omega,λ x hx=>?_⟩;rw[List.take_succ_eq_append_getElem hlt] at hx;rcases List.mem_append.1 hx with h | h
      · exact H.out x h
      · rw[List.mem_singleton.1 h,HB.out.2];exact HB.out.1.symm
     case measure=>simp[intOf];omega
  · have hkn:k=qs.length:=by omega
    go_wp2_with fail;go_ret;refine⟨-1,rfl,⟨λ h=>by omega,λ h=>?_⟩,rfl⟩;obtain⟨x,hx,hb⟩:=h;have:=H.out x (by rw[hkn,List.take_length];exact hx);rw[this] at hb;cases hb
theorem a6T (lg:Int) (A:Option Addr) (c:Nat) (qs:List (List Int)) (w:World) (hr:kq.C w A qs.length qs) (hl:qs.length<=1000000) :
    Calls Tryz.prog 164 #[.slice A qs.length c,.func (.func 165) #[.int .i64 lg] #[]] w λ e w'=>e=.returned (.bool (qs.any (badQ lg)))/\w=w':=by
 have HR:=Lib.hid hr;have HL:=Lib.hid hl;clear hr hl;obtain⟨b,hb⟩:∃ b,b=qs.any (badQ lg):=⟨_,rfl⟩;rw[<- hb];have HB:=Lib.hid hb;clear hb;go_enter Tryz.func164,Tryz.ntmps164;go_wp2_with fail;refine(c1I lg A c qs w HR.out HL.out).mono ?_;rintro e w' ⟨i,rfl,hi,rfl⟩;rw[<- HB.out] at hi
 cases b with
 | true=>
  have h0:0<=i:=hi.2 rfl;clear hi;go_wp2_with fail;go_ret;exact⟨rfl,rfl⟩
 | false=>
  have h0:decide (0<=i)=false:=decide_eq_false (λ h=>by have:=hi.1 h;cases this);clear hi;go_wp2_with fail;go_ret;exact⟨rfl,rfl⟩
def a0A (lg:Int) (one:Bool) (qs:List (List Int)):Bool:=
 if lg<1\/12<lg then false else if qs.any (badQ lg) then false else if one then decide (qs.length=1/\0<(qs.getD 0 []).length) else decide (qs.length=256)
theorem b3D (lg:Int) (one:Bool) (A:Option Addr) (c:Nat) (qs:List (List Int)) (w:World) (hr:kq.C w A qs.length qs) (hl:qs.length<=1000000) :
    Calls Tryz.prog 115 #[.agg #[.int .i64 lg,.bool one,.slice A qs.length c]] w (Ret (.bool (a0A lg one qs)) w):=by
 have HR:=Lib.hid (Kd.C_alloc hr (.cells #[.int .i64 lg,.bool one,.slice A qs.length c] 26));have HL:=Lib.hid hl;have HB:=Lib.hid ((Below.refl w.heap.size w).alloc (Nat.le_refl _) (.cells #[.int .i64 lg,.bool one,.slice A qs.length c] 26));clear hr hl
 by_cases h1:lg<1\/12<lg
 · have HZ:Hid (a0A lg one qs=false):=by show _=_;unfold a0A;rw[if_pos h1]
   rw[HZ.out]
   by_cases h2:lg<1
   · have hd:decide (lg<1)=true:=decide_eq_true h2;clear h1 h2;go_enter Tryz.func115,Tryz.ntmps115;go_wp2_with fail;go_ret;exact⟨rfl,HB.out⟩
   · have hd:decide (lg<1)=false:=decide_eq_false h2;have hd2:decide (12<lg)=true:=decide_eq_true (by omega);clear h1 h2;go_enter Tryz.func115,Tryz.ntmps115;go_wp2_with fail;go_ret;exact⟨rfl,HB.out⟩
 · have hd:decide (lg<1)=false:=decide_eq_false (by omega);have hd2:decide (12<lg)=false:=decide_eq_false (by omega);obtain⟨b,hb⟩:∃ b,b=qs.any (badQ lg):=⟨_,rfl⟩
   have HZ:Hid (a0A lg one qs=if b then false else if one then decide (qs.length=1/\0<(qs.getD 0 []).length) else decide (qs.length=256)):=by
    show _=_
    unfold a0A;rw[if_neg h1,hb]
   have HBB:=Lib.hid hb;clear hb h1
   cases b with
   | true=>
    have HZ2:Hid (a0A lg one qs=false):=HZ.out;rw[HZ2.out];go_enter Tryz.func115,Tryz.ntmps115;go_wp2_with fail;refine(a6T lg A c qs _ HR.out HL.out).mono ?_;rw[<- HBB.out];rintro e w' ⟨rfl,rfl⟩;go_wp2_with fail;go_ret;exact⟨rfl,HB.out⟩
   | false=>
    cases one with
    | false=>
     have HZ2:Hid (a0A lg false qs=decide (qs.length=256)):=HZ.out;rw[HZ2.out];go_enter Tryz.func115,Tryz.ntmps115;go_wp2_with fail;refine(a6T lg A c qs _ HR.out HL.out).mono ?_;rw[<- HBB.out];rintro e w' ⟨rfl,rfl⟩;go_wp2_with fail;go_ret;refine⟨?_,HB.out⟩
     have:((qs.length:Int)==256)=decide (qs.length=256):=by
      by_cases h:qs.length=256
      · simp[h]
      · simp[h];omega
     simp[this]
    | true=>
     have HZ2:Hid (a0A lg true qs=decide (qs.length=1/\0<(qs.getD 0 []).length)):=HZ.out
     by_cases hq:qs.length=1
     · obtain⟨ad,B,cb,rfl,hc,_,hC⟩:=kq_at HR.out 0 (by omega);have hI:((qs.length:Int)==1)=true:=by simp;omega
       have hlt:(0:Int)<(qs.length:Int):=by omega
       obtain⟨q,hqq⟩:∃ q,q=qs.getD 0 []:=⟨_,rfl⟩;rw[<- hqq] at hc hC;rw[Addr.add_zero'] at hc;have HQ:=Lib.hid hqq;have HC:=Lib.hid hC
       have HE:Hid (a0A lg true qs=decide (0<q.length)):=by
        show _=_
        rw[HZ2.out,<- HQ.out]
        by_cases h:0<q.length
        · rw[decide_eq_true h,decide_eq_true ⟨hq,h⟩]
        · rw[decide_eq_false h,decide_eq_false (λ x=>h x.2)]
       rw[HE.out];clear hqq hC hq;go_enter Tryz.func115,Tryz.ntmps115;go_wp2_with fail;refine(a6T lg (some ad) c qs _ HR.out HL.out).mono ?_;rw[<- HBB.out];rintro e w' ⟨rfl,rfl⟩;go_wp2_with fail;go_ret;exact⟨rfl,HB.out⟩
     · have hI:((qs.length:Int)==1)=false:=by simp;omega
       have HE:Hid (a0A lg true qs=false):=by show _=_;rw[HZ2.out];exact decide_eq_false (λ x=>hq x.1)
       rw[HE.out];clear hq;go_enter Tryz.func115,Tryz.ntmps115;go_wp2_with fail;refine(a6T lg A c qs _ HR.out HL.out).mono ?_;rw[<- HBB.out];rintro e w' ⟨rfl,rfl⟩;go_wp2_with fail;go_ret;exact⟨rfl,HB.out⟩
def Bytes (b:List Int):Prop:=∀ x∈b,0<=x/\x<256
theorem Bytes.get {b:List Int} (h:Bytes b) (i:Nat):0<=b.getD i 0/\b.getD i 0<256:=by
 rw[List.getD_eq_getElem?_getD]
 by_cases hi:i<b.length
 · rw[List.getElem?_eq_getElem hi];exact h _ (List.getElem_mem hi)
 · rw[List.getElem?_eq_none (by omega)];decide
def listI (one:Bool) (c:Int):Nat:=if one then 0 else c.toNat
theorem a4m {b:List Int} (h:Bytes b) (i:Nat) (hi:i<b.length):0<=ctxI b i/\ctxI b i<256:=by
 unfold ctxI;rw[if_neg (by omega)]
 split
 · decide
 · exact h.get _
def fitAt (one:Bool) (qs:List (List Int)) (b:List Int) (i:Nat):Bool:=
 decide ((qs.getD (listI one (ctxI b i)) []).length≠0/\(qs.getD (listI one (ctxI b i)) []).getD (b.getD i 0).toNat 0≠0)
def fitsM (lg:Int) (one:Bool) (qs:List (List Int)) (b:List Int):Bool:=a0A lg one qs&&(List.range b.length).all (fitAt one qs b)
theorem a1T {lg:Int} {one:Bool} {qs:List (List Int)} (h:a0A lg one qs=true):1<=lg/\lg<=12/\qs.length=(if one then 1 else 256)/\∀ q∈qs,q.length≠0->logC q≠0/\(logC q:Int)=lg:=by
 unfold a0A at h
 split at h
 · cases h
 · rename_i h1
   split at h
   · cases h
   · rename_i h2;refine⟨by omega,by omega,?_,λ q hq hne=>?_⟩
     · cases one with
       | true=>simp at h;simp[h]
       | false=>simp at h;simp[h]
     · have h3:¬ (badQ lg q=true):=λ hb=>h2 (List.any_eq_true.2 ⟨q,hq,hb⟩);unfold badQ at h3;simp only[decide_eq_true_eq] at h3
       by_cases h4:logC q≠0/\(logC q:Int)=lg
       · exact h4
       · exact absurd ⟨by omega,h4⟩ h3
theorem a6U {lg:Int} {one:Bool} {qs:List (List Int)} (h:a0A lg one qs=true) (k:Nat) (hn:(qs.getD k []).length≠0):logC (qs.getD k [])≠0/\(logC (qs.getD k []):Int)=lg:=by
 have hk:k<qs.length:=by
  by_cases e:k<qs.length
  · exact e
  · exfalso;apply hn;rw[List.getD_eq_getElem?_getD,List.getElem?_eq_none (by omega)];rfl
 have hm:qs.getD k []∈qs:=by rw[List.getD_eq_getElem?_getD,List.getElem?_eq_getElem hk];exact List.getElem_mem hk
 exact(a1T h).2.2.2 _ hm hn
theorem a9f {lg:Int} {one:Bool} {qs:List (List Int)} (h:a0A lg one qs=true) {c:Int} (hc:0<=c/\c<256):listI one c<qs.length:=by
 have:=(a1T h).2.2.1;unfold listI
 cases one with
 | true=>simp at this ⊢;omega
 | false=>simp at this ⊢;omega
theorem c1J (lg:Int) (one:Bool) (A:Option Addr) (c:Nat) (qs:List (List Int)) (B:Option Addr) (cb:Nat) (b:List Int) (w:World) (hr:kq.C w A qs.length qs) (hl:qs.length<=1000000) (hb:(Kd.int .u8).C w B b.length b) (hby:Bytes b) (hbl:b.length<=1000000) :
    Calls Tryz.prog 198 #[.agg #[.int .i64 lg,.bool one,.slice A qs.length c],.slice B b.length cb] w (Ret (.bool (fitsM lg one qs b)) w):=by
 have HR:=Lib.hid hr;have HBR:=Lib.hid hb;have HL:=Lib.hid hl;have HX:=Lib.hid (And.intro hby hbl);obtain⟨W1,hW1⟩:∃ W1,W1=w.alloc (.cells #[.int .i64 lg,.bool one,.slice A qs.length c] 26):=⟨_,rfl⟩;have hbl1:W1.heap[w.heap.size]?=some (.cells #[.int .i64 lg,.bool one,.slice A qs.length c] 26 (0,0)):=by rw[hW1];exact a0i _ _
 have HB1:Hid (Below w.heap.size w W1):=by show Below _ _ _;rw[hW1];exact(Below.refl w.heap.size w).alloc (Nat.le_refl _) _
 clear hr hl hb hby hbl;go_enter Tryz.func198,Tryz.ntmps198;go_wp2_with fail;rw[<- hW1];have HK:=Lib.hid hbl1;clear hW1 hbl1;refine(b3D lg one A c qs W1 (Kd.C_below HR.out HB1.out) HL.out).mono ?_;rintro e w2 ⟨rfl,hb2⟩;have hk2:=a0h HK.out hb2;have hm1:w2.cell? ⟨w.heap.size,1,none⟩=some (.bool one):=(a0a hk2 1).trans rfl;have hm2:w2.cell? ⟨w.heap.size,2,none⟩=some (.slice A qs.length c):=(a0a hk2 2).trans rfl;have HB2:Hid (Below w.heap.size w w2):=HB1.out.trans (hb2.mono HB1.out.size);clear hk2 hb2;obtain⟨rt,hrt⟩:∃ rt,rt=a0A lg one qs:=⟨_,rfl⟩;rw[<- hrt];have HZ:=Lib.hid hrt;clear hrt
 cases rt with
 | false=>
  have HE:Hid (fitsM lg one qs b=false):=by show _=_;unfold fitsM;rw[<- HZ.out];rfl
  go_wp2_with fail;go_ret;exact⟨a0W HE.out.symm,HB2.out⟩
 | true=>
  have HRT:Hid (a0A lg one qs=true):=HZ.out.symm;have HZ2:Hid (fitsM lg one qs b=(List.range b.length).all (fitAt one qs b)):=by show _=_;unfold fitsM;rw[HRT.out];rfl
  clear HZ;go_wp2_with fail;go_loop [14] (λ kv=>∃ (k:Nat),kv=.int .i64 k/\k<=b.length/\Hid ((List.range k).all (fitAt one qs b)=true)) (λ kv=>b.length-(intOf kv).toNat)
  case atStart=>exact⟨0,rfl,by omega,rfl⟩
  case round=>
   obtain⟨k,rfl,hk,H⟩:=hrel
   by_cases hlt:k<b.length
   · have hC2:=Kd.C_below HBR.out HB2.out;obtain⟨ad,rfl,hc⟩:=a0v hC2 k hlt;have hx:=HX.out.1.get k;obtain⟨x,hxe⟩:∃ x:Nat,b.getD k 0=x:=⟨(b.getD k 0).toNat,by omega⟩;rw[hxe] at hc hx;have HC2:=Lib.hid hC2;have HXE:=Lib.hid hxe;have hx256:x<256:=by omega
     have hk6:k<1000000:=by have:=HX.out.2;omega
     clear hC2 hxe hx;go_wp2_with fail;refine(a6S (some ad) cb b k w2 HC2.out hlt HX.out.2 HX.out.1).mono ?_;rintro e w' ⟨rfl,rfl⟩;have hcr:=a4m HX.out.1 k hlt;obtain⟨cx,hcx⟩:∃ cx:Nat,ctxI b k=cx:=⟨(ctxI b k).toNat,by omega⟩;have hll:=a9f HRT.out hcr;rw[hcx] at hcr hll ⊢;have HCX:=Lib.hid hcx;obtain⟨j,hj⟩:∃ j,listI one (cx:Int)=j:=⟨_,rfl⟩;rw[hj] at hll;obtain⟨ad2,B2,c2,rfl,hq1,_,hq2⟩:=kq_at (Kd.C_below HR.out HB2.out) j hll;obtain⟨q,hq⟩:∃ q,q=qs.getD j []:=⟨_,rfl⟩;rw[<- hq] at hq1 hq2;have HJ:=Lib.hid (And.intro hj (And.intro hq hq2));have hjI:(j:Int)<(qs.length:Int):=by omega
     have HF:Hid (fitAt one qs b k=decide (q.length≠0/\q.getD x 0≠0)):=by
      show _=_
      unfold fitAt;rw[HCX.out,hj,<- hq,HXE.out];simp only[Int.toNat_natCast]
     have hcx256:cx<256:=by omega
     clear hcx hj hq hq2 hcr hll
     by_cases h0:q.length=0
     · have h0b:((q.length:Int)==0)=true:=by rw[h0];rfl
       have HE:Hid (fitsM lg one qs b=false):=by
        show _=_
        rw[HZ2.out];refine List.all_eq_false.2 ⟨k,List.mem_range.2 hlt,?_⟩;rw[HF.out];simp;intro h;exact absurd h0 (by simpa using h)
       cases one with
       | true=>
        obtain rfl:j=0:=by have:=HJ.out.1;simp[listI] at this;omega
        rw[Addr.add_zero'] at hq1;clear h0;go_wp2_with fail;go_ret;exact⟨a0W HE.out.symm,HB2.out⟩
       | false=>
        obtain rfl:j=cx:=by have:=HJ.out.1;simp[listI] at this;omega
        clear h0;go_wp2_with fail;go_ret;exact⟨a0W HE.out.symm,HB2.out⟩
     · have h0b:((q.length:Int)==0)=false:=by simp;intro e;exact h0 (by rw[e];rfl)
       have hg:q.length=256:=by
        have:=a6U HRT.out j (by rw[<- HJ.out.2.1];exact h0);rw[<- HJ.out.2.1] at this;exact(a1A this.1).len
       obtain⟨ad3,rfl,hqc⟩:=a0v HJ.out.2.2 x (by omega);have hxl:(x:Int)<(q.length:Int):=by omega
       obtain⟨y,hy⟩:∃ y,y=q.getD x 0:=⟨_,rfl⟩;rw[<- hy] at hqc
       by_cases hy0:y=0
       · have hyb:(y==0)=true:=by rw[hy0];rfl
         have HE:Hid (fitsM lg one qs b=false):=by
          show _=_
          rw[HZ2.out];refine List.all_eq_false.2 ⟨k,List.mem_range.2 hlt,?_⟩;rw[HF.out,<- hy,hy0];simp
         clear h0 hg hy hy0
         cases one with
         | true=>
          obtain rfl:j=0:=by have:=HJ.out.1;simp[listI] at this;omega
          rw[Addr.add_zero'] at hq1;go_wp2_with fail;go_ret;exact⟨a0W HE.out.symm,HB2.out⟩
         | false=>
          obtain rfl:j=cx:=by have:=HJ.out.1;simp[listI] at this;omega
          go_wp2_with fail;go_ret;exact⟨a0W HE.out.symm,HB2.out⟩
       · have hyb:(y==0)=false:=by simp[hy0]
         have HE:Hid ((List.range (k+1)).all (fitAt one qs b)=true):=by
          show _=_
          rw[List.range_succ,List.all_append,H.out,List.all_cons,HF.out,<- hy];simp[hy0];intro e;exact h0 (by rw[e];rfl)
         clear h0 hg hy hy0
         cases one with
         | true=>
          obtain rfl:j=0:=by have:=HJ.out.1;simp[listI] at this;omega
          rw[Addr.add_zero'] at hq1;go_wp2_with fail;go_round
          case rel=>exact⟨k+1,by go_num,by omega,HE.out⟩
          case measure=>simp[intOf];omega
         | false=>
          obtain rfl:j=cx:=by have:=HJ.out.1;simp[listI] at this;omega
          go_wp2_with fail;go_round
          case rel=>exact⟨k+1,by go_num,by omega,HE.out⟩
          case measure=>simp[intOf];omega
   · have hkn:k=b.length:=by omega
     subst hkn;go_wp2_with fail;go_ret;exact⟨a0W (by rw[HZ2.out];exact H.out.symm),HB2.out⟩
structure EncInv (lg:Int) (one:Bool) (A:Option Addr) (c:Nat) (qs:List (List Int)) (tb me md n:Nat) (f:Int->Option Value) (Out:Nat->Prop) (w0 w:World):Prop where
 blk:w.heap[tb]?=some (.cells #[.int .i64 lg,.bool one,.slice A qs.length c,.map (some me),.map (some md)] 213 (0,0))
 mp:MapB Tryz.prog 3 .i64 w.heap[me]? n f
 mlt:me<w.heap.size
 below:Below w0.heap.size w0 w
 mge:w0.heap.size<=me
 oge:∀ b,Out b->w0.heap.size<=b/\b<w.heap.size
 ent:∀ i:Int,0<=i->∀ v,f i=some v->∃ t lo hi,v=.pointer (some ⟨t,0,none⟩)/\EtabAt lo hi w t (qs.getD i.toNat [])/\hi<=w.heap.size/\(∀ b,lo<=b->b<hi->¬ Out b/\b≠me)
 ne:¬ Out tb/\¬ Out me/\tb≠me
theorem a6V {i:Nat} (h:i<=1000000):(Lit.int .i64 (i:Int)).wf=true:=by
 have a:IntKind.i64.min = -9223372036854775808:=rfl;have b:IntKind.i64.max=9223372036854775807:=rfl;simp only[Lit.wf,a,b,Bool.and_eq_true,decide_eq_true_eq];omega
theorem b3E (w:World):(zeroValue 223).run Tryz.prog w=.ok (.pointer none) w:=by kernel_rfl
theorem b3F (lg:Int) (one:Bool) (V M D:Value) (tb ci:Nat) (w:World) (hb:w.heap[tb]?=some (.cells #[.int .i64 lg,.bool one,V,M,D] 213 (0,0))) :
    Calls Tryz.prog 170 #[.pointer (some ⟨tb,0,none⟩),.int .i64 ci] w λ e w'=>e=.returned (.int .i64 (listI one ci))/\w=w':=by
 have hc:w.cell? ⟨tb,1,none⟩=some (.bool one):=(a0a hb 1).trans rfl;clear hb
 cases one with
 | true=>
  go_enter Tryz.func170,Tryz.ntmps170;go_wp2_with fail;go_ret;exact⟨rfl,rfl⟩
 | false=>
  go_enter Tryz.func170,Tryz.ntmps170;go_wp2_with fail;go_ret;exact⟨rfl,rfl⟩
def b3G (lg:Int) (one:Bool) (A:Option Addr) (c:Nat) (qs:List (List Int)) (tb me md n:Nat) (Out:Nat->Prop) (j:Nat) (w0 w:World) (e:Ending) (w':World):Prop:=
 ∃ f' t lo hi,e=.returned (.pointer (some ⟨t,0,none⟩))/\EncInv lg one A c qs tb me md (n+1) f' Out w0 w'/\EtabAt lo hi w' t (qs.getD j [])/\Only (λ b=>b=me) w w'
theorem c1K {lg:Int} {one:Bool} {A:Option Addr} {c:Nat} {qs:List (List Int)} {tb me md n j:Nat} {f:Int->Option Value} {Out:Nat->Prop} {w0 w w1:World} {q:List Int} {e:Ending} (h:EncInv lg one A c qs tb me md n f Out w0 w) (hq:logC (qs.getD j [])≠0) (hqq:q=qs.getD j []) (hwf:(Lit.int .i64 (j:Int)).wf=true) (hn:n<maxLen)
    (hp:a9a q w.drew e w1):∃ t lo hi,e=.returned (.tuple #[.pointer (some ⟨t,0,none⟩),.int .i64 0])/\∃ w2,(Instr.mapUpdate 210 (.map (some me)) (.int .i64 (j:Int)) (.pointer (some ⟨t,0,none⟩))).run Tryz.prog w1=.ok () w2 /\
     Hid (EncInv lg one A c qs tb me md (n+1) (upd f (j:Int) (.pointer (some ⟨t,0,none⟩))) Out w0 w2/\EtabAt lo hi w2 t (qs.getD j [])/\Below w.heap.size w w1/\w1.grownBy w2 (some me)):=by
 subst hqq;obtain⟨_,h2,hb⟩:=hp;obtain⟨t,rfl,hE⟩:=h2 hq;have hb':Below w.heap.size w w1:=⟨hb.os,hb.tape,hb.output,hb.size,hb.block⟩;have hE':EtabAt w.heap.size w1.heap.size w1 t (qs.getD j []):=hE;have hm1:MapB Tryz.prog 3 .i64 w1.heap[me]? n f:=by rw[hb'.block me h.mlt];exact h.mp
 obtain⟨w2,hrun,hm2,hg2,hs2⟩:=a5z (t:=210) Tryz.underlying3 Tryz.underlying210 hwf hm1 hn (.pointer (some ⟨t,0,none⟩));have hlt:=h.mlt;have agr:∀ lo hi u q',EtabAt lo hi w1 u q'->hi<=w1.heap.size->(∀ b,lo<=b->b<hi->b≠me)->EtabAt lo hi w2 u q':=λ lo hi u q' hu hh hne=>hu.agree (λ k k1 k2=>hg2.block k (by omega) (λ e=>by injection e with e;exact hne k k1 k2 e));have hnew:EtabAt w.heap.size w1.heap.size w2 t (qs.getD j []):=agr _ _ _ _ hE' (Nat.le_refl _) (λ b b1 _ e=>by omega);have hsz:w.heap.size<=w2.heap.size:=by have:=hb'.size;omega
 refine⟨t,w.heap.size,w1.heap.size,rfl,w2,hrun,⟨?_,hm2,by omega,?_,h.mge,λ b hb=>⟨(h.oge b hb).1,by have:=(h.oge b hb).2;omega⟩,?_,h.ne⟩,hnew,hb',hg2⟩
 · exact a1g (a0h h.blk hb') hg2 (λ e=>by injection e with e;exact h.ne.2.2 e)
 · exact(h.below.trans (hb'.mono h.below.size)).grown hg2 (Nat.le_trans h.below.size hb'.size) (λ k hk=>by injection hk with hk;subst hk;exact h.mge)
 · intro i hi v hv
   by_cases e:i=(j:Int)
   · subst e;rw[a3J] at hv
     cases hv
     exact⟨t,w.heap.size,w1.heap.size,rfl,by simpa using hnew,by omega,λ b b1 _=>⟨λ ho=>by have:=(h.oge b ho).2;omega,by omega⟩⟩
   · rw[a3K _ _ e] at hv;obtain⟨u,lo,hi2,rfl,hu,hh,hd⟩:=h.ent i hi v hv;have hu1:EtabAt lo hi2 w1 u (qs.getD i.toNat []):=hu.agree (λ k _ k2=>hb'.block k (by omega));exact⟨u,lo,hi2,rfl,agr _ _ _ _ hu1 (by have:=hb'.size;omega) (λ b b1 b2=>(hd b b1 b2).2),by omega,hd⟩
theorem c1L {lg:Int} {one:Bool} {A:Option Addr} {c:Nat} {qs:List (List Int)} {tb me md n j:Nat} {f:Int->Option Value} {Out:Nat->Prop} {w0 w w1 w2:World} {ad:Addr} {u1 u2 u3:Value} (h:EncInv lg one A c qs tb me md n f Out w0 w) (hlt:ad.block<w0.heap.size)
    (hb:Below w.heap.size w w1/\w1.grownBy w2 (some me)) (h1:w.cell? ⟨tb,2,none⟩=some u1) (h2:w.cell? ⟨tb,3,none⟩=some u2) (h3:w.cell? (ad.add j)=some u3) :
    w1.cell? ⟨tb,2,none⟩=some u1/\w1.cell? ⟨tb,3,none⟩=some u2/\w1.cell? (ad.add j)=some u3/\w2.cell? ⟨tb,2,none⟩=some u1/\w2.cell? ⟨tb,3,none⟩=some u2/\w2.cell? (ad.add j)=some u3:=by
 have ht:tb<w.heap.size:=a0g h.blk;have hab:(ad.add j).block=ad.block:=by simp only[Addr.add];split <;> rfl
 have e1:∀ k,k<w.heap.size->k≠me->w2.heap[k]?=w.heap[k]?:=λ k hk hne=>(hb.2.block k (Nat.lt_of_lt_of_le hk hb.1.size) (λ e=>by injection e with e;exact hne e)).trans (hb.1.block k hk);have e2:∀ (a:Addr) u,a.block<w.heap.size->w.cell? a=some u->w1.cell? a=some u:=λ a u ha hu=>(World.cell?_of_block (hb.1.block a.block ha)).trans hu;have e3:∀ (a:Addr) u,a.block<w.heap.size->a.block≠me->w.cell? a=some u->w2.cell? a=some u:=λ a u ha hne hu=>(World.cell?_of_block (e1 a.block ha hne)).trans hu;have hw:=h.below.size;have hm:=h.mge;exact⟨e2 _ _ ht h1,e2 _ _ ht h2,e2 _ _ (by rw[hab];omega) h3,e3 _ _ ht h.ne.2.2 h1,e3 _ _ ht h.ne.2.2 h2,e3 _ _ (by rw[hab];omega) (by rw[hab];omega) h3⟩
theorem c1M (lg:Int) (one:Bool) (A:Option Addr) (c:Nat) (qs:List (List Int)) (tb me md n ci:Nat) (f:Int->Option Value) (Out:Nat->Prop) (w0 w:World) (hrd:kq.C w0 A qs.length qs) (h:EncInv lg one A c qs tb me md n f Out w0 w) (hn:n<=1000000) (hci:ci<=1000000) (hj:listI one ci<qs.length) (hq:logC (qs.getD (listI one ci) [])≠0) :
    Calls Tryz.prog 149 #[.pointer (some ⟨tb,0,none⟩),.int .i64 ci] w (b3G lg one A c qs tb me md n Out (listI one ci) w0 w):=by
 have hjl:listI one ci<=1000000:=by unfold listI;split <;> simp <;> omega
 obtain⟨j,hje⟩:∃ j,j=listI one (ci:Int):=⟨_,rfl⟩;have hlist:=b3F lg one (.slice A qs.length c) (.map (some me)) (.map (some md)) tb ci w h.blk;rw[<- hje] at hj hq hjl hlist ⊢;have hc3:w.cell? ⟨tb,3,none⟩=some (.map (some me)):=(a0a h.blk 3).trans rfl;have hlk:=a5y (t:=210) (e:=223) (z:=.pointer none) (b:=me) (w:=w) Tryz.underlying3 Tryz.underlying210 (a6V hjl) (b3E w) h.mp;have HH:=Lib.hid h;have HL:=Lib.hid hlist;have HQ:=Lib.hid (And.intro hq hj);have HN:=Lib.hid hn;have HRD:=Lib.hid hrd;clear hrd h hlist hq hn hje
 cases hf:f j with
 | some v=>
  obtain⟨t,lo,hi,rfl,hE,hhi,_⟩:=HH.out.ent j (by omega) v hf;rw[hf] at hlk;have HE:=Lib.hid (And.intro hE hhi);clear hf hE hhi;go_enter Tryz.func149,Tryz.ntmps149;go_wp2_with fail;refine HL.out.mono ?_;rintro e w' ⟨rfl,rfl⟩;go_wp2_with fail;go_ret;refine⟨f,t,lo,hi,rfl,{ HH.out with mp:=b3n HH.out.mp (Nat.le_succ _) },?_,Only.refl _ _⟩;exact HE.out.1
 | none=>
  rw[hf] at hlk;have hc2:w.cell? ⟨tb,2,none⟩=some (.slice A qs.length c):=(a0a HH.out.blk 2).trans rfl;obtain⟨ad,B,c2,rfl,hqc,_,hqC⟩:=kq_at (Kd.C_below HRD.out HH.out.below) j HQ.out.2;obtain⟨q,hqq⟩:∃ q,q=qs.getD j []:=⟨_,rfl⟩;rw[<- hqq] at hqc hqC;have HQC:=Lib.hid (And.intro hqq hqC)
  have hqlt:ad.block<w0.heap.size:=by
   have h1:=Kd.C_lt HRD.out (by have:=HQ.out.2;omega) (by decide);exact h1
  have hjI:(j:Int)<(qs.length:Int):=by have:=HQ.out.2;omega
  have HLT:=Lib.hid hqlt;have HWF:=Lib.hid (a6V hjl);have HNM:Hid (n<maxLen):=by show _<_;have:=HN.out;unfold maxLen;omega
  clear hqq hqC hqlt hf;go_enter Tryz.func149,Tryz.ntmps149;go_wp2_with fail;refine HL.out.mono ?_;rintro e w' ⟨rfl,rfl⟩;go_wp2_with fail
  go_region_held3 (λ w'=>w'.cell? ⟨tb,2,none⟩=some (.slice (some ad) qs.length c)/\w'.cell? ⟨tb,3,none⟩=some (.map (some me))/\w'.cell? (ad.add j)=some (.slice B q.length c2)) ((repeat' apply And.intro) <;> first | assumption)
   (first | (go_at_call 201;refine(c0T B c2 q _ (Kd.C_drew HQC.out.2)).mono ?_;rintro e w1 hp;obtain⟨t,lo,hi,rfl,w2,hrun,HP⟩:=c1K HH.out HQ.out.1 HQC.out.1 HWF.out HNM.out hp;obtain⟨a1,a2,a3,b1,b2,b3⟩:=c1L HH.out HLT.out HP.out.2.2 hc2 hc3 hqc))
  all_goals
   have hlk2:=a5y (t:=210) (e:=223) (z:=.pointer none) (b:=me) (w:=w2) Tryz.underlying3 Tryz.underlying210 HWF.out (b3E w2) HP.out.1.mp;rw[a3J] at hlk2;go_wp2_with fail;go_ret;refine⟨_,t,lo,hi,rfl,HP.out.1,HP.out.2.1,?_⟩;exact(Only.of_below HP.out.2.2.1).trans2 (Only.of_grown (S:=λ b=>b=me) HP.out.2.2.2 (λ k hk=>by injection hk with hk;exact hk.symm)) (λ _ _ h=>h)
theorem c1N (A:Option Addr) (c:Nat) (l:List K3) (x b m:Nat) (s base:Int) (w:World) (hC:kc.C w A l.length l) (hx:x<l.length) (_:l.length<=100000) (he:l.getD x z3=(s,(b:Int),base)) (hb:b<=24) (hm:m<2^b) (hB:0<=base/\base<=100000) :
    Calls Tryz.prog 215 #[.slice A l.length c,.int .i64 x,.int .u32 m] w (Ret (.tuple #[.int .u8 s,.int .i64 (base+m),.bool true]) w):=by
 obtain⟨ad,rfl,hc0,hc1,hc2⟩:=kc_at hC x hx;rw[he] at hc0 hc1 hc2;have HC:=Lib.hid hC;have HE:=Lib.hid he
 have hm2:(m:Int)/2^b=0:=by
  have:m/2^b=0:=Nat.div_eq_of_lt hm;have h2:((m/2^b:Nat):Int)=0:=by omega
  simpa using h2
 have hp:2^b<=2^24:=Nat.pow_le_pow_right (by omega) hb;have hm3:m<16777216:=by omega
 clear hC he hm hp;go_enter Tryz.func215,Tryz.ntmps215;go_wp2_with fail;have hxl:(x:Int)<(l.length:Int):=by omega
 have hwr:IntKind.i64.wrap (base+(m:Int))=base+m:=i64_in _ (by omega);have hwm:IntKind.i64.wrap (m:Int)=m:=i64_in _ (by omega);go_region
 all_goals
  go_wp2;refine bodyPost_ret (v:=.tuple #[.int .u8 s,.int .i64 (base+m),.bool true]) ?_ rfl ⟨rfl,(Below.refl _ _).drew⟩;simp[results,Tryz.results215,go_sem]
def cellsOf (q:List Int):List K3:=if logC q=0 then [] else a0V q
structure DecInv (lg:Int) (one:Bool) (A:Option Addr) (c:Nat) (qs:List (List Int)) (tb me md n:Nat) (f:Int->Option Value) (Out:Nat->Prop) (w0 w:World):Prop where
 blk:w.heap[tb]?=some (.cells #[.int .i64 lg,.bool one,.slice A qs.length c,.map (some me),.map (some md)] 213 (0,0))
 mp:MapB Tryz.prog 3 .i64 w.heap[md]? n f
 mlt:md<w.heap.size
 below:Below w0.heap.size w0 w
 mge:w0.heap.size<=md
 oge:∀ b,Out b->w0.heap.size<=b/\b<w.heap.size
 ent:∀ i:Int,0<=i->∀ v,f i=some v->kc.R 170 w w0.heap.size (λ b=>¬ Out b/\b≠md) v (cellsOf (qs.getD i.toNat []))
 ne:¬ Out tb/\¬ Out md/\tb≠md
theorem zeroCells (w:World):(zeroValue 165).run Tryz.prog w=.ok nilS w:=by kernel_rfl
def b3H (lg:Int) (one:Bool) (A:Option Addr) (c:Nat) (qs:List (List Int)) (tb me md n:Nat) (Out:Nat->Prop) (j:Nat) (w0 w:World) (e:Ending) (w':World):Prop:=
 ∃ f' v,e=.returned v/\DecInv lg one A c qs tb me md (n+1) f' Out w0 w'/\kc.R 170 w' w0.heap.size (λ b=>¬ Out b/\b≠md) v (cellsOf (qs.getD j []))/\Only (λ b=>b=md) w w'
theorem c1O {lg:Int} {one:Bool} {A:Option Addr} {c:Nat} {qs:List (List Int)} {tb me md n j:Nat} {f:Int->Option Value} {Out:Nat->Prop} {w0 w w1:World} {q:List Int} {e:Ending} (h:DecInv lg one A c qs tb me md n f Out w0 w) (hqq:q=qs.getD j []) (hwf:(Lit.int .i64 (j:Int)).wf=true) (hn:n<maxLen)
    (hp:b3v q w.drew e w1):∃ v k,e=.returned (.tuple #[v,.int .i64 k])/\∃ w2,(Instr.mapUpdate 211 (.map (some md)) (.int .i64 (j:Int)) v).run Tryz.prog w1=.ok () w2 /\
     Hid (DecInv lg one A c qs tb me md (n+1) (upd f (j:Int) v) Out w0 w2/\kc.R 170 w2 w0.heap.size (λ b=>¬ Out b/\b≠md) v (cellsOf (qs.getD j []))/\Below w.heap.size w w1/\w1.grownBy w2 (some md)):=by
 subst hqq;obtain⟨h1,h2,hb⟩:=hp;have hb':Below w.heap.size w w1:=⟨hb.os,hb.tape,hb.output,hb.size,hb.block⟩
 obtain⟨v,k,he,hv⟩:∃ v k,e=.returned (.tuple #[v,.int .i64 k])/\kc.R 170 w1 w.heap.size (λ _=>True) v (cellsOf (qs.getD j [])):=by
  by_cases hq:logC (qs.getD j [])=0
  · refine⟨_,_,h1 hq,?_⟩;rw[show cellsOf (qs.getD j [])=[] by unfold cellsOf;rw[if_pos hq]];exact Kd.R_nil _ _ _ _ _
  · obtain⟨v,he,hv⟩:=h2 hq;refine⟨v,_,he,?_⟩;rw[show cellsOf (qs.getD j [])=a0V (qs.getD j []) by unfold cellsOf;rw[if_neg hq]];exact hv
 have hm1:MapB Tryz.prog 3 .i64 w1.heap[md]? n f:=by rw[hb'.block md h.mlt];exact h.mp
 obtain⟨w2,hrun,hm2,hg2,hs2⟩:=a5z (t:=211) Tryz.underlying3 Tryz.underlying211 hwf hm1 hn v;have hlt:=h.mlt;have hw:=h.below.size;have hsz:w.heap.size<=w2.heap.size:=by have:=hb'.size;omega
 have far:∀ {u:Value} {xs:List K3},kc.R 170 w1 w0.heap.size (λ b=>¬ Out b/\b≠md) u xs->kc.R 170 w2 w0.heap.size (λ b=>¬ Out b/\b≠md) u xs:=λ {u xs} hu=>
  Kd.R_grown hu hg2 (λ k hk e=>by injection e with e;exact hk.2 e)
 have hnew:kc.R 170 w2 w0.heap.size (λ b=>¬ Out b/\b≠md) v (cellsOf (qs.getD j [])):=by
  refine far (Kd.R_mono (Kd.R_lower (Kd.R_bound hv) hw) (λ k hk=>⟨λ ho=>?_,?_⟩))
  · have:=(h.oge k ho).2;have:=hk.2.1;omega
  · have:=hk.2.1;omega
 refine⟨v,k,he,w2,hrun,⟨?_,hm2,by omega,?_,h.mge,λ b hb=>⟨(h.oge b hb).1,by have:=(h.oge b hb).2;omega⟩,?_,h.ne⟩,hnew,hb',hg2⟩
 · exact a1g (a0h h.blk hb') hg2 (λ e=>by injection e with e;exact h.ne.2.2 e)
 · exact(h.below.trans (hb'.mono h.below.size)).grown hg2 (Nat.le_trans h.below.size hb'.size) (λ k hk=>by injection hk with hk;subst hk;exact h.mge)
 · intro i hi u hu
   by_cases e:i=(j:Int)
   · subst e;rw[a3J] at hu
     cases hu
     simpa using hnew
   · rw[a3K _ _ e] at hu;exact far (Kd.R_below (h.ent i hi u hu) hb')
theorem c1P {lg:Int} {one:Bool} {A:Option Addr} {c:Nat} {qs:List (List Int)} {tb me md n j:Nat} {f:Int->Option Value} {Out:Nat->Prop} {w0 w w1 w2:World} {ad:Addr} {u1 u2 u3:Value} (h:DecInv lg one A c qs tb me md n f Out w0 w) (hlt:ad.block<w0.heap.size)
    (hb:Below w.heap.size w w1/\w1.grownBy w2 (some md)) (h1:w.cell? ⟨tb,2,none⟩=some u1) (h2:w.cell? ⟨tb,4,none⟩=some u2) (h3:w.cell? (ad.add j)=some u3) :
    w1.cell? ⟨tb,2,none⟩=some u1/\w1.cell? ⟨tb,4,none⟩=some u2/\w1.cell? (ad.add j)=some u3/\w2.cell? ⟨tb,2,none⟩=some u1/\w2.cell? ⟨tb,4,none⟩=some u2/\w2.cell? (ad.add j)=some u3:=by
 have ht:tb<w.heap.size:=a0g h.blk;have hab:(ad.add j).block=ad.block:=by simp only[Addr.add];split <;> rfl
 have e1:∀ k,k<w.heap.size->k≠md->w2.heap[k]?=w.heap[k]?:=λ k hk hne=>(hb.2.block k (Nat.lt_of_lt_of_le hk hb.1.size) (λ e=>by injection e with e;exact hne e)).trans (hb.1.block k hk);have e2:∀ (a:Addr) u,a.block<w.heap.size->w.cell? a=some u->w1.cell? a=some u:=λ a u ha hu=>(World.cell?_of_block (hb.1.block a.block ha)).trans hu;have e3:∀ (a:Addr) u,a.block<w.heap.size->a.block≠md->w.cell? a=some u->w2.cell? a=some u:=λ a u ha hne hu=>(World.cell?_of_block (e1 a.block ha hne)).trans hu;have hw:=h.below.size;have hm:=h.mge;exact⟨e2 _ _ ht h1,e2 _ _ ht h2,e2 _ _ (by rw[hab];omega) h3,e3 _ _ ht h.ne.2.2 h1,e3 _ _ ht h.ne.2.2 h2,e3 _ _ (by rw[hab];omega) (by rw[hab];omega) h3⟩
theorem c1Q (lg:Int) (one:Bool) (A:Option Addr) (c:Nat) (qs:List (List Int)) (tb me md n ci:Nat) (f:Int->Option Value) (Out:Nat->Prop) (w0 w:World) (hrd:kq.C w0 A qs.length qs) (h:DecInv lg one A c qs tb me md n f Out w0 w) (hn:n<=1000000) (hci:ci<=1000000) (hj:listI one ci<qs.length) :
    Calls Tryz.prog 120 #[.pointer (some ⟨tb,0,none⟩),.int .i64 ci] w (b3H lg one A c qs tb me md n Out (listI one ci) w0 w):=by
 have hjl:listI one ci<=1000000:=by unfold listI;split <;> simp <;> omega
 obtain⟨j,hje⟩:∃ j,j=listI one (ci:Int):=⟨_,rfl⟩;have hlist:=b3F lg one (.slice A qs.length c) (.map (some me)) (.map (some md)) tb ci w h.blk;rw[<- hje] at hj hjl hlist ⊢;have hc3:w.cell? ⟨tb,4,none⟩=some (.map (some md)):=(a0a h.blk 4).trans rfl;have hlk:=a5y (t:=211) (e:=165) (z:=nilS) (b:=md) (w:=w) Tryz.underlying3 Tryz.underlying211 (a6V hjl) (zeroCells w) h.mp;have HH:=Lib.hid h;have HL:=Lib.hid hlist;have HQ:=Lib.hid hj;have HN:=Lib.hid hn;have HRD:=Lib.hid hrd;clear hrd h hlist hj hn hje;obtain⟨v0,hv0⟩:∃ v0,v0=(f j).getD nilS:=⟨_,rfl⟩;rw[<- hv0] at hlk
 have hrow:kc.R 170 w w0.heap.size (λ b=>¬ Out b/\b≠md) v0 (cellsOf (qs.getD j []))\/v0=nilS:=by
  cases hf:f (j:Int) with
  | none=>right;rw[hv0,hf];rfl
  | some v=>left;have:=HH.out.ent j (by omega) v hf;rw[hv0,hf];simpa using this
 clear hv0
 by_cases hnil:v0=nilS
 · subst hnil;have hc2:w.cell? ⟨tb,2,none⟩=some (.slice A qs.length c):=(a0a HH.out.blk 2).trans rfl;obtain⟨ad,B,c2,rfl,hqc,_,hqC⟩:=kq_at (Kd.C_below HRD.out HH.out.below) j HQ.out;obtain⟨q,hqq⟩:∃ q,q=qs.getD j []:=⟨_,rfl⟩;rw[<- hqq] at hqc hqC;have HQC:=Lib.hid (And.intro hqq hqC);have hqlt:ad.block<w0.heap.size:=Kd.C_lt HRD.out (by have:=HQ.out;omega) (by decide);have hjI:(j:Int)<(qs.length:Int):=by have:=HQ.out;omega
   have HLT:=Lib.hid hqlt;have HWF:=Lib.hid (a6V hjl);have HNM:Hid (n<maxLen):=by show _<_;have:=HN.out;unfold maxLen;omega
   clear hqq hqC hqlt hrow;unfold nilS at hlk;have hqn:=Lib.run_eql_slice_nil (P:=Tryz.prog) w 165 170 none 0 0 0 0 Tryz.underlying165;go_enter Tryz.func120,Tryz.ntmps120;go_wp2_with fail;refine HL.out.mono ?_;rintro e w' ⟨rfl,rfl⟩;go_wp2_with fail
   go_region_held3 (λ w'=>w'.cell? ⟨tb,2,none⟩=some (.slice (some ad) qs.length c)/\w'.cell? ⟨tb,4,none⟩=some (.map (some md))/\w'.cell? (ad.add j)=some (.slice B q.length c2)) ((repeat' apply And.intro) <;> first | assumption)
    (first | (go_at_call 171;refine(c1y B c2 q _ (Kd.C_drew HQC.out.2)).mono ?_;rintro e w1 hp;obtain⟨v,k,rfl,w2,hrun,HP⟩:=c1O HH.out HQC.out.1 HWF.out HNM.out hp;obtain⟨a1,a2,a3,b1,b2,b3⟩:=c1P HH.out HLT.out HP.out.2.2 hc2 hc3 hqc))
   all_goals
    have hlk2:=a5y (t:=211) (e:=165) (z:=nilS) (b:=md) (w:=w2) Tryz.underlying3 Tryz.underlying211 HWF.out (zeroCells w2) HP.out.1.mp;rw[a3J] at hlk2;go_wp2_with fail;go_ret;refine⟨_,_,rfl,HP.out.1,HP.out.2.1,?_⟩;exact(Only.of_below HP.out.2.2.1).trans2 (Only.of_grown (S:=λ b=>b=md) HP.out.2.2.2 (λ k hk=>by injection hk with hk;exact hk.symm)) (λ _ _ h=>h)
 · have hrow2:=hrow.resolve_right hnil;obtain⟨cs,hcs⟩:∃ cs,cs=cellsOf (qs.getD j []):=⟨_,rfl⟩;rw[<- hcs] at hrow2;obtain⟨A1,c1,hv⟩:=Kd.R_slice hrow2;have HROW:=Lib.hid (And.intro hcs hrow2);clear hcs;clear hrow hrow2
   obtain⟨ad1,rfl⟩:∃ ad1,A1=some ad1:=by
    cases A1 with
    | some ad1=>exact⟨ad1,rfl⟩
    | none=>
     exfalso;obtain⟨inner,ho⟩:=Kd.R_own HROW.out.2;rcases ho.2 with ⟨e,_⟩ | ⟨g,cap,cur,e,_⟩
     · exact hnil e
     · rw[e] at hv;cases hv
   subst hv;have hqn:=Lib.run_eql_slice_nil (P:=Tryz.prog) w 165 170 (some ad1) cs.length c1 0 0 Tryz.underlying165;go_enter Tryz.func120,Tryz.ntmps120;go_wp2_with fail;refine HL.out.mono ?_;rintro e w' ⟨rfl,rfl⟩;go_wp2_with fail;go_ret;exact⟨f,_,rfl,{ HH.out with mp:=b3n HH.out.mp (Nat.le_succ _) },by rw[<- HROW.out.1];exact HROW.out.2,Only.refl _ _⟩
def b3I (xs:List Int) (w:World) (e:Ending) (w':World):Prop:=∃ v,e=.returned v/\(Kd.int .u8).R 5 w' w.heap.size (λ _=>True) v xs/\Below w.heap.size w w'
theorem a6W (A:Option Addr) (c:Nat) (xs:List Int) (w:World) (hr:(Kd.int .u8).C w A xs.length xs) (hl:xs.length<=1000000) (hc:xs.length<=c) (hnil:A=none->c=0) :
    Calls Tryz.prog 106 #[.slice A xs.length c] w (b3I xs w):=by
 cases A with
 | none=>
  have hc0:=hnil rfl;have h0:xs=[]:=List.eq_nil_of_length_eq_zero (by omega);subst h0;subst hc0;have hq:=Lib.run_eql_slice_nil (P:=Tryz.prog) w 22 5 none 0 0 0 0 Tryz.underlying22;go_enter Tryz.func106,Tryz.ntmps106;go_wp2_with fail;go_ret;exact⟨_,rfl,Kd.R_nil _ _ _ _ _,Below.refl _ _⟩
 | some ad=>
  have HR:=Lib.hid (Kd.C_alloc hr (.cells #[] 5));have HE:=Lib.hid (a6P .u8 5 w w.heap.size (λ _=>True) (Nat.le_refl _) trivial);have HL:Hid ((([]:List Int).length+xs.length)*1<=140737488355328):=by show _<=_;simp;omega
  have hq:=Lib.run_eql_slice_nil (P:=Tryz.prog) w 22 5 (some ad) xs.length c 0 0 Tryz.underlying22;clear hr;go_enter Tryz.func106,Tryz.ntmps106;go_wp2_with (at_builtin;refine Kd.R_append_rows (Kd.int .u8) (Rr:=(Kd.int .u8).K (w.alloc (.cells #[] 5))) (w0:=w) (W:=w.alloc (.cells #[] 5)) w.heap.size rfl (.tmp 5) (.tmp 6) 22 5 (.int .u8 0) 1 rfl Tryz.underlying22 a0I rfl (by decide) (by decide) (.slice (some ⟨w.heap.size,0,none⟩) 0 0) [] xs (some ad) xs.length c (λ _=>True) (λ _=>False) rfl rfl HE.out HR.out (λ _ _ h=>h) (λ _ h=>h.elim) (λ _ _=>trivial) ((Below.refl _ _).alloc (Nat.le_refl _) _) (by simp) HL.out ?_;intro vi w2 hr2 hb2 hg2 hat2;have HR2:=Lib.hid hr2;have HB2:=Lib.hid hb2;clear hr2 hb2 hg2 hat2);go_ret;rw[List.nil_append] at HR2;exact⟨_,rfl,HR2.out,HB2.out⟩
theorem b3J {κ:IntKind} {e base n c:Nat} {ok:Nat->Prop} {w:World} {xs:List Int} (h:(Kd.int κ).R e w base ok (.slice none n c) xs):c=0:=by
 obtain⟨_,inner,ho,_⟩:=h;rcases ho.2 with ⟨hv,_⟩ | ⟨g,cap,cur,hv,_⟩
 · injection hv
 · cases hv
theorem c1R (base p:Nat) (v0:Value) (bs:List Bool) (w:World) (h:WrVal w base p v0 bs) (hB:base<=w.heap.size) (hl:bs.length<=1000000) :
    Calls Tryz.prog 202 #[.pointer (some ⟨p,0,none⟩),.int .u32 1] w (a6Q base p v0 bs true w):=b3A base p v0 bs 1 w h hB hl (by decide)
def c1S (bs:List Bool) (w:World) (e:Ending) (w':World):Prop:=∃ v,e=.returned v/\(Kd.int .u8).R 5 w' w.heap.size (λ _=>True) v (packB (bs++[true]))/\Below w.heap.size w w'
theorem c1T (base p:Nat) (v0:Value) (bs:List Bool) (w:World) (h:WrVal w base p v0 bs) (hl:bs.length<=900000) :
    Calls Tryz.prog 150 #[.pointer (some ⟨p,0,none⟩)] w (c1S bs w):=by
 have hc0:w.cell? ⟨p,0,none⟩=some v0:=(a0a h.blk 0).trans rfl;have hc1:w.cell? ⟨p,1,none⟩=some (.int .i64 bs.length):=(a0a h.blk 1).trans rfl;obtain⟨A,c,rfl⟩:=Kd.R_slice h.row;have HR:=Lib.hid (Kd.R_reads' h.row);have HNil:Hid (A=none->c=0):=λ e=>by subst e;exact b3J h.row
 have HL:Hid ((packB bs).length<=1000000):=by show _<=_;rw[a0B];omega
 obtain⟨n,hn⟩:∃ n,n=bs.length:=⟨_,rfl⟩;rw[<- hn] at hc1;have HN:=Lib.hid (And.intro hn hl);clear h hn hl;go_enter Tryz.func150,Tryz.ntmps150;go_wp2_with fail
 go_region_held3 (λ w'=>Below w.heap.size w w'/\w'.cell? ⟨p,0,none⟩=some (.slice A (packB bs).length c)/\w'.cell? ⟨p,1,none⟩=some (.int .i64 n)) ((repeat' apply And.intro) <;> first | exact(Below.refl _ _).drew | assumption | exact a0p hb ‹_› | exact a0p (hb.alloc hb.size _) ‹_› | (refine a6f ?_ ?_ hb <;> first | assumption | exact Below.size (by assumption)) | exact⟨hb.os,hb.tape,hb.output,hb.size,hb.block⟩ | exact⟨(hb.alloc hb.size _).os,(hb.alloc hb.size _).tape,(hb.alloc hb.size _).output,(hb.alloc hb.size _).size,(hb.alloc hb.size _).block⟩)
  (first | (go_at_call 106;refine(a6W _ _ _ _ (Kd.C_below HR.out.2.2 (by first | exact(Below.refl _ _).drew | exact And.left (by assumption))) HL.out HR.out.2.1 HNil.out).mono ?_;rintro e w' ⟨v,rfl,hv,hb⟩;obtain⟨A1,c1,rfl⟩:=Kd.R_slice hv))
 have hw1:WrVal (w'.alloc (.cells #[.slice A1 (packB bs).length c1,.int .i64 n] 229)) w.heap.size w'.heap.size (.slice A1 (packB bs).length c1) bs:=by
  rw[HN.out.1];exact⟨a0i _ _,Kd.R_alloc (Kd.R_mono (Kd.R_bound hv) (λ k hk=>by have:=hk.2.2.1;omega)) _⟩
 have HW1:=Lib.hid hw1;have HB1:=Lib.hid hb;clear hw1 hb hv hc0 hc1;rename_i hheld;have HB2:=Lib.hid hheld.1;clear hheld;obtain⟨W3,hW3⟩:∃ W3,W3=w'.alloc (.cells #[.slice A1 (packB bs).length c1,.int .i64 n] 229):=⟨_,rfl⟩;rw[<- hW3];rw[<- hW3] at HW1 HB2;clear hW3;go_wp2_with fail;refine(c1R w.heap.size w'.heap.size _ bs W3 HW1.out HB2.out.size (by have:=HN.out.2;omega)).mono ?_;rintro e w4 ⟨rfl,v',h4,_,ho⟩;have hc4:w4.cell? ⟨w'.heap.size,0,none⟩=some v':=(a0a h4.blk 0).trans rfl;have H4:=Lib.hid (And.intro h4 ho);clear h4 ho;go_wp2_with fail;go_ret;refine⟨_,rfl,Kd.R_mono H4.out.1.row (λ _ _=>trivial),HB2.out.trans (H4.out.2.below HB2.out.size (λ k hk=>?_))⟩;rcases hk with hk | hk
 · subst hk;exact HB1.out.size
 · exact((Kd.R_bound HW1.out.row).1 k hk).2.1
structure RdAt (w:World) (base p:Nat) (ps:List Int) (left:Nat):Prop where
 ex:∃ g c,g<p/\w.heap[p]?=some (.cells #[.slice (some ⟨g,0,none⟩) ps.length c,.int .i64 left] 207 (0,0))/\(Kd.int .u8).R 5 w base (λ k=>k≠p) (.slice (some ⟨g,0,none⟩) ps.length c) ps
def bitI (ps:List Int) (i:Nat):Nat:=(ps.getD (i/8) 0).toNat/2^(i%8)%2
def takeV (ps:List Int) (left:Nat):Nat->Nat
 | 0=>0
 | k+1=>2*takeV ps left k+bitI ps (left-(k+1))
theorem a6X (ps:List Int) (i:Nat):bitI ps i<=1:=by unfold bitI;omega
theorem a2d (ps:List Int) (left:Nat):∀ k,takeV ps left k<2^k
 | 0=>by simp[takeV]
 | k+1=>by
  have h1:=a2d ps left k;have h2:=a6X ps (left-(k+1));simp only[takeV,Nat.pow_succ];omega
theorem c1U (y j:Nat) (hy:y<256):bits BinOp.and IntKind.u32 ((y:Int)/2^j%4294967296) 1=((y/2^j%2:Nat):Int):=by
 have e1:(y:Int)/2^j=((y/2^j:Nat):Int):=by simp
 have h2:=Nat.div_le_self y (2^j);rw[e1];obtain⟨z,hz⟩:∃ z,z=y/2^j:=⟨_,rfl⟩;rw[<- hz] at h2 ⊢;have e2:(z:Int)%4294967296=(z:Int):=by omega
 rw[e2];have h:=bits_mask .u32 32 (by decide) (λ n h0 h1=>by rw[IntKind.wrap_u32];omega) 1 (by decide) (z:Int) (by omega) (by omega);have e:((2:Int)^1-1)=1:=by decide
 rw[e] at h;rw[h];omega
theorem c1V (base p:Nat) (ps:List Int) (left i:Nat) (w:World) (h:RdAt w base p ps left) (hps:∀ x∈ps,0<=x/\x<256) (hi:i<8*ps.length) (hl:ps.length<=1000000) :
    Calls Tryz.prog 214 #[.pointer (some ⟨p,0,none⟩),.int .i64 i] w λ e w'=>e=.returned (.int .u32 (bitI ps i))/\w=w':=by
 obtain⟨g,c,hgp,hb,hr⟩:=h.ex;have hc0:w.cell? ⟨p,0,none⟩=some (.slice (some ⟨g,0,none⟩) ps.length c):=(a0a hb 0).trans rfl;obtain⟨hcx,_⟩:=a1D hr (i/8) (by omega)
 obtain⟨y,hy⟩:∃ y:Nat,ps.getD (i/8) 0=y:=by
  have:0<=ps.getD (i/8) 0:=by rw[List.getD_eq_getElem?_getD,List.getElem?_eq_getElem (by omega)];exact(hps _ (List.getElem_mem _)).1
  exact⟨(ps.getD (i/8) 0).toNat,by omega⟩
 have hy2:y<256:=by
  have:ps.getD (i/8) 0<256:=by rw[List.getD_eq_getElem?_getD,List.getElem?_eq_getElem (by omega)];exact(hps _ (List.getElem_mem _)).2
  omega
 rw[hy] at hcx;have hz:bitI ps i=y/2^(i%8)%2:=by unfold bitI;rw[hy];rfl
 rw[hz];have HB:=Lib.hid (And.intro hb (And.intro hr (And.intro hy (And.intro hz hps))));clear hb hr hy hz hps h hgp;obtain⟨k,hk⟩:∃ k,k=i/8:=⟨_,rfl⟩;obtain⟨j,hj⟩:∃ j,j=i%8:=⟨_,rfl⟩;have hkI:(i:Int)/8=(k:Int):=by omega
 have hjI:(i:Int)%8=(j:Int):=by omega
 have hkl:(k:Int)<(ps.length:Int):=by omega
 rw[<- hk] at hcx;rw[<- hj];have hj8:j<8:=by omega
 clear hk hj;go_enter Tryz.func214,Tryz.ntmps214;go_wp2_with fail;rw[c1U y j hy2];go_ret;exact⟨rfl,rfl⟩
theorem c1W (base p:Nat) (ps:List Int) (left:Nat) (w:World) (h:RdAt w base p ps left) :
    Calls Tryz.prog 169 #[.pointer (some ⟨p,0,none⟩)] w λ e w'=>e=.returned (.int .i64 left)/\w=w':=by
 obtain⟨g,c,hgp,hb,hr⟩:=h.ex;have hc1:w.cell? ⟨p,1,none⟩=some (.int .i64 left):=(a0a hb 1).trans rfl;clear h hb hr hgp;go_enter Tryz.func169,Tryz.ntmps169;go_wp2_with fail;go_ret;exact⟨rfl,rfl⟩
def a6Y (base p:Nat) (ps:List Int) (left n:Nat) (w:World) (e:Ending) (w':World):Prop:=
 if n<=left then e=.returned (.tuple #[.int .u32 (takeV ps left n),.bool true])/\RdAt w' base p ps (left-n)/\Only (λ k=>k=p) w w' else e=.returned (.tuple #[.int .u32 0,.bool false])/\w=w'
theorem c1X {w:World} {base p left m:Nat} {ps:List Int} (h:RdAt w base p ps left):RdAt (w.setCell ⟨p,1,none⟩ (.int .i64 (m:Int))) base p ps m:=by
 obtain⟨g,c,hgp,hb,hr⟩:=h.ex;refine⟨g,c,hgp,?_,Kd.R_far (p:=⟨p,1,none⟩) hr (λ k hk=>hk) _⟩;rw[a0x hb 1];rfl
theorem a9g {w:World} {base p left:Nat} {ps:List Int} (h:RdAt w base p ps left):w.cell? ⟨p,1,none⟩=some (.int .i64 left)/\w.frozen? ⟨p,1,none⟩=false:=by
 obtain⟨g,c,hgp,hb,hr⟩:=h.ex;exact⟨(a0a hb 1).trans rfl,a0e hb 1⟩
theorem b3K (base p:Nat) (ps:List Int) (left n:Nat) (w:World) (h:RdAt w base p ps left) (hps:∀ x∈ps,0<=x/\x<256) (hl:left<=8*ps.length) (hl2:ps.length<=1000000) (hn:n<=24) :
    Calls Tryz.prog 167 #[.pointer (some ⟨p,0,none⟩),.int .i64 n] w (a6Y base p ps left n w):=by
 obtain⟨hc1,hf1⟩:=a9g h;have HH:=Lib.hid h;have HP:=Lib.hid (And.intro hps (And.intro hl hl2));have hlb:left<=8000000:=by omega
 clear h hps hl hl2;unfold a6Y
 by_cases hle:n<=left
 · simp only[if_pos hle];have hd1:¬ left<n:=by omega
   have hd2:¬ 24<(n:Int):=by omega
   have hd3:¬ (n:Int)<0:=by omega
   go_enter Tryz.func167,Tryz.ntmps167;go_wp2_with fail;go_loopw [6,22] (λ v kv wr=>∃ (k:Nat),kv=.int .i64 k/\k<=n/\v=.int .u32 (takeV ps left k)/\Hid (RdAt wr base p ps (left-k)/\Only (λ k=>k=p) w wr)) (λ _ kv _=>n-(intOf kv).toNat)
   case atStart=>exact⟨0,rfl,by omega,rfl,HH.out,Only.refl _ _⟩
   case round=>
    obtain⟨k,rfl,hk,rfl,H⟩:=hrel
    by_cases hlt:k<n
    · obtain⟨hr1,hr2⟩:=a9g H.out.1;obtain⟨m,hm⟩:∃ m,left-k=m+1:=⟨left-k-1,by omega⟩;rw[hm] at hr1;obtain⟨W1,hW1⟩:∃ W1,W1=wr.setCell ⟨p,1,none⟩ (.int .i64 (m:Int)):=⟨_,rfl⟩;have hW:=Lib.hid hW1;have hrd:RdAt W1 base p ps m:=by rw[hW1];exact c1X H.out.1
      obtain⟨hw1,hw2⟩:=a9g hrd;have HRD:=Lib.hid (And.intro hrd hm);obtain⟨V,hV⟩:∃ V,V=takeV ps left k:=⟨_,rfl⟩
      have hVl:V<16777216:=by
       have h1:=a2d ps left k;have h2:2^k<=2^24:=Nat.pow_le_pow_right (by omega) (by omega);omega
      rw[<- hV];have HV:=Lib.hid hV;have hm8:m<=8000000:=by omega
      clear hrd hm hV hW1;go_wp2_with fail;rw[<- hW.out];have hmlt:m<8*ps.length:=by have:=HP.out.2.1;have:=HRD.out.2;omega
      refine(c1V base p ps m m W1 HRD.out.1 HP.out.1 hmlt HP.out.2.2).mono ?_;rintro e w' ⟨rfl,rfl⟩;have hbl:=a6X ps m;obtain⟨B,hB⟩:∃ B,B=bitI ps m:=⟨_,rfl⟩;rw[<- hB] at hbl ⊢;have HBB:=Lib.hid hB;clear hB;go_wp2_with fail;go_roundw
      case rel=>
       refine⟨k+1,by go_num,by omega,?_,?_,?_⟩
       · have e:takeV ps left (k+1)=2*V+B:=by
           show 2*takeV ps left k+bitI ps (left-(k+1))=_
           rw[<- HV.out,show left-(k+1)=m by have:=HRD.out.2;omega,<- HBB.out]
         rw[e];go_num
       · rw[show left-(k+1)=m by have:=HRD.out.2;omega];exact HRD.out.1
       · rw[hW.out];exact H.out.2.set1 _ _
      case measure=>simp[intOf];omega
    · have hkn:k=n:=by omega
      subst hkn;go_wp2_with fail;go_ret2;exact⟨rfl,H.out.1,H.out.2⟩
 · simp only[if_neg hle];go_enter Tryz.func167,Tryz.ntmps167;go_wp2_with fail;go_ret2;exact⟨rfl,rfl⟩
def lastB (ps:List Int):Int:=ps.getD (ps.length-1) 0
def a0H (ps:List Int):Nat:=8*(ps.length-1)+Lib.bitLen (lastB ps).toNat-1
def c1Y (ps:List Int) (w:World) (e:Ending) (w':World):Prop:=
 (ps.length=0\/lastB ps=0->e=.returned (.tuple #[.pointer none,.int .i64 2])) /\
 (¬ (ps.length=0\/lastB ps=0)->∃ p,e=.returned (.tuple #[.pointer (some ⟨p,0,none⟩),.int .i64 0])/\w.heap.size<=p/\RdAt w' w.heap.size p ps (a0H ps))/\Below w.heap.size w w'
theorem a9h (n:Nat) (hn:n<=1000000) (w:World):(Instr.makeSlice 22 (.int .i64 n) (.int .i64 n)).run Tryz.prog w=.ok (.slice (some ⟨w.heap.size,0,none⟩) n n) (w.alloc (.cells (madeCells #[.int .u8 0] n) 5)):=by
 obtain⟨i0,hi,hzz⟩:=Option.map_eq_some_iff.1 a0I;simp only[Prod.mk.injEq] at hzz;obtain⟨hz0,hz1,hz2⟩:=hzz;have hr:=run_make (P:=Tryz.prog) w 22 5 i0 (.int .u8 0) Tryz.underlying22 hi hz0 .i64 .i64 (n:Int) (n:Int) (by omega) (by omega) (by rw[hz2];omega) (by omega);rw[hz1] at hr;simpa [Value.cells] using hr
theorem a9i (n:Nat) (hn:n<=1000000) (W:World) (ok:Nat->Prop) (hok:ok W.heap.size) (base:Nat) (hb:base<=W.heap.size):(Kd.int .u8).R 5 (W.alloc (.cells (madeCells #[.int .u8 0] n) 5)) base ok (.slice (some ⟨W.heap.size,0,none⟩) n n) (List.replicate n 0):=by
 have hr:=Kd.reps_made (R:=(Kd.int .u8).M (W.alloc (.cells (madeCells #[.int .u8 0] n) 5)) base (λ k=>ok k/\some k≠(Value.slice (some ⟨W.heap.size,0,none⟩) n n).ownBlock)) (z:=.int .u8 0) (size:=1) (z0:=(0:Int)) rfl Nat.one_pos rfl n;have e:(Value.int .u8 0).cells = #[.int .u8 0]:=rfl;rw[e,Nat.mul_one] at hr;refine⟨λ k hk=>by cases hk;exact hok,_,⟨?_,.inr ⟨W.heap.size,n,madeCells #[.int .u8 0] n,by simp,hb,a0i W _,by simp,by unfold maxLen;omega,?_,?_⟩⟩,hr⟩
 · simp[size_madeCells];exact(Nat.mul_one n).symm
 · rw[size_madeCells];exact(Nat.mul_one n).symm
 · rw[List.length_replicate];exact List.take_of_length_le (by simp[size_madeCells];exact Nat.le_of_eq (Nat.mul_one n).symm)
theorem a9j:(Tryz.prog.info? 5).map (·.size)=some 1:=by kernel_rfl
theorem c1Z {w:World} {ad:Addr} {m bl:Nat} {ps:List Int} (hm:m<1000000) (hr:(Kd.int .u8).C w (some ad) (m+1) ps) :
    Hid ((((w.alloc (.cells (madeCells #[.int .u8 0] (m+1)) 5)).alloc (.cells #[.slice (some ⟨w.heap.size,0,none⟩) (m+1) (m+1),.int .i64 (8*(m:Int)+bl-1)] 207)).drew.heap[w.heap.size+1]?=some (.cells #[.slice (some ⟨w.heap.size,0,none⟩) (m+1) (m+1),.int .i64 (8*(m:Int)+bl-1)] 207 (0,0))) /\
     (Kd.int .u8).R 5 ((w.alloc (.cells (madeCells #[.int .u8 0] (m+1)) 5)).alloc (.cells #[.slice (some ⟨w.heap.size,0,none⟩) (m+1) (m+1),.int .i64 (8*(m:Int)+bl-1)] 207)).drew w.heap.size (λ k=>k≠w.heap.size+1) (.slice (some ⟨w.heap.size,0,none⟩) (m+1) (m+1)) (List.replicate (m+1) 0) /\
     (Kd.int .u8).C ((w.alloc (.cells (madeCells #[.int .u8 0] (m+1)) 5)).alloc (.cells #[.slice (some ⟨w.heap.size,0,none⟩) (m+1) (m+1),.int .i64 (8*(m:Int)+bl-1)] 207)).drew (some ad) (m+1) ps /\
     Below w.heap.size w ((w.alloc (.cells (madeCells #[.int .u8 0] (m+1)) 5)).alloc (.cells #[.slice (some ⟨w.heap.size,0,none⟩) (m+1) (m+1),.int .i64 (8*(m:Int)+bl-1)] 207)).drew):=by
 have hb:Below w.heap.size w ((w.alloc (.cells (madeCells #[.int .u8 0] (m+1)) 5)).alloc (.cells #[.slice (some ⟨w.heap.size,0,none⟩) (m+1) (m+1),.int .i64 (8*(m:Int)+bl-1)] 207)).drew:=(((Below.refl _ _).alloc (Nat.le_refl _) _).alloc (by simp) _).drew;refine⟨?_,?_,Kd.C_below hr hb,hb⟩
 · have h:=a0i (w.alloc (.cells (madeCells #[.int .u8 0] (m+1)) 5)) (.cells #[.slice (some ⟨w.heap.size,0,none⟩) (m+1) (m+1),.int .i64 (8*(m:Int)+bl-1)] 207);rw[show(w.alloc (.cells (madeCells #[.int .u8 0] (m+1)) 5)).heap.size=w.heap.size+1 by simp] at h;exact h
 · exact Kd.R_drew (Kd.R_alloc (a9i (m+1) (by omega) w (λ k=>k≠w.heap.size+1) (by omega) w.heap.size (Nat.le_refl _)) _)
theorem c2a {w W3 w4:World} {m bl x:Nat} {ps:List Int} (hb:W3.heap[w.heap.size+1]?=some (.cells #[.slice (some ⟨w.heap.size,0,none⟩) (m+1) (m+1),.int .i64 (8*(m:Int)+bl-1)] 207 (0,0))) (hm:ps.length=m+1)
    (hr:(Kd.int .u8).R 5 w4 w.heap.size (λ k=>k≠w.heap.size+1) (.slice (some ⟨w.heap.size,0,none⟩) (m+1) (m+1)) (ps.take (min (m+1) (List.replicate (m+1) (0:Int)).length)++(List.replicate (m+1) (0:Int)).drop (min (m+1) (List.replicate (m+1) (0:Int)).length)))
    (hg:W3.grownBy w4 (Value.slice (some ⟨w.heap.size,0,none⟩) (m+1) (m+1)).ownBlock) (hbl:Below w.heap.size w w4) (hx:bl=Lib.bitLen x) (hl:lastB ps=x) (hz:¬ x=0) :
    ¬ (ps.length=0\/lastB ps=0)/\RdAt w4 w.heap.size (w.heap.size+1) ps (a0H ps)/\Below w.heap.size w w4:=by
 have e1:ps.take (min (m+1) (List.replicate (m+1) (0:Int)).length)++(List.replicate (m+1) (0:Int)).drop (min (m+1) (List.replicate (m+1) (0:Int)).length)=ps:=by
  rw[List.length_replicate,Nat.min_self,List.take_of_length_le (by omega),List.drop_of_length_le (by simp)];simp
 rw[e1] at hr
 have hpos:0<Lib.bitLen x:=by
  by_cases e:x<2^64
  · exact(a3m x (by omega) e).1
  · rcases Nat.eq_zero_or_pos (Lib.bitLen x) with h | h
    · exfalso;unfold Lib.bitLen at h;rw[show(64:Nat)=63+1 from rfl,Lib.bitLenAux,if_neg hz] at h;omega
    · exact h
 have e2:(8*(m:Int)+bl-1)=(a0H ps:Nat):=by
  unfold a0H;rw[hl,hm,hx];simp only[Int.toNat_natCast];omega
 rw[e2] at hb;have hb4:=a1g hb hg (by show some (w.heap.size+1)≠some w.heap.size;intro e;injection e;omega);refine⟨by rw[hm,hl];omega,⟨w.heap.size,m+1,by omega,?_,?_⟩,hbl⟩
 · rw[hm];exact hb4
 · rw[hm];exact hr
theorem c2b (A:Option Addr) (c:Nat) (ps:List Int) (w:World) (hr:(Kd.int .u8).C w A ps.length ps) (hps:∀ x∈ps,0<=x/\x<256) (hl:ps.length<=1000000) :
    Calls Tryz.prog 116 #[.slice A ps.length c] w (c1Y ps w):=by
 by_cases h0:ps.length=0
 · have hb:((ps.length:Int)==0)=true:=by simpa using List.eq_nil_of_length_eq_zero h0
   have HR:=Lib.hid hr;have H0:=Lib.hid h0;clear hr hps h0;go_enter Tryz.func116,Tryz.ntmps116;go_wp2_with fail;go_ret2;exact⟨λ _=>rfl,λ h=>absurd (.inl H0.out) h,Below.refl _ _⟩
 · have hb:((ps.length:Int)==0)=false:=by simp;intro e;exact h0 (by rw[e];rfl)
   obtain⟨m,hm⟩:∃ m,ps.length=m+1:=⟨ps.length-1,by omega⟩;obtain⟨ad,rfl,hc⟩:=a0v hr m (by omega)
   obtain⟨x,hx⟩:∃ x:Nat,lastB ps=x:=by
    have:0<=lastB ps:=by unfold lastB;rw[List.getD_eq_getElem?_getD,List.getElem?_eq_getElem (by omega)];exact(hps _ (List.getElem_mem _)).1
    exact⟨(lastB ps).toNat,by omega⟩
   have hx2:ps.getD m 0=x:=by rw[<- hx];unfold lastB;rw[hm];rfl
   have hx3:x<256:=by
    have:ps.getD m 0<256:=by rw[List.getD_eq_getElem?_getD,List.getElem?_eq_getElem (by omega)];exact(hps _ (List.getElem_mem _)).2
    omega
   rw[hx2] at hc;have hwm:IntKind.i64.wrap (m:Int)=m:=i64_in _ (by omega);rw[hm] at hb hr ⊢;have hmk:∀ w:World,(Instr.makeSlice 22 (.int .i64 ((m:Int)+1)) (.int .i64 ((m:Int)+1))).run Tryz.prog w=.ok (.slice (some ⟨w.heap.size,0,none⟩) (m+1) (m+1)) (w.alloc (.cells (madeCells #[.int .u8 0] (m+1)) 5)):=λ w=>by have:=a9h (m+1) (by omega) w;simpa using this
   have HR:=Lib.hid hr;have HX:=Lib.hid (And.intro hx (And.intro hm (And.intro hps hl)));have hm6:m<1000000:=by omega
   clear hr hx hm hx2 hps hl h0
   by_cases hz:x=0
   · subst hz;go_enter Tryz.func116,Tryz.ntmps116;go_wp2_with fail;go_ret2;exact⟨λ _=>rfl,λ h=>absurd (.inr HX.out.1) h,Below.refl _ _⟩
   · have hzb:((x:Int)==0)=false:=by simp;omega
     go_enter Tryz.func116,Tryz.ntmps116;have hL8:Hid (∀ w:World,Calls Tryz.prog 166 #[.int .u8 x] w λ e w'=>e=.returned (.int .i64 (Lib.bitLen x))/\w'=w):=λ w=>c0U (x:Int) w (by omega) (by omega);have hbl:Lib.bitLen x<=8:=Lib.bitLen_le8' (x:Int) (by omega) (by omega);obtain⟨bl,hbl2⟩:∃ bl,bl=Lib.bitLen x:=⟨_,rfl⟩;rw[<- hbl2] at hL8 hbl;have HBL:=Lib.hid hbl2;have hm1:(m:Int)<(m:Int)+1:=by omega
     have hw8:IntKind.i64.wrap (8*(m:Int))=8*m:=i64_in _ (by omega);have hw9:IntKind.i64.wrap (8*(m:Int)+bl)=8*m+bl:=i64_in _ (by omega);have hw10:IntKind.i64.wrap (8*(m:Int)+bl-1)=8*m+bl-1:=i64_in _ (by omega);clear hbl2;go_wp2_with fail
     go_region_held3 (λ w'=>Below w.heap.size w w'/\w'.cell? (ad.add m)=some (.int .u8 x)) ((repeat' apply And.intro) <;> first | exact(Below.refl _ _).drew | assumption | exact((Below.refl _ _).alloc (Nat.le_refl _) _).drew | exact a0p ((Below.refl _ _).alloc (Nat.le_refl _) _).drew hc | exact(((Below.refl _ _).alloc (Nat.le_refl _) _).alloc (by simp) _).drew | exact a0p (((Below.refl _ _).alloc (Nat.le_refl _) _).alloc (by simp) _).drew hc)
      (first | (go_at_call 166;refine(hL8.out _).mono ?_;rintro e w' ⟨rfl,rfl⟩))
     all_goals
      have HF:=c1Z (m:=m) (bl:=bl) hm6 HR.out;obtain⟨W3,hW3⟩:∃ W3,W3=((w.alloc (.cells (madeCells #[.int .u8 0] (m+1)) 5)).alloc (.cells #[.slice (some ⟨w.heap.size,0,none⟩) (m+1) (m+1),.int .i64 (8*(m:Int)+bl-1)] 207)).drew:=⟨_,rfl⟩;rw[<- hW3] at HF ⊢;clear hW3;have hc3:W3.cell? ⟨w.heap.size+1,0,none⟩=some (.slice (some ⟨w.heap.size,0,none⟩) (m+1) (m+1)):=(a0a HF.out.1 0).trans rfl;go_wp2_with (refine Kd.R_copy (enc:=Value.int .u8) (0:Int) (w0:=w) (W:=W3) w.heap.size rfl (.tmp 36) (.tmp 37) 22 22 5 rfl Tryz.underlying22 a9j (.slice (some ⟨w.heap.size,0,none⟩) (m+1) (m+1)) (List.replicate (m+1) 0) ps (some ad) (m+1) c (λ k=>k≠w.heap.size+1) rfl rfl HF.out.2.1 HF.out.2.2.1 HF.out.2.2.2 HF.out.2.2.2.size ?_;intro w4 hr4 hb4 hg4;have HE:=Lib.hid (c2a HF.out.1 HX.out.2.1 hr4 hg4 hb4 HBL.out HX.out.1 hz);clear hr4 hb4 hg4);go_ret2;exact⟨λ h=>absurd h HE.out.1,λ _=>⟨_,rfl,by omega,HE.out.2.1⟩,HE.out.2.2⟩
end Go.Proofs.YtflfjpkmjnnodaaGreat
