/- Plain: what the printed references of counts answer (right, total, log). -/
import Derived.Test.YtflfjpkmjnnodaaGreatNS1
import Derived.Test.YtflfjpkmjnnodaaGreatNR1
import Derived.Test.YtflfjpkmjnnodaaGreatNM1
import Derived.Test.YtflfjpkmjnnodaaGreatNM2
import Derived.Test.YtflfjpkmjnnodaaGreatNM0
import Derived.Deep.LoopGhost
import Derived.Laws.Rows
import Derived.Deep.DeepCutAuto
import Derived.Deep.RegionHeld3
import Derived.Defers
import Derived.Recover
import Derived.BigQuiet
import Derived.RangeFuncRecord
import Derived.RangeFuncSeq
import Derived.WalkKit
import Derived.OwnWalkIn
import Derived.TacticsInMore
import Derived.BigFrameIn
import Derived.LoopNIn
import Derived.LoopIn
import Derived.Maps.OwnIn
import Derived.Maps.AppendAt
import Derived.RangeFuncBox
import Derived.OwnWalk
import Derived.RangeFuncLeaves
set_option maxRecDepth 100000
set_option maxHeartbeats 2000000
namespace Go.Proofs.YtflfjpkmjnnodaaGreat
open Go.RowKit Go.Proofs.YtflfjpkmjnnodaaGreat.PRef Go.Proofs.YtflfjpkmjnnodaaGreatW.PrintWords Go.Proofs.YtflfjpkmjnnodaaGreatW.PrintLast Go.Proofs.YtflfjpkmjnnodaaGreatW.PrintMore
theorem a0G (xs:List Int) (i:Nat):rd xs (i:Int)=xs.getD i 0:=rfl
theorem wS (i:Nat) (h:i<=1000000000):wrap64 ((i:Int)+1)=((i+1:Nat):Int):=by rw[w64 (by omega)];simp
theorem c3l {c:List Int} {i:Nat} (h:i<c.length) {P:Int->Prop} (h1:∀ x∈c.take i,P x) (h2:P (c.getD i 0)):∀ x∈c.take (i+1),P x:=by
 intro x hx;rw[List.take_succ_eq_append_getElem h] at hx;rcases List.mem_append.1 hx with hx | hx
 · exact h1 x hx
 · rw[List.mem_singleton.1 hx];rw[List.getD_eq_getElem?_getD,List.getElem?_eq_getElem h] at h2;exact h2
theorem a2f {c:List Int} {i:Nat} (h:i<c.length):c.getD i 0∈c:=by
 rw[List.getD_eq_getElem?_getD,List.getElem?_eq_getElem h];exact List.getElem_mem h
theorem c3m (c:List Int) (hl:c.length=256):∀ (d i:Nat) (s:Int),i+d=256->i<=256->s=(c.take i).sum->(∀ x∈c.take i,0<=x/\x<=1073741824)->0<=s->s<=i*1073741824 ->
    Ev (λ k=>puncheonref05_Right.l0 k c s (i:Int)) (a0S c):=by
 intro d
 induction d with
 | zero=>
  intro i s hd hi hs ha h0 h1;refine Ev.step (λ k=>(show puncheonref05_Right.l0 (k+1) c s (i:Int)=_ by simp only[puncheonref05_Right.l0];rw[if_neg (by omega)])) ?_;rw[List.take_of_length_le (by omega)] at hs ha
  have e:a0S c=decide (s<=1073741824):=by
   unfold a0S;rw[hs];exact decide_eq_decide.2 ⟨λ h=>h.2.2,λ h=>⟨hl,λ x hx=>(ha x hx).1,h⟩⟩
  rw[e];exact Ev.now _
 | succ d ih=>
  intro i s hd hi hs ha h0 h1;have hlt:i<c.length:=by omega
  have hts:=a4i hlt
  by_cases hn:c.getD i 0<0
  · refine Ev.step (λ k=>(show puncheonref05_Right.l0 (k+1) c s (i:Int)=_ by simp only[puncheonref05_Right.l0];rw[if_pos (by omega),if_pos (by omega),if_pos (by omega),a0G,if_pos hn])) ?_
    have e:a0S c=false:=by
     rw[<- Bool.not_eq_true,rightC_iff];intro h;have:=h.2.1 _ (a2f hlt);omega
    rw[e];exact Ev.now _
  · by_cases hb:c.getD i 0>1073741824
    · refine Ev.step (λ k=>(show puncheonref05_Right.l0 (k+1) c s (i:Int)=_ by simp only[puncheonref05_Right.l0];rw[if_pos (by omega),if_pos (by omega),if_pos (by omega),a0G,if_neg hn,if_pos hb])) ?_
      have e:a0S c=false:=by
       rw[<- Bool.not_eq_true,rightC_iff];intro h;have:=a6t h.2.1 (a2f hlt);omega
      rw[e];exact Ev.now _
    · refine Ev.step (λ k=>(show puncheonref05_Right.l0 (k+1) c s (i:Int)=_ by simp only[puncheonref05_Right.l0];rw[if_pos (by omega),if_pos (by omega),if_pos (by omega),a0G,if_neg hn,if_neg hb,wS i (by omega),w64 (n:=s+c.getD i 0) (by omega)])) ?_;exact ih (i+1) _ (by omega) (by omega) (by rw[hts,hs]) (c3l hlt ha (by omega)) (by omega) (by omega)
theorem b4A (c:List Int):Ev (λ k=>puncheonref05_Right.f k c) (a0S c):=by
 by_cases hl:c.length=256
 · refine Ev.congr (λ k=>(show puncheonref05_Right.f k c=_ by unfold puncheonref05_Right.f;rw[if_pos (by omega)])) ?_;exact c3m c hl 256 0 0 (by omega) (by omega) (by simp) (by simp) (by omega) (by omega)
 · refine Ev.congr (λ k=>(show puncheonref05_Right.f k c=_ by unfold puncheonref05_Right.f;rw[if_neg (by omega)])) ?_;have e:a0S c=false:=by rw[<- Bool.not_eq_true,rightC_iff];exact λ h=>hl h.1
   rw[e];exact Ev.now _
theorem b4B (c:List Int) (hr:a0S c=true):∀ (d i:Nat) (s:Int),c.length-i=d->i<=c.length->s=(c.take i).sum->Ev (λ k=>puncheonref05_Total.l0 k c s true (i:Int)) c.sum
 | 0,i,s,hd,hi,hs=>by
  refine Ev.step (λ k=>(show puncheonref05_Total.l0 (k+1) c s true (i:Int)=_ by simp only[puncheonref05_Total.l0];rw[if_neg (by omega)])) ?_;rw[List.take_of_length_le (by omega)] at hs;rw[<- hs];exact Ev.now _
 | d+1,i,s,hd,hi,hs=>by
  have hlt:i<c.length:=by omega
  have hts:=a4i hlt;have hR:=rightC_iff.1 hr;have h1:=a8I hR.2.1 (i+1);have h2:0<=(c.take (i+1)).sum:=a2S (λ x hx=>hR.2.1 x (List.mem_of_mem_take hx));refine Ev.step (λ k=>(show puncheonref05_Total.l0 (k+1) c s true (i:Int)=_ by simp only[puncheonref05_Total.l0];rw[if_pos (by omega),if_pos trivial,if_pos (by omega),a0G,wS i (by omega),w64 (n:=s+c.getD i 0) (by omega)])) ?_;exact b4B c hr d (i+1) _ (by omega) (by omega) (by rw[hts,hs])
theorem b4C (c:List Int):Ev (λ k=>puncheonref05_Total.f k c) (a1d c):=by
 unfold puncheonref05_Total.f;refine Ev.bind (b4A c) ?_;unfold a1d
 cases hr:a0S c with
 | true=>rw[if_pos rfl];exact b4B c hr _ 0 0 rfl (by omega) (by simp)
 | false=>
  rw[if_neg (by decide)];refine Ev.step (λ k=>(show puncheonref05_Total.l0 (k+1) c 0 false 0=some 0 by simp only[puncheonref05_Total.l0];split <;> simp)) (Ev.now _)
theorem b4D (r:Nat) (hr:r<=30):∀ (d i:Nat),r-i=d->i<=r->Ev (λ k=>puncheonref08_power.l0 k (r:Int) ((2^i:Nat):Int) (i:Int)) ((2^r:Nat):Int)
 | 0,i,hd,hi=>by
  obtain rfl:i=r:=by omega
  exact Ev.step (λ k=>(show puncheonref08_power.l0 (k+1) (i:Int) _ (i:Int)=_ by simp only[puncheonref08_power.l0];rw[if_neg (by omega)])) (Ev.now _)
 | d+1,i,hd,hi=>by
  have hp:2^(i+1)<=2^30:=Nat.pow_le_pow_right (by omega) (by omega);have e:(2:Int)*((2^i:Nat):Int)=((2^(i+1):Nat):Int):=by rw[Nat.pow_succ];omega
  have e2:wrap64 ((2^(i+1):Nat):Int)=((2^(i+1):Nat):Int):=by
   generalize 2^(i+1)=P at hp ⊢
   exact w64 (by omega)
  refine Ev.step (λ k=>(show puncheonref08_power.l0 (k+1) (r:Int) _ (i:Int)=_ by simp only[puncheonref08_power.l0];rw[if_pos (by omega),wS i (by omega),e,e2])) ?_;exact b4D r hr d (i+1) (by omega) (by omega)
theorem b4E (r:Nat) (hr:r<=30):Ev (λ k=>puncheonref08_power.f k (r:Int)) ((2^r:Nat):Int):=by
 unfold puncheonref08_power.f;exact b4D r hr r 0 (by omega) (by omega)
theorem b4F (t:Int):∀ (d i:Nat),i+d=13->1<=i->i<=13->(∀ r,1<=r->r<i->t≠2^r)->Ev (λ k=>puncheonref08_Log.l0 k t (i:Int)) ((logT t:Nat):Int)
 | 0,i,hd,h1,hi,hn=>by
  obtain rfl:i=13:=by omega
  rw[b3b (λ r a b=>hn r a (by omega))];exact Ev.step (λ k=>(show puncheonref08_Log.l0 (k+1) t ((13:Nat):Int)=_ by simp only[puncheonref08_Log.l0];rw[if_neg (by decide)];rfl)) (Ev.now _)
 | d+1,i,hd,h1,hi,hn=>by
  refine Ev.step (λ k=>(show puncheonref08_Log.l0 (k+1) t (i:Int)=_ by simp only[puncheonref08_Log.l0];rw[if_pos (by omega)])) ?_;refine Ev.bind (b4E i (by omega)) ?_;have e:((2^i:Nat):Int)=2^i:=by simp
  by_cases ht:t=2^i
  · refine Ev.congr (λ k=>if_pos (by rw[e];exact ht)) ?_;rw[a6E h1 (by omega) ht];exact Ev.now _
  · refine Ev.congr (λ k=>(if_neg (by rw[e];exact ht)).trans (by rw[wS i (by omega)])) ?_;refine b4F t d (i+1) (by omega) (by omega) (by omega) (λ r a b=>?_)
    by_cases hri:r=i
    · rw[hri];exact ht
    · exact hn r a (by omega)
theorem a5K (c:List Int):Ev (λ k=>puncheonref08_Log.f k c) ((logC c:Nat):Int):=by
 unfold puncheonref08_Log.f;exact Ev.bind (b4C c) (b4F _ 12 1 (by omega) (by omega) (by omega) (λ r a b=>by omega))
def mapR (f:Nat->Int):List Int:=(List.range 256).map f
theorem a1I (f:Nat->Int):(mapR f).length=256:=by simp[mapR]
theorem a4o (f:Nat->Int) {v:Nat} (h:v<256):(mapR f).getD v 0=f v:=by
 unfold mapR;rw[List.getD_eq_getElem?_getD,List.getElem?_map,List.getElem?_range h];rfl
theorem a3r {f g:Nat->Int} (h:∀ v,v<256->f v=g v):mapR f=mapR g:=by
 unfold mapR;exact List.map_congr_left (λ v hv=>h v (List.mem_range.1 hv))
theorem a7s (f:Nat->Int) {v:Nat} (_:v<256) (y:Int):(mapR f).set v y=mapR (λ u=>if u=v then y else f u):=by
 apply List.ext_getElem
 · simp[mapR]
 · intro i h1 h2;rw[List.getElem_set];simp only[mapR,List.getElem_map,List.getElem_range]
   by_cases e:v=i
   · rw[if_pos e,if_pos e.symm]
   · rw[if_neg e,if_neg (λ x=>e x.symm)]
theorem a7t {f:Nat->Int} {x:Int} (h:x∈mapR f):∃ v,v<256/\x=f v:=by
 unfold mapR at h;obtain⟨v,hv,rfl⟩:=List.mem_map.1 h;exact⟨v,List.mem_range.1 hv,rfl⟩
def histL (b:List Int):List Int:=mapR (λ v=>(b.count (v:Int):Int))
def posC (c:List Int) (k:Nat):Nat:=(c.take k).countP (λ x=>decide (0<x))
def manyC (c:List Int):Nat:=if a0S c then c.countP (λ x=>decide (0<x)) else 0
theorem a7u (c:List Int) (i:Nat) (h:i<c.length):posC c (i+1)=posC c i+(if 0<c.getD i 0 then 1 else 0):=by
 unfold posC;rw[List.take_succ_eq_append_getElem h,List.countP_append,List.getD_eq_getElem?_getD,List.getElem?_eq_getElem h,Option.getD_some]
 congr 1
 by_cases e:0<c[i] <;> simp[e]
def pkL (b:List Int) (c:Int) (k:Nat):List Int:=((List.range k).filter (λ j=>decide (ctxI b (j:Nat)=c))).map (λ j=>b.getD j 0)
def a0q (b:List Int) (c:Int):List Int:=pkL b c b.length
theorem a7v {b:List Int} {c:Int} {k:Nat} (h:ctxI b (k:Nat)=c):pkL b c (k+1)=pkL b c k++[b.getD k 0]:=by
 unfold pkL;rw[List.range_succ,List.filter_append,List.map_append];congr 1;simp only[List.filter_cons,List.filter_nil,h,decide_true];rfl
theorem a7w {b:List Int} {c:Int} {k:Nat} (h:ctxI b (k:Nat)≠c):pkL b c (k+1)=pkL b c k:=by
 unfold pkL;rw[List.range_succ,List.filter_append,List.map_append];simp only[List.filter_cons,List.filter_nil,h,decide_false];simp
theorem a4p (b:List Int) (c:Int) (k:Nat):(pkL b c k).length<=k:=by
 unfold pkL;rw[List.length_map];exact Nat.le_trans (List.length_filter_le _ _) (by simp)
theorem b4I {b:List Int} (hb:Bytes b) (c:Int) (k:Nat):Bytes (pkL b c k):=by
 intro x hx;unfold pkL at hx;obtain⟨j,_,rfl⟩:=List.mem_map.1 hx;exact hb.get j
theorem b4J (l:List Int) {y:Nat} (hy:y<256):histL (l++[(y:Int)])=(histL l).set y ((l.count (y:Int):Int)+1):=by
 unfold histL;rw[a7s _ hy];refine a3r (λ u _=>?_);rw[List.count_append,List.count_singleton]
 by_cases e:u=y
 · subst e;rw[if_pos rfl];simp
 · rw[if_neg e];have:¬ (y:Int)=(u:Int):=by omega
   simp[this]
theorem a5L (l:List Int) {y:Nat} (hy:y<256):(histL l).getD y 0=(l.count (y:Int):Int):=by unfold histL;rw[a4o _ hy]
def widN (b:List Int):Nat->Nat
 | 0=>0
 | k+1=>max (widN b k) (manyC (histL (a0q b (k:Nat))))
theorem a4V (c:List Int):manyC c<=256:=by
 unfold manyC
 split
 · rename_i h;have:=List.countP_le_length (p:=λ x=>decide (0<x)) (l:=c);have:=(rightC_iff.1 h).1;omega
 · omega
theorem a7x (b:List Int):∀ k,widN b k<=256
 | 0=>by simp[widN]
 | k+1=>by
  have:=a7x b k;have:=a4V (histL (a0q b (k:Nat)));simp only[widN];omega
def presN (b:List Int) (k:Nat):List Int:=((List.range k).filter (λ (c:Nat)=>decide (0<(a0q b (c:Int)).length))).map (λ (c:Nat)=>(c:Int))
theorem a9B (b:List Int) (k:Nat):presN b (k+1)=if 0<(a0q b (k:Int)).length then presN b k++[(k:Int)] else presN b k:=by
 unfold presN;rw[List.range_succ,List.filter_append,List.map_append]
 by_cases h:0<(a0q b (k:Int)).length
 · rw[if_pos h];congr 1;simp only[List.filter_cons,List.filter_nil,h,decide_true];rfl
 · rw[if_neg h];simp only[List.filter_cons,List.filter_nil,h,decide_false];simp
theorem a4q (b:List Int) (k:Nat):(presN b k).length<=k:=by
 unfold presN;rw[List.length_map];exact Nat.le_trans (List.length_filter_le _ _) (by simp)
theorem c3z (n:Nat) (hn:n<2^40):∀ (d j:Nat),j+d=41->(j=0\/2^j<=n)->Ev (λ k=>puncheonref07_Floor.l0 k (n:Int) (j:Int) ((2^(j+1):Nat):Int)) ((a0n n:Nat):Int):=by
 intro d
 induction d with
 | zero=>
  intro j hj h;have:2^40<=2^j:=Nat.pow_le_pow_right (by omega) (by omega);exfalso;omega
 | succ d ih=>
  intro j hj h;have hp:2^(j+2)<=2^43:=Nat.pow_le_pow_right (by omega) (by omega)
  have e:wrap64 (2*((2^(j+1):Nat):Int))=((2^(j+1+1):Nat):Int):=by
   have:2^(j+2)=2*2^(j+1):=Nat.pow_succ';rw[show j+1+1=j+2 by omega,this];rw[this] at hp
   generalize 2^(j+1)=P at hp ⊢
   rw[w64 (by omega)];omega
  by_cases hc:2^(j+1)<=n
  · refine Ev.step (λ k=>(show puncheonref07_Floor.l0 (k+1) (n:Int) (j:Int) _=_ by simp only[puncheonref07_Floor.l0];rw[if_pos (Int.ofNat_le.2 hc),if_pos (by omega),wS j (by omega),e])) ?_;exact ih (j+1) (by omega) (.inr hc)
  · refine Ev.step (λ k=>(show puncheonref07_Floor.l0 (k+1) (n:Int) (j:Int) _=_ by simp only[puncheonref07_Floor.l0];rw[if_neg (λ h=>hc (Int.ofNat_le.1 h))])) ?_
    have ef:a0n (n:Int)=j:=by
     rcases Nat.eq_zero_or_pos n with h0 | h0
     · subst h0
       have:j=0:=by
        rcases h with h | h
        · exact h
        · have:=Nat.two_pow_pos j;omega
       rw[this];rfl
     · have h1:2^j<=n:=by
         rcases h with h | h
         · rw[h,Nat.pow_zero];exact h0
         · exact h
       unfold a0n a2b;rw[Int.toNat_natCast,a9u h1 (by omega) (by omega)];omega
    rw[ef];exact Ev.now _
theorem b4L (n:Nat) (hn:n<2^40):Ev (λ k=>puncheonref07_Floor.f k (n:Int)) ((a0n n:Nat):Int):=by
 unfold puncheonref07_Floor.f;exact c3z n hn 41 0 rfl (.inl rfl)
def ceilI (n:Int):Nat:=a2b (n-1)
def pickI (n m:Nat) (most:Int):Int:=mx (mx (mn ((a0n n:Int)-2) most) 5) (ceilI m)
theorem b4M (n:Nat) (h:n<2^40):a0n (n:Int)<=40:=by
 rcases Nat.eq_zero_or_pos n with h0 | h0
 · subst h0;decide
 · have:=(a3n n h0 (by omega)).1
   have a:¬ 41<=a0n (n:Int):=λ e=>by
    have:=Nat.pow_le_pow_right (n:=2) (by omega) e;omega
   omega
def needN (rest:List Int) (had:List Bool):Nat->Int
 | 0=>-1
 | k+1=>if had.getD k false=true then needN rest had k else if needN rest had k<0 then (k:Int) else if rest.getD k 0>rest.getD (needN rest had k).toNat 0 then (k:Int) else needN rest had k
theorem a4W (rest:List Int) (had:List Bool):∀ k,-1<=needN rest had k/\needN rest had k<k/\(0<=needN rest had k->had.getD (needN rest had k).toNat false=false)
 | 0=>by simp[needN]
 | k+1=>by
  obtain⟨h1,h2,h3⟩:=a4W rest had k;simp only[needN]
  cases hk:had.getD k false with
  | true=>rw[if_pos rfl];exact⟨h1,by omega,h3⟩
  | false=>
   rw[if_neg (by decide)]
   split
   · exact⟨by omega,by omega,λ _=>by rw[Int.toNat_natCast];exact hk⟩
   · split
     · exact⟨by omega,by omega,λ _=>by rw[Int.toNat_natCast];exact hk⟩
     · exact⟨h1,by omega,h3⟩
theorem a9C (rest:List Int) (had:List Bool) {s:Nat} (hs:had.getD s false=false):∀ k,s<k->0<=needN rest had k
 | 0,h=>by omega
 | k+1,h=>by
  simp only[needN]
  by_cases e:s=k
  · subst e;rw[hs,if_neg (by decide)]
    split
    · omega
    · split <;> omega
  · have ih:=a9C rest had hs k (by omega)
    split
    · exact ih
    · rw[if_neg (by omega)]
      split <;> omega
def richN (q c:List Int):Nat->Nat
 | 0=>0
 | k+1=>if q.getD k 0>q.getD (richN q c k) 0\/q.getD k 0=q.getD (richN q c k) 0/\c.getD k 0<=c.getD (richN q c k) 0 then k else richN q c k
theorem a4X (q c:List Int):∀ k,richN q c k<=k-1
 | 0=>by simp[richN]
 | k+1=>by
  have:=a4X q c k;simp only[richN];split <;> omega
theorem b4N (q c:List Int):∀ k,∀ s,s<k->q.getD s 0<=q.getD (richN q c k) 0
 | 0,s,h=>by omega
 | k+1,s,h=>by
  have ih:=b4N q c k;simp only[richN]
  split
  · rename_i hc
    by_cases e:s=k
    · subst e;exact Int.le_refl _
    · have:=ih s (by omega);omega
  · rename_i hc
    by_cases e:s=k
    · subst e;omega
    · exact ih s (by omega)
end Go.Proofs.YtflfjpkmjnnodaaGreat
namespace Go.Proofs.YtflfjpkmjnnodaaGreat
open Go.RowKit
theorem a7y (q:List Int) (s:Nat) (y:Int) (h:s<q.length):(q.set s y).sum=q.sum-q.getD s 0+y:=by
 induction q generalizing s with
 | nil=>simp at h
 | cons a q ih=>
  cases s with
  | zero=>simp;omega
  | succ s=>
   have:=ih s (by simpa using h);simp only[List.set_cons_succ,List.sum_cons,List.getD_cons_succ,this];omega
theorem a3s (q:List Int) (s t:Nat) (y:Int) (h:s<q.length):(q.set s y).getD t 0=if t=s then y else q.getD t 0:=by
 rw[List.getD_eq_getElem?_getD,List.getElem?_set]
 by_cases e:s=t
 · subst e;rw[if_pos rfl,if_pos h,if_pos rfl];rfl
 · rw[if_neg e,if_neg (λ x=>e x.symm),List.getD_eq_getElem?_getD]
def q0F (c:List Int) (P n:Int) (s:Nat):Int:=if c.getD s 0*P/n=0 then min (c.getD s 0) 1 else c.getD s 0*P/n
def q0L (c:List Int) (P n:Int):List Int:=mapR (q0F c P n)
def restL (c:List Int) (P n:Int):List Int:=mapR (λ s=>c.getD s 0*P%n)
def hadL (c:List Int) (P n:Int):List Bool:=(List.range 256).map (λ s=>decide (c.getD s 0*P/n=0))
def a0X (rest:List Int):Nat->List Int×List Bool->List Int×List Bool
 | 0,st=>st
 | m+1,st=>let r:=a0X rest m st;(r.1.set (needN rest r.2 256).toNat (r.1.getD (needN rest r.2 256).toNat 0+1),r.2.set (needN rest r.2 256).toNat true)
def a0U (c:List Int):Nat->List Int->List Int
 | 0,q=>q
 | m+1,q=>let r:=a0U c m q;r.set (richN r c 256) (r.getD (richN r c 256) 0-1)
def giveM (c:List Int) (P n:Int):Nat:=(P-(q0L c P n).sum).toNat
def normL (c:List Int) (r:Nat):List Int:=
 let P:Int:=2^r
 let n:=c.sum
 let g:=(a0X (restL c P n) (giveM c P n) (q0L c P n,hadL c P n)).1
 a0U c (g.sum-P).toNat g
theorem c3K {f g:Nat->Int} (h:∀ s,s<256->f s<=g s):(mapR f).sum<=(mapR g).sum:=by
 unfold mapR
 have key:∀ l:List Nat,(∀ s∈l,f s<=g s)->(l.map f).sum<=(l.map g).sum:=by
  intro l
  induction l with
  | nil=>intro _;simp
  | cons a l ih=>
   intro hl;have:=ih (λ s hs=>hl s (by simp[hs]));have:=hl a (by simp);simp only[List.map_cons,List.sum_cons];omega
 exact key _ (λ s hs=>h s (List.mem_range.1 hs))
theorem b4O {c:List Int} (h:c.length=256):mapR (λ s=>c.getD s 0)=c:=by
 apply List.ext_getElem
 · rw[a1I,h]
 · intro i h1 h2;simp[mapR,List.getElem?_eq_getElem h2]
theorem b4P (f:Nat->Int) (k:Int):(mapR (λ s=>f s*k)).sum=(mapR f).sum*k:=by
 unfold mapR
 induction List.range 256 with
 | nil=>simp
 | cons a l ih=>simp only[List.map_cons,List.sum_cons,ih,Int.add_mul]
theorem c3L (f g:Nat->Int):(mapR (λ s=>f s+g s)).sum=(mapR f).sum+(mapR g).sum:=by
 unfold mapR
 induction List.range 256 with
 | nil=>simp
 | cons a l ih=>simp only[List.map_cons,List.sum_cons,ih];omega
def freeN (had:List Bool):Nat:=had.countP (λ b=>!b)
theorem c3M (c:List Int) (P n:Int):((freeN (hadL c P n):Nat):Int)=(mapR (λ s=>if c.getD s 0*P/n=0 then 0 else 1)).sum:=by
 unfold freeN hadL mapR
 induction List.range 256 with
 | nil=>simp
 | cons a l ih=>
  have e1:((if (!decide (c.getD a 0*P/n=0))=true then 1 else 0:Nat):Int)=if c.getD a 0*P/n=0 then 0 else 1:=by
   by_cases e:c.getD a 0*P/n=0
   · rw[if_pos e,decide_eq_true e];rfl
   · rw[if_neg e,decide_eq_false e];rfl
  rw[List.map_cons,List.map_cons,List.countP_cons,List.sum_cons,Int.natCast_add,ih,e1];omega
structure Can (c:List Int) (r:Nat):Prop where
 len:c.length=256
 nonneg:∀ x∈c,0<=x
 pos:0<c.sum
 le:c.sum<=1073741824
 r1:1<=r
 r12:r<=12
 many:c.countP (λ x=>decide (0<x))<=2^r
theorem Can.get {c:List Int} {r:Nat} (h:Can c r) (s:Nat):0<=c.getD s 0/\c.getD s 0<=c.sum:=by
 by_cases hs:s<c.length
 · exact⟨h.nonneg _ (a2f hs),a6t h.nonneg (a2f hs)⟩
 · rw[List.getD_eq_getElem?_getD,List.getElem?_eq_none (by omega)];have:=h.pos;simp;omega
theorem Can.q0 {c:List Int} {r:Nat} (h:Can c r) (s:Nat):0<=q0F c (2^r) c.sum s/\q0F c (2^r) c.sum s<=4096/\(0<q0F c (2^r) c.sum s↔0<c.getD s 0)/\c.getD s 0*2^r<=(q0F c (2^r) c.sum s+(if c.getD s 0*2^r/c.sum=0 then 0 else 1))*c.sum:=by
 have hg:=h.get s;have hp:=h.pos;have h2:=a1K h.r12;have hm0:0<=c.getD s 0*2^r:=Int.mul_nonneg hg.1 (by omega);have hd0:0<=c.getD s 0*2^r/c.sum:=Int.ediv_nonneg hm0 (by omega);have hdm:=Int.mul_ediv_add_emod (c.getD s 0*2^r) c.sum;have hml:=Int.emod_lt_of_pos (c.getD s 0*2^r) hp;have hmn:=Int.emod_nonneg (c.getD s 0*2^r) (b:=c.sum) (by omega)
 have hle:c.getD s 0*2^r/c.sum<=2^r:=by
  refine Int.ediv_le_of_le_mul hp ?_;rw[Int.mul_comm];exact Int.mul_le_mul_of_nonneg_left hg.2 (by omega)
 unfold q0F
 by_cases e:c.getD s 0*2^r/c.sum=0
 · rw[if_pos e,if_pos e];rw[e,Int.mul_zero,Int.zero_add] at hdm;refine⟨by omega,by omega,by omega,?_⟩
   by_cases e2:c.getD s 0=0
   · rw[e2,show min (0:Int) 1=0 by decide];simp
   · rw[show min (c.getD s 0) 1=1 by omega];omega
 · rw[if_neg e,if_neg e];refine⟨hd0,by omega,⟨λ _=>?_,λ _=>by omega⟩,?_⟩
   · by_cases e2:c.getD s 0=0
     · rw[e2] at e;simp at e
     · omega
   · rw[Int.add_mul,Int.one_mul,Int.mul_comm (c.getD s 0*2^r/c.sum)];omega
theorem Can.enough {c:List Int} {r:Nat} (h:Can c r):(2:Int)^r<=(q0L c (2^r) c.sum).sum+freeN (hadL c (2^r) c.sum):=by
 have h1:(mapR (λ s=>c.getD s 0*2^r)).sum<=(mapR (λ s=>(q0F c (2^r) c.sum s+(if c.getD s 0*2^r/c.sum=0 then 0 else 1))*c.sum)).sum:=c3K (λ s _=>(h.q0 s).2.2.2);rw[b4P,b4P,c3L,b4O h.len,<- c3M,Int.mul_comm c.sum] at h1;exact Int.le_of_mul_le_mul_right h1 h.pos
theorem a9D {had:List Bool} (hl:had.length=256) (h:0<freeN had):∃ s,s<256/\had.getD s false=false:=by
 unfold freeN at h;obtain⟨b,hb,hbf⟩:=List.countP_pos_iff.1 h;obtain⟨s,hs,rfl⟩:=List.getElem_of_mem hb;refine⟨s,by omega,?_⟩;rw[List.getD_eq_getElem?_getD,List.getElem?_eq_getElem hs];simpa using hbf
theorem b4Q {had:List Bool} {s:Nat} (hs:s<had.length) (h:had.getD s false=false):freeN (had.set s true)+1=freeN had:=by
 unfold freeN
 induction had generalizing s with
 | nil=>simp at hs
 | cons a l ih=>
  cases s with
  | zero=>simp at h;subst h;simp
  | succ s=>
   have:=ih (s:=s) (by simpa using hs) (by simpa using h);simp only[List.set_cons_succ,List.countP_cons];omega
structure Way (c q:List Int):Prop where
 len:q.length=256
 rng:∀ s,0<=q.getD s 0/\q.getD s 0<=100000
 iff:∀ s,0<q.getD s 0↔0<c.getD s 0
theorem a4Y {c:List Int} {r:Nat} (h:Can c r):∀ m,m<=giveM c (2^r) c.sum ->
    let st:=a0X (restL c (2^r) c.sum) m (q0L c (2^r) c.sum,hadL c (2^r) c.sum)
    st.1.length=256/\st.2.length=256/\(∀ s,0<=st.1.getD s 0/\st.1.getD s 0<=4096+m)/\(∀ s,0<st.1.getD s 0↔0<c.getD s 0)/\st.1.sum=(q0L c (2^r) c.sum).sum+m/\freeN st.2+m=freeN (hadL c (2^r) c.sum) /\
     (∀ s,s<256->st.2.getD s false=false->0<c.getD s 0)
 | 0,_=>by
  have hlen:(q0L c (2^r) c.sum).length=256:=a1I _;refine⟨hlen,by simp[a0X,hadL],λ s=>?_,λ s=>?_,by simp[a0X],rfl,λ s hs hf=>?_⟩
  · show 0<=(q0L c (2^r) c.sum).getD s 0/\(q0L c (2^r) c.sum).getD s 0<=4096+((0:Nat):Int)
    by_cases hs:s<256
    · unfold q0L;rw[a4o _ hs];have:=h.q0 s;exact⟨this.1,by have:=this.2.1;omega⟩
    · rw[List.getD_eq_getElem?_getD,List.getElem?_eq_none (by omega)];simp
  · show 0<(q0L c (2^r) c.sum).getD s 0↔_
    by_cases hs:s<256
    · unfold q0L;rw[a4o _ hs];exact(h.q0 s).2.2.1
    · rw[List.getD_eq_getElem?_getD,List.getElem?_eq_none (by omega),List.getD_eq_getElem?_getD,List.getElem?_eq_none (by have:=h.len;omega)]
  · have hf2:(hadL c (2^r) c.sum).getD s false=false:=hf;unfold hadL at hf2;rw[List.getD_eq_getElem?_getD,List.getElem?_map,List.getElem?_range hs] at hf2;simp only[Option.map_some,Option.getD_some,decide_eq_false_iff_not] at hf2;have:=(h.get s).1
    by_cases e2:c.getD s 0=0
    · rw[e2] at hf2;simp at hf2
    · omega
 | m+1,hm=>by
  obtain⟨h1,h2,h3,h4,h5,h6,h7⟩:=a4Y h m (by omega);have hen:=h.enough;obtain⟨st,hst⟩:∃ st,st=a0X (restL c (2^r) c.sum) m (q0L c (2^r) c.sum,hadL c (2^r) c.sum):=⟨_,rfl⟩;simp only[a0X];rw[<- hst] at h1 h2 h3 h4 h5 h6 h7 ⊢;have hM:(m:Int)+1<=2^r-(q0L c (2^r) c.sum).sum:=by unfold giveM at hm;omega
  obtain⟨s0,hs0,hf0⟩:=a9D h2 (by omega);have hn0:=a9C (restL c (2^r) c.sum) st.2 hf0 256 hs0;have hnl:=a4W (restL c (2^r) c.sum) st.2 256;obtain⟨t,ht⟩:∃ t:Nat,needN (restL c (2^r) c.sum) st.2 256=t:=⟨_,(Int.toNat_of_nonneg hn0).symm⟩;rw[ht] at hnl ⊢;have htf:=hnl.2.2 (by omega);rw[Int.toNat_natCast] at htf ⊢;have ht256:t<256:=by omega
  have hct:=h7 t ht256 htf;have hg:=h3 t;refine⟨by rw[List.length_set];exact h1,by rw[List.length_set];exact h2,λ s=>?_,λ s=>?_,?_,?_,λ s hs hf=>?_⟩
  · rw[a3s _ _ _ _ (by omega)];have:=h3 s
    split <;> omega
  · rw[a3s _ _ _ _ (by omega)]
    by_cases e:s=t
    · subst e;rw[if_pos rfl];exact⟨λ _=>hct,λ _=>by omega⟩
    · rw[if_neg e];exact h4 s
  · rw[a7y _ _ _ (by omega),h5];omega
  · have:=b4Q (had:=st.2) (s:=t) (by omega) htf;omega
  · refine h7 s hs ?_
    by_cases e:s=t
    · subst e;exact htf
    · rw[List.getD_eq_getElem?_getD,List.getElem?_set_ne (λ x=>e x.symm),<- List.getD_eq_getElem?_getD] at hf;exact hf
theorem c3N {q:List Int} (h:∀ x∈q,0<=x/\x<=1):q.sum<=(q.countP (λ x=>decide (0<x)):Nat):=by
 induction q with
 | nil=>simp
 | cons a l ih=>
  have:=ih (λ x hx=>h x (by simp[hx]));have ha:=h a (by simp);rw[List.sum_cons,List.countP_cons]
  by_cases e:0<a
  · simp[e];omega
  · simp[e];omega
theorem c3O {c q:List Int} (hc:c.length=256) (hq:q.length=256) (h:∀ s,0<q.getD s 0↔0<c.getD s 0):q.countP (λ x=>decide (0<x))=c.countP (λ x=>decide (0<x)):=by
 have e:∀ l:List Int,l.length=256->l.countP (λ x=>decide (0<x))=(List.range 256).countP (λ s=>decide (0<l.getD s 0)):=by
  intro l hl;have:=b4O hl
  conv=>lhs;rw[<- this]
  unfold mapR;rw[List.countP_map];rfl
 rw[e q hq,e c hc];exact List.countP_congr (λ s _=>by simp only[decide_eq_true_eq];exact h s)
theorem a7z {c:List Int} {r:Nat} (h:Can c r) {q:List Int} (hq:Way c q):∀ m,m<=(q.sum-2^r).toNat ->
    Way c (a0U c m q)/\(a0U c m q).sum=q.sum-m
 | 0,_=>⟨hq,by simp[a0U]⟩
 | m+1,hm=>by
  obtain⟨h1,h2⟩:=a7z h hq m (by omega);simp only[a0U];obtain⟨t,ht⟩:∃ t,t=a0U c m q:=⟨_,rfl⟩;rw[<- ht] at h1 h2 ⊢;obtain⟨b,hb⟩:∃ b,b=richN t c 256:=⟨_,rfl⟩;have hbl:=a4X t c 256;have hmax:=b4N t c 256;rw[<- hb] at hbl hmax ⊢;have hlen:=h1.len
  have hbig:2<=t.getD b 0:=by
   by_cases e:2<=t.getD b 0
   · exact e
   · exfalso
     have hle:t.sum<=(t.countP (λ x=>decide (0<x)):Nat):=c3N (λ x hx=>by
      obtain⟨s,hs,rfl⟩:=List.getElem_of_mem hx;have a:=hmax s (by omega);have a2:=h1.rng s;rw[List.getD_eq_getElem?_getD,List.getElem?_eq_getElem hs,Option.getD_some] at a a2;omega)
     rw[c3O h.len hlen h1.iff] at hle;have hmny:=h.many;have e2:(2:Int)^r=((2^r:Nat):Int):=by simp
     have hmI:(m:Int)+1<=q.sum-2^r:=by omega
     rw[e2] at hmI;omega
  have hrb:=h1.rng b;have hib:=h1.iff b;refine⟨⟨by rw[List.length_set];exact hlen,λ s=>?_,λ s=>?_⟩,?_⟩
  · rw[a3s _ _ _ _ (by omega)];have:=h1.rng s
    split <;> omega
  · rw[a3s _ _ _ _ (by omega)]
    by_cases e:s=b
    · subst e;rw[if_pos rfl];exact⟨λ _=>hib.1 (by omega),λ _=>by omega⟩
    · rw[if_neg e];exact h1.iff s
  · rw[a7y _ _ _ (by omega),h2];omega
theorem a9E {c:List Int} {r:Nat} (h:Can c r):Way c (a0X (restL c (2^r) c.sum) (giveM c (2^r) c.sum) (q0L c (2^r) c.sum,hadL c (2^r) c.sum)).1/\2^r<=(a0X (restL c (2^r) c.sum) (giveM c (2^r) c.sum) (q0L c (2^r) c.sum,hadL c (2^r) c.sum)).1.sum:=by
 obtain⟨h1,h2,h3,h4,h5,h6,h7⟩:=a4Y h _ (Nat.le_refl _)
 have h0:0<=(q0L c (2^r) c.sum).sum:=a2S (λ x hx=>by
  obtain⟨v,hv,rfl⟩:=a7t hx;exact(h.q0 v).1)
 have hp:=a1K h.r12;have hM:giveM c (2^r) c.sum<=4096:=by unfold giveM;omega
 refine⟨⟨h1,λ s=>⟨(h3 s).1,by have:=(h3 s).2;omega⟩,h4⟩,?_⟩;rw[h5];unfold giveM;omega
theorem a4Z {c:List Int} {r:Nat} (h:Can c r):Good (normL c r)/\(normL c r).sum=2^r/\∀ s,0<(normL c r).getD s 0↔0<c.getD s 0:=by
 obtain⟨hw,hs⟩:=a9E h;obtain⟨h1,h2⟩:=a7z h hw _ (Nat.le_refl _);have hp:=a1K h.r12;have e:normL c r=a0U c ((a0X (restL c (2^r) c.sum) (giveM c (2^r) c.sum) (q0L c (2^r) c.sum,hadL c (2^r) c.sum)).1.sum-2^r).toNat (a0X (restL c (2^r) c.sum) (giveM c (2^r) c.sum) (q0L c (2^r) c.sum,hadL c (2^r) c.sum)).1:=rfl;rw[<- e] at h1 h2;have hsum:(normL c r).sum=2^r:=by rw[h2];omega
 refine⟨⟨h1.len,λ x hx=>?_,by omega⟩,hsum,h1.iff⟩;obtain⟨s,hs,rfl⟩:=List.getElem_of_mem hx;have:=h1.rng s;rw[List.getD_eq_getElem?_getD,List.getElem?_eq_getElem hs] at this;exact this.1
theorem b4R {c:List Int} {r:Nat} (h:Can c r):logC (normL c r)=r:=by
 obtain⟨h1,h2,_⟩:=a4Z h;have hp:=a1K h.r12;have hr:a0S (normL c r)=true:=rightC_iff.2 ⟨h1.len,h1.nonneg,by omega⟩;unfold logC a1d;rw[if_pos hr,h2];exact a6E h.r1 h.r12 rfl
open Go.IntWalk Go.Proofs.YtflfjpkmjnnodaaGreat.PRef Go.Proofs.YtflfjpkmjnnodaaGreatW.PrintWords Go.Proofs.YtflfjpkmjnnodaaGreatW.PrintLast Go.Proofs.YtflfjpkmjnnodaaGreatW.PrintMore
section
variable (A:Option Addr) (cp:Nat) (c:List Int) (w:World)
theorem c3U (hr:(Kd.int .i64).C w A c.length c) (hc:c.length<=cp):Calls Tryz.prog 172 #[.slice A c.length cp] w (Ret (.int .i64 (logC c)) w):=by
 obtain⟨k,hk⟩:=(a5K c).rounds;exact(puncheonref08_Log.calls k A cp c _ w hr hc hk).mono λ e w' h=>⟨h.1,h.2.below⟩
end
theorem a7A (n:Nat) (hn:n<=1000000) (w:World):(Instr.makeSlice 84 (.int .i64 n) (.int .i64 n)).run Tryz.prog w=.ok (.slice (some ⟨w.heap.size,0,none⟩) n n) (w.alloc (.cells (madeCells #[.int .i64 0] n) 3)):=by
 obtain⟨i0,hi,hzz⟩:=Option.map_eq_some_iff.1 a4h;simp only[Prod.mk.injEq] at hzz;obtain⟨hz0,hz1,hz2⟩:=hzz;have hr:=run_make (P:=Tryz.prog) w 84 3 i0 (.int .i64 0) Tryz.underlying84 hi hz0 .i64 .i64 (n:Int) (n:Int) (by omega) (by omega) (by rw[hz2];omega) (by omega);rw[hz1] at hr;simpa [Value.cells] using hr
end Go.Proofs.YtflfjpkmjnnodaaGreat
namespace Go.Proofs.YtflfjpkmjnnodaaGreat
open Go.RowKit Go.IntWalk Go.Proofs.YtflfjpkmjnnodaaGreatW.PrintWords
def qTo (c:List Int) (P n:Int) (k:Nat):List Int:=mapR (λ s=>if s<k then q0F c P n s else 0)
def rTo (c:List Int) (P n:Int) (k:Nat):List Int:=mapR (λ s=>if s<k then c.getD s 0*P%n else 0)
def hTo (c:List Int) (P n:Int) (k:Nat):List Bool:=(List.range 256).map (λ s=>if s<k then decide (c.getD s 0*P/n=0) else false)
theorem a9G (c:List Int) (P n:Int):qTo c P n 0=List.replicate 256 0/\rTo c P n 0=List.replicate 256 0/\hTo c P n 0=List.replicate 256 false:=by
 have e:∀ {α:Type} (z:α) (f:Nat->α),(∀ s,f s=z)->(List.range 256).map f=List.replicate 256 z:=λ z f h=>by
  rw[show f=λ _=>z from funext h,List.map_const',List.length_range]
 exact⟨e 0 (λ s=>if s<0 then q0F c P n s else 0) (λ s=>by rw[if_neg (by omega)]),e 0 (λ s=>if s<0 then c.getD s 0*P%n else 0) (λ s=>by rw[if_neg (by omega)]),e false (λ s=>if s<0 then decide (c.getD s 0*P/n=0) else false) (λ s=>by rw[if_neg (by omega)])⟩
theorem a9H (c:List Int) (P n:Int):qTo c P n 256=q0L c P n/\rTo c P n 256=restL c P n/\hTo c P n 256=hadL c P n:=
 ⟨a3r (λ s h=>by rw[if_pos h]),a3r (λ s h=>by rw[if_pos h]),List.map_congr_left (λ s h=>by rw[if_pos (List.mem_range.1 h)])⟩
theorem a7C (f:Nat->Int) {k:Nat} (hk:k<256):(mapR (λ s=>if s<k then f s else 0)).set k (f k)=mapR (λ s=>if s<k+1 then f s else 0):=by
 rw[a7s _ hk];refine a3r (λ s _=>?_)
 by_cases e:s=k
 · subst e;rw[if_pos rfl,if_pos (by omega)]
 · rw[if_neg e]
   by_cases e2:s<k
   · rw[if_pos e2,if_pos (by omega)]
   · rw[if_neg e2,if_neg (by omega)]
theorem b4X (q:List Int) (k:Nat) (x y:Int):(q.set k x).set k y=q.set k y:=by simp
def a9I (c:List Int) (r:Nat) (w:World) (e:Ending) (w':World):Prop:=∃ v,e=.returned (.tuple #[v,.int .i64 0])/\(Kd.int .i64).R 3 w' w.heap.size (λ _=>True) v (normL c r)/\Below w.heap.size w w'
end Go.Proofs.YtflfjpkmjnnodaaGreat
namespace Go.Proofs.YtflfjpkmjnnodaaGreat
open Go.RowKit Go.Proofs.YtflfjpkmjnnodaaGreatW.PrintWords Go.Proofs.YtflfjpkmjnnodaaGreatW.PrintLast Go.Proofs.YtflfjpkmjnnodaaGreatW.PrintMore
theorem a9J (b:List Int) (hb:Bytes b):(histL b).sum=b.length:=by
 induction b with
 | nil=>
  unfold histL mapR
  have:∀ l:List Nat,(l.map (λ (v:Nat)=>(((([]:List Int).count (v:Int)):Nat):Int))).sum=0:=by
   intro l;induction l with
   | nil=>rfl
   | cons a l ih=>rw[List.map_cons,List.sum_cons,ih];simp
  exact this _
 | cons x l ih=>
  have hx:=hb x (by simp);have ih2:=ih (λ y hy=>hb y (by simp[hy]));obtain⟨v,rfl⟩:∃ v:Nat,x=v:=⟨x.toNat,by omega⟩
  have e:histL ((v:Int) :: l)=(histL l).set v ((l.count (v:Int):Int)+1):=by
   unfold histL;rw[a7s _ (by omega)];refine a3r (λ u _=>?_);rw[List.count_cons]
   by_cases e:u=v
   · subst e;rw[if_pos rfl];simp
   · rw[if_neg e];have:¬ (v:Int)=(u:Int):=by omega
     simp[this]
  rw[e,a7y _ _ _ (by unfold histL;rw[a1I];omega),a5L _ (by omega),ih2,List.length_cons];omega
theorem a9K (b:List Int) {s:Nat} (hs:s<256):0<(histL b).getD s 0↔(s:Int)∈b:=by
 rw[a5L _ hs,<- List.count_pos_iff];omega
theorem c4g (m:Nat) (h:m<=256):ceilI m<=8/\m<=2^ceilI m:=by
 unfold ceilI a2b;rcases Nat.lt_or_ge m 2 with h2 | h2
 · rw[show((m:Int)-1).toNat=0 by omega]
   exact⟨by decide,by have:Lib.bitLen 0=0:=by decide
                      rw[this];omega⟩
 · obtain⟨y,hy⟩:∃ y,y=m-1:=⟨_,rfl⟩;rw[show((m:Int)-1).toNat=y by omega];obtain⟨a,b,c⟩:=a3m y (by omega) (by omega);have:=Lib.bitLen_le8' (y:Int) (by omega) (by omega);rw[Int.toNat_natCast] at this;exact⟨this,by omega⟩
theorem b5a (n m:Nat) (most:Nat) (h:m<=256) (h8:8<=most) (h12:most<=12):∃ r:Nat,pickI n m most=r/\5<=r/\r<=most/\m<=2^r:=by
 obtain⟨c1,c2⟩:=c4g m h
 have hr:5<=pickI n m most/\pickI n m most<=most/\(ceilI m:Int)<=pickI n m most:=by
  unfold pickI mx mn
  split <;> (split <;> (split <;> omega))
 refine⟨(pickI n m most).toNat,by omega,by omega,by omega,?_⟩;have:2^ceilI m<=2^(pickI n m most).toNat:=Nat.pow_le_pow_right (by omega) (by omega);omega
theorem b5b {c:List Int} (h:a0S c=true):manyC c=c.countP (λ x=>decide (0<x)):=by unfold manyC;rw[if_pos h]
theorem a5M (b:List Int) (hb:Bytes b) (hl:b.length<=1000000):a0S (histL b)=true:=
 rightC_iff.2 ⟨a1I _,λ x hx=>by obtain⟨v,_,rfl⟩:=a7t hx;omega,by rw[a9J b hb];omega⟩
theorem b5c {b:List Int} {r:Nat} (hb:Bytes b) (hl:b.length<=1000000) (h0:0<b.length) (h1:1<=r) (h12:r<=12) (hm:manyC (histL b)<=2^r):Can (histL b) r:=
 ⟨a1I _,λ x hx=>by obtain⟨v,_,rfl⟩:=a7t hx;omega,by rw[a9J b hb];omega,by rw[a9J b hb];omega,h1,h12,by rw[<- b5b (a5M b hb hl)];exact hm⟩
def zeroR (b:List Int):Nat:=(pickI b.length (manyC (histL b)) 11).toNat
def zeroQ (b:List Int):List Int:=normL (histL b) (zeroR b)
theorem a4r (b:List Int):pickI b.length (manyC (histL b)) 11=(zeroR b:Int)/\5<=zeroR b/\zeroR b<=11/\manyC (histL b)<=2^zeroR b:=by
 obtain⟨r,h1,h2,h3,h4⟩:=b5a b.length (manyC (histL b)) 11 (a4V _) (by omega) (by omega);have e:zeroR b=r:=by unfold zeroR;rw[show((11:Nat):Int)=11 from rfl] at h1;rw[h1];simp
 rw[e];exact⟨h1,h2,h3,h4⟩
theorem b5d {lg:Int} {q:List Int} (h:logC q≠0) (h2:(logC q:Int)=lg):badQ lg q=false:=by
 unfold badQ;exact decide_eq_false (λ x=>x.2 ⟨h,h2⟩)
theorem c4h (lg:Int):badQ lg []=false:=by unfold badQ;exact decide_eq_false (λ x=>by simp at x)
theorem a5N {b:List Int} (hb:Bytes b) (hl:b.length<=1000000) (h0:0<b.length):Can (histL b) (zeroR b):=by
 have:=a4r b;exact b5c hb hl h0 (by omega) (by omega) this.2.2.2
theorem c4i {b:List Int} (hb:Bytes b) (hl:b.length<=1000000) (h0:0<b.length):a0A (zeroR b) true [zeroQ b]=true:=by
 have hc:=a5N hb hl h0;have hz:=a4r b;have hlog:=b4R hc;have hlen:=(a4Z hc).1.len;unfold a0A
 rw[if_neg (by omega),if_neg (by
  simp only[List.any_cons,List.any_nil,Bool.or_false];rw[b5d (q:=zeroQ b) (by unfold zeroQ;omega) (by unfold zeroQ;rw[hlog])];decide)]
 rw[if_pos rfl,decide_eq_true_eq];have h0:0<(normL (histL b) (zeroR b)).length:=by omega
 refine⟨List.length_singleton,?_⟩;rw[List.getD_cons_zero];unfold zeroQ;exact h0
theorem c4j {b:List Int} (hb:Bytes b) (hl:b.length<=1000000) (h0:0<b.length):fitsM (zeroR b) true [zeroQ b] b=true:=by
 have hc:=a5N hb hl h0;have hn:=a4Z hc;unfold fitsM;rw[c4i hb hl h0,Bool.true_and,List.all_eq_true];intro i hi;have hi':=List.mem_range.1 hi;have hg:=hb.get i;obtain⟨x,hx⟩:∃ x:Nat,b.getD i 0=x:=⟨(b.getD i 0).toNat,by omega⟩;unfold fitAt;rw[decide_eq_true_eq];have e0:([zeroQ b].getD (listI true (ctxI b i)) [])=normL (histL b) (zeroR b):=by unfold listI;rw[if_pos rfl,List.getD_cons_zero];rfl
 rw[e0];refine⟨by have:=hn.1.len;omega,?_⟩;rw[hx,Int.toNat_natCast];have h1:=(hn.2.2 x).2 ((a9K b (by omega)).2 (by rw[<- hx];exact a2f hi'));omega
def a0r (b:List Int):Nat:=(pickI b.length (widN b 256) 9).toNat
def a1l (b:List Int) (c:Nat):List Int:=if 0<(a0q b (c:Int)).length then normL (histL (a0q b (c:Int))) (a0r b) else []
def a0C (b:List Int):List (List Int):=(List.range 256).map (a1l b)
theorem a2K (b:List Int):pickI b.length (widN b 256) 9=(a0r b:Int)/\5<=a0r b/\a0r b<=9/\widN b 256<=2^a0r b:=by
 obtain⟨r,h1,h2,h3,h4⟩:=b5a b.length (widN b 256) 9 (a7x b _) (by omega) (by omega);have e:a0r b=r:=by unfold a0r;rw[show((9:Nat):Int)=9 from rfl] at h1;rw[h1];simp
 rw[e];exact⟨h1,h2,h3,h4⟩
theorem b5e (b:List Int):∀ k c,c<k->manyC (histL (a0q b (c:Nat)))<=widN b k
 | 0,c,h=>by omega
 | k+1,c,h=>by
  simp only[widN]
  by_cases e:c=k
  · subst e;omega
  · have:=b5e b k c (by omega);omega
theorem c4k (b:List Int) (c:Int):(a0q b c).length<=b.length:=a4p b c b.length
theorem a5O {b:List Int} (hb:Bytes b) (hl:b.length<=1000000) {c:Nat} (hc:c<256) (h0:0<(a0q b (c:Int)).length):Can (histL (a0q b (c:Int))) (a0r b):=by
 have h1:=a2K b;have h2:=b5e b 256 c hc;have h3:=c4k b (c:Int);exact b5c (b4I hb _ _) (by omega) h0 (by omega) (by omega) (by omega)
theorem a7E (b:List Int):(a0C b).length=256:=by simp[a0C]
theorem a7F (b:List Int) {c:Nat} (h:c<256):(a0C b).getD c []=a1l b c:=by
 unfold a0C;rw[List.getD_eq_getElem?_getD,List.getElem?_map,List.getElem?_range h];rfl
theorem c4l {b:List Int} (hb:Bytes b) (hl:b.length<=1000000):a0A (a0r b) false (a0C b)=true:=by
 have hz:=a2K b;unfold a0A;rw[if_neg (by omega),if_neg]
 · rw[if_neg (by decide),decide_eq_true_eq];exact a7E b
 · rw[Bool.not_eq_true,List.any_eq_false];intro q hq;unfold a0C at hq;obtain⟨c,hc,rfl⟩:=List.mem_map.1 hq;unfold a1l
   split
   · rename_i h0;have hlog:=b4R (a5O hb hl (List.mem_range.1 hc) h0);rw[b5d (by omega) (by rw[hlog])];decide
   · rw[c4h];decide
theorem c4m {b:List Int} (hb:Bytes b) (hl:b.length<=1000000):fitsM (a0r b) false (a0C b) b=true:=by
 unfold fitsM;rw[c4l hb hl,Bool.true_and,List.all_eq_true];intro i hi;have hi':=List.mem_range.1 hi;have hg:=hb.get i;have hcr:=a4m hb i hi';obtain⟨x,hx⟩:∃ x:Nat,b.getD i 0=x:=⟨(b.getD i 0).toNat,by omega⟩;obtain⟨c,hc⟩:∃ c:Nat,ctxI b i=c:=⟨(ctxI b i).toNat,by omega⟩
 have hmem:b.getD i 0∈a0q b (c:Int):=by
  unfold a0q pkL;exact List.mem_map.2 ⟨i,List.mem_filter.2 ⟨hi,by rw[decide_eq_true_eq];exact hc⟩,rfl⟩
 have hpos:0<(a0q b (c:Int)).length:=List.length_pos_of_mem hmem;have hcan:=a5O hb hl (c:=c) (by omega) hpos;have hn:=a4Z hcan
 have e:(a0C b).getD (listI false (ctxI b i)) []=normL (histL (a0q b (c:Int))) (a0r b):=by
  rw[hc]
  show(a0C b).getD ((c:Int)).toNat []=_
  rw[Int.toNat_natCast,a7F b (by omega)];unfold a1l;rw[if_pos hpos]
 unfold fitAt;rw[decide_eq_true_eq,e];refine⟨by have:=hn.1.len;omega,?_⟩;rw[hx,Int.toNat_natCast];have h1:=(hn.2.2 x).2 ((a9K _ (by omega)).2 (by rw[<- hx];exact hmem));omega
end Go.Proofs.YtflfjpkmjnnodaaGreat
namespace Go.Proofs.YtflfjpkmjnnodaaGreat
open Go.RowKit Go.IntWalk Go.Proofs.YtflfjpkmjnnodaaGreatW.PrintWords
def MadeM (lg:Int) (one:Bool) (qs:List (List Int)) (w:World) (e:Ending) (w':World):Prop:=∃ v,e=.returned (.agg #[.int .i64 lg,.bool one,v])/\kq.R 84 w' w.heap.size (λ _=>True) v qs/\Below w.heap.size w w'
theorem cell3 {w:World} {mb:Nat} {a b c:Value} {t:Nat} (h:w.heap[mb]?=some (.cells #[a,b,c] t (0,0))):(w.cell? ⟨mb,0,none⟩=some a/\w.cell? ⟨mb,1,none⟩=some b/\w.cell? ⟨mb,2,none⟩=some c)/\(w.frozen? ⟨mb,0,none⟩=false/\w.frozen? ⟨mb,1,none⟩=false/\w.frozen? ⟨mb,2,none⟩=false):=
 ⟨⟨(a0a h 0).trans rfl,(a0a h 1).trans rfl,(a0a h 2).trans rfl⟩,a0e h 0,a0e h 1,a0e h 2⟩
theorem a5P:(Tryz.prog.info? 26).map (·.size)=some 3:=by kernel_rfl
theorem a7G {w:World} {base:Nat} {v:Value} {q:List Int} (h:(Kd.int .i64).R 3 w base (λ _=>True) v q) (hb:base<=w.heap.size):kq.R 84 (w.alloc (.cells #[v] 84)) base (λ k=>base<=k) (.slice (some ⟨w.heap.size,0,none⟩) 1 1) [q]:=by
 have hne:∀ k,v.ownBlock=some k->base<=k/\k<w.heap.size:=λ k hk=>((Kd.R_bound h).1 k hk).2.imp id (λ x=>x.1);refine⟨λ k hk=>by cases hk;exact hb,[v],⟨rfl,.inr ⟨w.heap.size,1,#[v],rfl,hb,a0i w _,Nat.le_refl _,by unfold maxLen;omega,rfl,rfl⟩⟩,rfl,λ j p hj=>?_⟩
 have hj0:j=0:=by
  rcases Nat.eq_zero_or_pos j with e | e
  · exact e
  · rw[List.getElem?_eq_none (by simp;omega)] at hj;cases hj
 subst hj0
 cases hj
 refine⟨v,rfl,Kd.R_alloc (Kd.R_mono (Kd.R_tight rfl h) (λ k hk=>⟨(hne k hk.symm).1,λ e=>?_⟩)) _⟩;have:=(hne k hk.symm).2;have h2:k=w.heap.size:=Option.some.inj e;omega
theorem a7H:(Tryz.prog.info? 84).map (λ i=>(i.zero,i.size,i.bytes))=some (some (.slice none 0 0),1,24):=by kernel_rfl
theorem a9L (n:Nat) (hn:n<=1000000) (w:World):(Instr.makeSlice 24 (.int .i64 n) (.int .i64 n)).run Tryz.prog w=.ok (.slice (some ⟨w.heap.size,0,none⟩) n n) (w.alloc (.cells (madeCells #[.slice none 0 0] n) 84)):=by
 obtain⟨i0,hi,hzz⟩:=Option.map_eq_some_iff.1 a7H;simp only[Prod.mk.injEq] at hzz;obtain⟨hz0,hz1,hz2⟩:=hzz;have hr:=run_make (P:=Tryz.prog) w 24 84 i0 (.slice none 0 0) Tryz.underlying24 hi hz0 .i64 .i64 (n:Int) (n:Int) (by omega) (by omega) (by rw[hz2];omega) (by omega);rw[hz1] at hr;simpa [Value.cells] using hr
theorem a3Q {w w':World} (h:Below w.heap.size w w') (o:Obj):Below w.heap.size w (w'.alloc o):=h.alloc h.size o
theorem a5a {w w':World} (h:Below w.heap.size w w'):Below w.heap.size w w'.drew:=h.drew
theorem a0f {w w1 w2:World} (h:Below w.heap.size w w1) (k:Below w1.heap.size w1 w2):Below w.heap.size w w2:=h.trans (k.mono h.size)
theorem b5g {w w':World} (h:Below w.heap.size w w') {k o:Nat} (hk:w.heap.size<=k) (a:Value):Below w.heap.size w (w'.setCell ⟨k,o,none⟩ a):=h.setCell hk a
theorem c4p (n:Nat) (hn:n<=1000000) (W:World) (mb base:Nat) (hne:W.heap.size≠mb) (hb:base<=W.heap.size):kq.R 84 (W.alloc (.cells (madeCells #[.slice none 0 0] n) 84)) base (λ k=>k≠mb) (.slice (some ⟨W.heap.size,0,none⟩) n n) (List.replicate n []):=by
 have hr:=Kd.reps_made (R:=kq.M (W.alloc (.cells (madeCells #[.slice none 0 0] n) 84)) base (λ k=>k≠mb/\some k≠(Value.slice (some ⟨W.heap.size,0,none⟩) n n).ownBlock)) (z:=.slice none 0 0) (size:=1) (z0:=([]:List Int)) rfl Nat.one_pos ⟨.slice none 0 0,rfl,Kd.R_nil _ _ _ _ _⟩ n;have e:(Value.slice none 0 0).cells = #[.slice none 0 0]:=rfl;rw[e,Nat.mul_one] at hr;refine⟨λ k hk=>by cases hk;exact hne,_,⟨?_,.inr ⟨W.heap.size,n,madeCells #[.slice none 0 0] n,by simp,hb,a0i W _,by simp,by unfold maxLen;omega,?_,?_⟩⟩,hr⟩
 · simp[size_madeCells];exact(Nat.mul_one n).symm
 · rw[size_madeCells];exact(Nat.mul_one n).symm
 · rw[List.length_replicate];exact List.take_of_length_le (by simp[size_madeCells];exact Nat.le_of_eq (Nat.mul_one n).symm)
theorem a5Q (W:World) (mb base:Nat) (hne:W.heap.size≠mb) (hb:base<=W.heap.size):kq.R 84 (W.alloc (.cells (madeCells #[.slice none 0 0] 256) 84)) base (λ k=>k≠mb) (.slice (some ⟨W.heap.size,0,none⟩) 256 256) (List.replicate 256 []):=c4p 256 (by omega) W mb base hne hb
theorem b5h (W:World) (o:Obj) (mb base:Nat) (hne:W.heap.size+1≠mb) (hb:base<=W.heap.size+1):kq.R 84 ((W.alloc o).alloc (.cells (madeCells #[.slice none 0 0] 256) 84)) base (λ k=>k≠mb) (.slice (some ⟨W.heap.size+1,0,none⟩) 256 256) (List.replicate 256 []):=by
 have e:(W.alloc o).heap.size=W.heap.size+1:=by simp
 have:=a5Q (W.alloc o) mb base (by rw[e];exact hne) (by rw[e];exact hb);rw[e] at this;exact this
theorem a2l (W:World) (a o:Obj):((W.alloc a).alloc o).heap[W.heap.size+1]?=some o:=by
 have:=a0i (W.alloc a) o;rw[show(W.alloc a).heap.size=W.heap.size+1 by simp] at this;exact this
theorem a1x {w:World} {mb:Nat} {t:Nat} {a b c:Value} (h:w.heap[mb]?=some (.cells #[a,b,c] t (0,0))) (x y z:Value):(((w.setCell ⟨mb,0,none⟩ x).setCell ⟨mb,1,none⟩ y).setCell ⟨mb,2,none⟩ z).heap[mb]?=some (.cells #[x,y,z] t (0,0)):=by
 rw[a0x (a0x (a0x h 0 _) 1 _) 2];rfl
theorem a2g {α:Type} {d:Kd α} {e:Nat} {w:World} {base mb:Nat} {v:Value} {xs:List α} (h:d.R e w base (λ k=>k≠mb) v xs) (x y z:Value):d.R e (((w.setCell ⟨mb,0,none⟩ x).setCell ⟨mb,1,none⟩ y).setCell ⟨mb,2,none⟩ z) base (λ k=>k≠mb) v xs:=
 Kd.R_far (p:=⟨mb,2,none⟩) (Kd.R_far (p:=⟨mb,1,none⟩) (Kd.R_far (p:=⟨mb,0,none⟩) h (λ _ hk=>hk) x) (λ _ hk=>hk) y) (λ _ hk=>hk) z
theorem a9M {w:World} {g:Nat} {o:Obj} (h:w.heap[g]?=some o):w.drew.heap[g]?=some o:=h
theorem a9N {e:TypeId} {W:World} {base g n cap:Nat} {ok okp:Nat->Prop} {xs:List (List Int)} {v:Value} {x:List Int} (h:kq.R e W base ok (.slice (some ⟨g,0,none⟩) n cap) xs) (i:Nat) (hi:i<n) (hq:(Kd.int .i64).R 3 W base okp v x) (hokp:∀ k,okp k->ok k/\k≠g) :
    kq.R e (W.setCell ⟨g,i,none⟩ v) base ok (.slice (some ⟨g,0,none⟩) n cap) (xs.set i x):=by
 obtain⟨c,hcl,_,hcc,_⟩:=Kd.R_elem h [] (i:Int) (by omega) (by omega);have hs:kq.sz=1:=rfl;have:=(Kd.R_seg h (i:Int) (by omega) (by omega) (seg:=[v]) (j:=0) (x':=x) (okp:=okp) hcl hcc (by rw[hs];simp) ⟨v,by rw[List.drop_of_length_le (by rw[hcl,hs];simp)];simp,hq⟩ hokp).1;simp only[Int.toNat_natCast,hs,Nat.mul_one,Nat.add_zero] at this;exact this
theorem a7I (b:List Int) {i:Nat} (h:i<(presN b 256).length):∃ c:Nat,(presN b 256).getD i 0=c/\c<256/\0<(a0q b (c:Int)).length:=by
 have hm:=a2f h;obtain⟨z,hz⟩:∃ z,z=(presN b 256).getD i 0:=⟨_,rfl⟩;rw[<- hz] at hm ⊢;unfold presN at hm;obtain⟨c,hc,rfl⟩:=List.mem_map.1 hm;obtain⟨h1,h2⟩:=List.mem_filter.1 hc;exact⟨c,rfl,List.mem_range.1 h1,by simpa using h2⟩
def a9O (lg:Int) (w:World) (s3:Value) (wx:World):Prop:=∃ mb g:Nat,s3=.pointer (some ⟨mb,0,none⟩)/\w.heap.size<=mb/\w.heap.size<=g/\mb≠g/\wx.heap[mb]?=some (.cells #[.int .i64 lg,.bool false,.slice (some ⟨g,0,none⟩) 256 256] 26 (0,0)) /\
 kq.R 84 wx w.heap.size (λ k=>k≠mb) (.slice (some ⟨g,0,none⟩) 256 256) (List.replicate 256 [])/\Below w.heap.size w wx
theorem a9P {e:TypeId} {W:World} {base g n cap:Nat} {ok:Nat->Prop} {xs:List (List Int)} (h:kq.R e W base ok (.slice (some ⟨g,0,none⟩) n cap) xs) (i:Nat) (hi:i<n):(∃ u,W.cell? ⟨g,i,none⟩=some u)/\W.frozen? ⟨g,i,none⟩=false:=by
 obtain⟨c,hcl,hm,hcc,hf⟩:=Kd.R_elem h [] (i:Int) (by omega) (by omega);obtain⟨v,rfl,_⟩:=hm;have h1:=hcc 0 v rfl;have h2:=hf 0;have hs:kq.sz=1:=rfl;simp only[Int.toNat_natCast,hs,Nat.mul_one,Nat.add_zero] at h1 h2;exact⟨⟨v,h1⟩,h2⟩
theorem b5l {lg:Int} {W1 wx:World} {mb:Nat} (g:Nat) (hd:wx.heap[mb]?=some (.cells #[.int .i64 lg,.bool false,.slice (some ⟨g,0,none⟩) 256 256] 26 (0,0))) (he:kq.R 84 wx W1.heap.size (λ k=>k≠mb) (.slice (some ⟨g,0,none⟩) 256 256) (List.replicate 256 [])) (hf:Below W1.heap.size W1 wx) (h1:W1.heap.size<=mb) (h2:W1.heap.size<=g) (h3:mb≠g):a9O lg W1 (.pointer (some ⟨mb,0,none⟩)) wx:=⟨mb,g,rfl,h1,h2,h3,hd,he,hf⟩
def ofR (b:List Int) (one:Bool):Nat:=if one then zeroR b else a0r b
def ofQ (b:List Int) (one:Bool):List (List Int):=if one then [zeroQ b] else a0C b
theorem c4u {w W1 wr:World} {lg:Int} {one:Bool} {qs:List (List Int)} {v:Value} (hb:Below w.heap.size w W1) (hlt:w.heap.size<W1.heap.size) (hk:W1.heap[w.heap.size]?=some (.cells #[.int .i64 0,.bool false,.slice none 0 0] 26 (0,0))) (hv:kq.R 84 wr W1.heap.size (λ _=>True) v qs) (hw:Below W1.heap.size W1 wr) :
    (((wr.setCell ⟨w.heap.size,0,none⟩ (.int .i64 lg)).setCell ⟨w.heap.size,1,none⟩ (.bool one)).setCell ⟨w.heap.size,2,none⟩ v).heap[w.heap.size]?=some (.cells #[.int .i64 lg,.bool one,v] 26 (0,0)) /\
    MadeM lg one qs w (.returned (.agg #[.int .i64 lg,.bool one,v])) (((wr.setCell ⟨w.heap.size,0,none⟩ (.int .i64 lg)).setCell ⟨w.heap.size,1,none⟩ (.bool one)).setCell ⟨w.heap.size,2,none⟩ v):=by
 refine⟨a1x (a0h hk hw) _ _ _,_,rfl,?_,?_⟩
 · have h1:kq.R 84 wr w.heap.size (λ k=>k≠w.heap.size) v qs:=
     Kd.R_mono (Kd.R_lower (Kd.R_bound hv) (Nat.le_of_lt hlt)) (λ k hk=>by have:=hk.2.1;omega)
   exact Kd.R_mono (a2g h1 _ _ _) (λ _ _=>trivial)
 · exact(((hb.trans (hw.mono hb.size)).setCell (Nat.le_refl _) _).setCell (Nat.le_refl _) _).setCell (Nat.le_refl _) _
theorem a3R {b:List Int} {one:Bool} (hb:Bytes b) (hl:b.length<=131072) (h0:0<b.length):canM (ofR b one) one (ofQ b one) b=true:=by
 unfold canM;rw[decide_eq_true hl,Bool.true_and]
 cases one with
 | true=>exact c4j hb (by omega) h0
 | false=>exact c4m hb (by omega)
theorem a2W (κ:IntKind) (e:TypeId) (W:World) (base:Nat) (ok:Nat->Prop) (hok:ok W.heap.size) (hb:base<=W.heap.size) (xs:List Int) (hl:xs.length<=1000000):(Kd.int κ).R e (W.alloc (.cells (xs.map (Value.int κ)).toArray e)) base ok (.slice (some ⟨W.heap.size,0,none⟩) xs.length xs.length) xs:=by
 refine Kd.R_of_own (h1:=λ _=>rfl) ⟨by simp[encs],.inr ⟨W.heap.size,xs.length,_,rfl,hb,a0i W _,Nat.le_refl _,by unfold maxLen;omega,by simp,?_⟩⟩ (λ k hk=>by cases hk;exact hok);rw[Nat.mul_one,show(xs.map (Value.int κ)).toArray.toList=encs (Value.int κ) xs from rfl,List.take_of_length_le (by rw[a3d];exact Nat.le_refl _)]
theorem c4v {a b:List Int} (ha:Bytes a) (hb:Bytes b):((strOfNums a).toList==(strOfNums b).toList)=decide (a=b):=by
 have e:∀ l:List Int,(strOfNums l).toList=l.map (λ x=>UInt8.ofNat x.toNat):=by
  intro l;unfold strOfNums;simp
 rw[e a,e b]
 by_cases h:a=b
 · subst h;simp
 · rw[decide_eq_false h];simp only[beq_eq_false_iff_ne,ne_eq];intro he;apply h
   have inj:∀ (a b:List Int),Bytes a->Bytes b->a.map (λ x=>UInt8.ofNat x.toNat)=b.map (λ x=>UInt8.ofNat x.toNat)->a=b:=by
    intro a
    induction a with
    | nil=>intro b _ _ h;cases b with
     | nil=>rfl
     | cons y b=>simp at h
    | cons x a ih=>
     intro b hxa hyb h
     cases b with
     | nil=>simp at h
     | cons y b=>
      rw[List.map_cons,List.map_cons,List.cons.injEq] at h;have hx:=hxa x (by simp);have hy:=hyb y (by simp);have h1:=congrArg UInt8.toNat h.1;simp only[UInt8.toNat_ofNat'] at h1;have:x=y:=by omega
      rw[this,ih b (λ z hz=>hxa z (by simp[hz])) (λ z hz=>hyb z (by simp[hz])) h.2]
   exact inj a b ha hb he
theorem c4L:Tryz.zeroCells256=madeCells #[.int .i64 0] 256:=by kernel_rfl
theorem a7L (n:Nat) (e:TypeId) (W:World) (ok:Nat->Prop) (hok:ok W.heap.size) (base:Nat) (hb:base<=W.heap.size) (hn:n<=1000000):(Kd.int .i64).R e (W.alloc (.cells (madeCells #[.int .i64 0] n) e)) base ok (.slice (some ⟨W.heap.size,0,none⟩) n n) (List.replicate n 0):=by
 have hr:=Kd.reps_made (R:=(Kd.int .i64).M (W.alloc (.cells (madeCells #[.int .i64 0] n) e)) base (λ k=>ok k/\some k≠(Value.slice (some ⟨W.heap.size,0,none⟩) n n).ownBlock)) (z:=.int .i64 0) (size:=1) (z0:=(0:Int)) rfl Nat.one_pos rfl n;have e':(Value.int .i64 0).cells = #[.int .i64 0]:=rfl;rw[e',Nat.mul_one] at hr;refine⟨λ k hk=>by cases hk;exact hok,_,⟨?_,.inr ⟨W.heap.size,n,madeCells #[.int .i64 0] n,by simp,hb,a0i W _,by simp,by unfold maxLen;omega,?_,?_⟩⟩,hr⟩
 · simp[size_madeCells];exact(Nat.mul_one n).symm
 · rw[size_madeCells];exact(Nat.mul_one n).symm
 · rw[List.length_replicate];exact List.take_of_length_le (by simp[size_madeCells];exact Nat.le_of_eq (Nat.mul_one n).symm)
theorem c4M:histL []=List.replicate 256 0:=by
 unfold histL mapR;rw[List.map_congr_left (g:=λ _=>(0:Int)) (λ _ _=>by simp),List.map_const',List.length_range]
theorem c4N (b:List Int) (k:Nat) (hk:k<b.length) {y:Nat} (hy:b.getD k 0=y) (h:y<256):histL (b.take (k+1))=(histL (b.take k)).set y ((histL (b.take k)).getD y 0+1):=by
 rw[List.take_succ_eq_append_getElem hk];have e:b[k]=(y:Int):=by rw[<- hy,List.getD_eq_getElem?_getD,List.getElem?_eq_getElem hk];rfl
 rw[e,b4J _ h,a5L _ h]
def c4O (b:List Int) (w:World) (e:Ending) (w':World):Prop:=∃ v,e=.returned v/\(Kd.int .i64).R 3 w' w.heap.size (λ _=>True) v (histL b)/\Below w.heap.size w w'
theorem b5r (A:Option Addr) (cp:Nat) (b:List Int) (w:World) (hr:(Kd.int .u8).C w A b.length b) (hl:b.length<=1000000) (hb:∀ x∈b,0<=x/\x<256) :
    Calls Tryz.prog 195 #[.slice A b.length cp] w (c4O b w):=by
 have HR:=Lib.hid (And.intro hr (And.intro hl hb))
 have HI:Hid ((Kd.int .i64).R 256 (w.alloc (.cells Tryz.zeroCells256 256)) w.heap.size (λ _=>True) (.slice (some ⟨w.heap.size,0,none⟩) 256 256) (histL (b.take 0))/\Below w.heap.size w (w.alloc (.cells Tryz.zeroCells256 256))):=by
  rw[c4L,List.take_zero,c4M];exact⟨a7L 256 _ w _ trivial _ (Nat.le_refl _) (by omega),(Below.refl _ _).alloc (Nat.le_refl _) _⟩
 clear hr hb;go_enter Tryz.func195,Tryz.ntmps195;go_wp2_with fail;go_loopw [8] (λ kv wr=>∃ (k:Nat),kv=.int .i64 k/\k<=b.length/\Hid ((Kd.int .i64).R 256 wr w.heap.size (λ _=>True) (.slice (some ⟨w.heap.size,0,none⟩) 256 256) (histL (b.take k))/\Below w.heap.size w wr)) (λ kv _=>b.length-(intOf kv).toNat)
 case atStart=>exact⟨0,rfl,by omega,HI⟩
 case round=>
  obtain⟨k,rfl,hk,H⟩:=hrel
  by_cases hlt:k<b.length
  · obtain⟨ad,rfl,hcell⟩:=a0v HR.out.1 k hlt;have hcw:=a0p H.out.2 hcell
    obtain⟨x,hx⟩:∃ x:Nat,b.getD k 0=x:=by
     have:0<=b.getD k 0:=(HR.out.2.2 _ (a2f hlt)).1;exact⟨(b.getD k 0).toNat,by omega⟩
    have hx2:x<256:=by have:=(HR.out.2.2 _ (a2f hlt)).2;omega
    rw[hx] at hcw;obtain⟨hc3,hf3⟩:=a1D H.out.1 x hx2;obtain⟨y,hy⟩:∃ y,y=(histL (b.take k)).getD x 0:=⟨_,rfl⟩
    have hyr:0<=y/\y<=1000000:=by
     rw[hy,a5L _ hx2];have:=List.count_le_length (a:=(x:Int)) (l:=b.take k);rw[List.length_take] at this;omega
    obtain⟨hy0,hy1⟩:=hyr;rw[<- hy] at hc3;have HY:=Lib.hid (And.intro hy hx);have hx256:(x:Int)<256:=by omega
    clear hy hx hcell;go_wp2_with fail;go_roundw
    case rel=>
     refine⟨k+1,by go_num,by omega,?_,H.out.2.setCell (Nat.le_refl _) _⟩;rw[c4N b k hlt HY.out.2 hx2,<- HY.out.1];have:=Kd.R_putn H.out.1 (x:Int) (y+1);rw[Int.toNat_natCast] at this;exact this
    case measure=>simp[intOf];omega
  · obtain rfl:k=b.length:=by omega
    rw[List.take_length] at H;have hrd:=Kd.R_reads' H.out.1;have hcl:(histL b).length=256:=a1I _;have HE:=Lib.hid (a6P .i64 3 wr w.heap.size (λ _=>True) H.out.2.size trivial)
    have HC:Hid ((Kd.int .i64).C (wr.alloc (.cells #[] 3)) (some ⟨w.heap.size,0,none⟩) 256 (histL b)):=by
     have:=Kd.C_alloc hrd.2.2 (.cells #[] 3);rw[hcl] at this;exact this
    have HL:Hid ((([]:List Int).length+(histL b).length)*8<=140737488355328):=by show _<=_;rw[hcl];decide
    have HB:=Lib.hid (H.out.2.alloc H.out.2.size (.cells #[] 3));have HS:Hid (w.heap.size<=(wr.alloc (.cells #[] 3)).heap.size):=by show _<=_;have:=H.out.2.size;simp;omega
    clear hrd hcl hlt;go_wp2_with (at_builtin;refine Kd.R_append_rows (Kd.int .i64) (Rr:=(Kd.int .i64).K (wr.alloc (.cells #[] 3))) (w0:=w) (W:=wr.alloc (.cells #[] 3)) w.heap.size rfl (.tmp 18) (.tmp 19) 84 3 (.int .i64 0) 8 rfl Tryz.underlying84 a4h rfl (by decide) (by decide) (.slice (some ⟨wr.heap.size,0,none⟩) 0 0) [] (histL b) (some ⟨w.heap.size,0,none⟩) 256 256 (λ _=>True) (λ _=>False) rfl rfl HE.out HC.out (λ _ _ h=>h) (λ _ h=>h.elim) (λ _ _=>trivial) HB.out HS.out HL.out ?_;intro vi w2 hr2 hb2 hg2 hat2;have HR2:=Lib.hid hr2;have HB2:=Lib.hid hb2;clear hr2 hb2 hg2 hat2);go_ret;rw[List.nil_append] at HR2;exact⟨_,rfl,HR2.out,HB2.out⟩
def panE (n:Int):Ending:=.panicked [{ v:=.iface 27 (.int .i64 n),recovered:=false }]
theorem a5c (w:World):Calls Tryz.prog 158 #[.bool false] w λ e w'=>e=.returned (.tuple #[])/\w=w':=by
 go_enter Tryz.func158,Tryz.ntmps158;go_wp2_with fail;go_end0;exact⟨rfl,rfl⟩
theorem a9V (w:World):Calls Tryz.prog 158 #[.bool true] w λ e w'=>e=panE 13/\w=w':=by
 go_enter Tryz.func158,Tryz.ntmps158;go_wp2_with fail
 first | exact⟨rfl,rfl⟩ | (simp[bodyPost,panE])
theorem a5d (n:Int) (w:World):Calls Tryz.prog 159 #[.int .i64 n,.int .i64 0] w λ e w'=>e=.returned (.int .i64 n)/\w=w':=by
 go_enter Tryz.func159,Tryz.ntmps159;go_wp2_with fail;go_ret;exact⟨rfl,rfl⟩
theorem a9W (n e:Int) (w:World) (h:¬ e=0):Calls Tryz.prog 159 #[.int .i64 n,.int .i64 e] w λ en w'=>en=panE e/\w=w':=by
 have hb:(e==0)=false:=beq_eq_false_iff_ne.2 h;have hn:(e != 0)=true:=by simp[h]
 go_enter Tryz.func159,Tryz.ntmps159;go_wp2_with fail
 first | exact⟨rfl,rfl⟩ | (simp[bodyPost,panE])
theorem b5s {ps:List Int} {T:Nat}:∀ (f at_ n most:Nat),(runT ps T f at_ n most).1=0->(runT ps T f at_ n most).2.1<=most:=by
 intro f
 induction f with
 | zero=>intro _ _ _ h;simp[runT] at h
 | succ f ih=>
  intro at_ n most;simp only[runT]
  by_cases h1:T<at_+2
  · rw[if_pos h1];intro h;cases h
  · rw[if_neg h1]
    by_cases h2:most<n+takeF ps at_ 2
    · rw[if_pos h2];intro h;cases h
    · rw[if_neg h2]
      by_cases h3:takeF ps at_ 2=3
      · rw[if_pos h3];exact ih _ _ _
      · rw[if_neg h3];intro _;simp only[];omega
structure HcRel (base p g:Nat) (ps:List Int) (H:Int×List Int×Nat) (w:World) (left s:Nat) (again:Bool) (q:List Int) (at_ d:Nat) (wr:World):Prop where
 rd:RfAt wr base p ps at_
 row:(Kd.int .i64).R 3 wr w.heap.size (λ _=>True) (.slice (some ⟨g,0,none⟩) 256 256) q
 ql:q.length=256
 at_le:at_<=8*ps.length
 eq:hdrT ps (8*ps.length) d q s left again at_=H
 fuel:257<=s+d
 only:Only (λ k=>k=p) w wr
 gt:p<g/\w.heap.size<=g
def c4P (base p:Nat) (ps:List Int) (H:Int×List Int×Nat) (w:World) (e:Ending) (w':World):Prop:=
 (H.1=0->∃ g,e=.returned (.slice (some ⟨g,0,none⟩) 256 256)/\(Kd.int .i64).R 3 w' w.heap.size (λ _=>True) (.slice (some ⟨g,0,none⟩) 256 256) H.2.1/\H.2.1.length=256/\RfAt w' base p ps H.2.2) /\
 (H.1≠0->e=panE H.1)/\Only (λ k=>k=p) w w'
theorem HcRel.put {base p g:Nat} {ps:List Int} {H:Int×List Int×Nat} {w wr w1:World} {left s:Nat} {again:Bool} {q:List Int} {at_ d:Nat} (h:HcRel base p g ps H w left s again q at_ d wr) {at2:Nat} (hr:RfAt w1 base p ps at2) (ho:Only (λ k=>k=p) wr w1) (x:Int) :
    RfAt (w1.setCell ⟨g,s,none⟩ (.int .i64 x)) base p ps at2/\(Kd.int .i64).R 3 (w1.setCell ⟨g,s,none⟩ (.int .i64 x)) w.heap.size (λ _=>True) (.slice (some ⟨g,0,none⟩) 256 256) (q.set s x)/\Only (λ k=>k=p) w (w1.setCell ⟨g,s,none⟩ (.int .i64 x)) /\
     (Kd.int .i64).R 3 w1 w.heap.size (λ _=>True) (.slice (some ⟨g,0,none⟩) 256 256) q:=by
 have hgp:=h.gt
 have h1:(Kd.int .i64).R 3 w1 w.heap.size (λ _=>True) (.slice (some ⟨g,0,none⟩) 256 256) q:=a2G rfl h.row ho (λ k hk e=>by
  have:g=k:=by simpa [Value.ownBlock] using hk
  omega)
 have h2:=Kd.R_putn h1 (s:Int) x;rw[Int.toNat_natCast] at h2;refine⟨hr.far hgp.1 s _,h2,?_,h1⟩;have h3:=h.only.trans ho;exact⟨h3.os,h3.tape,h3.output,by simp;exact h3.size,λ k hk hs=>by rw[Below.heap_setCell _ _ _ _ (by show k≠g;omega)];exact h3.block k hk hs⟩
theorem c4Q (base p:Nat) (ps:List Int) (at_ left0:Nat) (w:World) (h:RfAt w base p ps at_) (hps:∀ x∈ps,0<=x/\x<256) (hl:ps.length<=1000000) (ha:at_<=8*ps.length) (hleft:left0<=4096) (hp:p<w.heap.size) :
    Calls Tryz.prog 108 #[.pointer (some ⟨p,0,none⟩),.int .i64 left0] w (c4P base p ps (hdrT ps (8*ps.length) 257 a0y 0 left0 false at_) w):=by
 obtain⟨H,hH⟩:∃ H,H=hdrT ps (8*ps.length) 257 a0y 0 left0 false at_:=⟨_,rfl⟩;rw[<- hH];obtain⟨W,hW⟩:∃ W,W=w.alloc (.cells (madeCells #[.int .i64 0] 256) 3):=⟨_,rfl⟩
 have HI:Hid (HcRel base p w.heap.size ps H w left0 0 false a0y at_ 257 W):=by
  refine⟨?_,?_,by unfold a0y;exact List.length_replicate,ha,hH.symm,by omega,?_,hp,Nat.le_refl _⟩
  · rw[hW];exact h.below ((Below.refl _ _).alloc (Nat.le_refl _) _)
  · rw[hW];exact a7L 256 3 w _ trivial _ (Nat.le_refl _) (by omega)
  · rw[hW];exact(Only.refl _ _).alloc _
 have hmi:∀ w:World,(Instr.makeSlice 84 (.int .i64 256) (.int .i64 256)).run Tryz.prog w=.ok (.slice (some ⟨w.heap.size,0,none⟩) 256 256) (w.alloc (.cells (madeCells #[.int .i64 0] 256) 3)):=λ w=>a7A 256 (by omega) w;have HP:=Lib.hid (And.intro hps (And.intro hl ha));clear h hps hl ha hH;go_enter Tryz.func108,Tryz.ntmps108;go_wp2_with fail;rw[<- hW];obtain⟨g,hg⟩:∃ g,g=w.heap.size:=⟨_,rfl⟩;rw[<- hg] at HI ⊢;clear hW hg hmi;go_loopw [1,6,7] (λ lv av sv wr=>∃ (left s:Nat) (again:Bool),lv=.int .i64 left/\av=.bool again/\sv=.int .i64 s/\left<=4096/\s<=256/\Hid (∃ q at' d,HcRel base p g ps H w left s again q at' d wr)) (λ _ _ sv _=>257-(intOf sv).toNat)
 case atStart=>exact⟨left0,0,false,rfl,rfl,rfl,hleft,by omega,a0y,at_,257,HI⟩
 case round=>
  obtain⟨left,s,again,rfl,rfl,rfl,hl4,hs,HR⟩:=hrel;obtain⟨q,at',d,hr⟩:=HR.out;obtain⟨d,rfl⟩:∃ d',d=d'+1:=⟨d-1,by have:=hr.fuel;omega⟩;have heq:=hr.eq;simp only[hdrT] at heq;have HH:=Lib.hid hr;clear hr HR
  by_cases h0:left=0
  · rw[if_pos h0] at heq;have HE:=Lib.hid heq;subst h0;clear heq;go_wp2_with fail;go_ret;exact⟨λ _=>⟨g,rfl,by rw[<- HE.out];exact HH.out.row,by rw[<- HE.out];exact HH.out.ql,by rw[<- HE.out];exact HH.out.rd⟩,λ h=>by rw[<- HE.out] at h;exact absurd rfl h,HH.out.only⟩
  · rw[if_neg h0] at heq
    by_cases h256:s=256
    · rw[if_pos h256] at heq;have HE:=Lib.hid heq;subst h256;clear heq;go_wp2_with fail;refine(a9V wr).mono ?_;rintro e w' ⟨rfl,rfl⟩;unfold panE;go_wp2_with fail;refine⟨rfl,?_⟩;exact⟨(λ h=>by rw[<- HE.out] at h;cases h),(λ _=>by rw[<- HE.out];rfl),HH.out.only⟩
    · rw[if_neg h256] at heq;have hsb:((s:Int)==256)=false:=beq_eq_false_iff_ne.2 (by omega);have hs256:(s:Int)<256:=by omega
      have HEQ:=Lib.hid heq;clear heq;go_wp2_with fail;refine(a5c wr).mono ?_;rintro e w' ⟨rfl,rfl⟩;go_wp2_with fail;refine(c4J base p ps at' left wr HH.out.rd HP.out.1 HP.out.2.1 HH.out.at_le (by omega) hl4).mono ?_;rintro e w1 ⟨t1,t2,t3,t4⟩;have HO:=Lib.hid t4
      by_cases hT:8*ps.length<at'+Lib.bitLen left
      · obtain rfl:=t1 hT;have HE:Hid ((3,q,0)=H):=by have:=HEQ.out;rw[if_pos hT] at this;exact this
        clear t1 t2 t3 t4;go_wp2_with fail;refine(a9W 0 3 w1 (by decide)).mono ?_;rintro e w' ⟨rfl,rfl⟩;unfold panE;go_wp2_with fail;refine⟨rfl,?_⟩;exact⟨(λ h=>by rw[<- HE.out] at h;cases h),(λ _=>by rw[<- HE.out];rfl),HH.out.only.trans HO.out⟩
      · have HNT:=Lib.hid hT;have hT':at'+Lib.bitLen left<=8*ps.length:=by omega
        by_cases hV:left<takeF ps at' (Lib.bitLen left)
        · obtain rfl:=t2 hT' hV;have HE:Hid ((13,q,0)=H):=by have:=HEQ.out;rw[if_neg hT,if_pos hV] at this;exact this
          clear t1 t2 t3 t4 hT hT' hV;go_wp2_with fail;refine(a9W 0 13 w1 (by decide)).mono ?_;rintro e w' ⟨rfl,rfl⟩;unfold panE;go_wp2_with fail;refine⟨rfl,?_⟩;exact⟨(λ h=>by rw[<- HE.out] at h;cases h),(λ _=>by rw[<- HE.out];rfl),HH.out.only.trans HO.out⟩
        · obtain⟨rfl,hrd⟩:=t3 hT' (by omega);obtain⟨V,hVe⟩:∃ V,V=takeF ps at' (Lib.bitLen left):=⟨_,rfl⟩;have hq3:=HEQ.out;rw[if_neg hT,if_neg hV] at hq3;rw[<- hVe] at hq3 hV ⊢;have hVl:V<=left:=by omega
          have HPut:=Lib.hid (HH.out.put hrd HO.out (V:Int));obtain⟨hcl,hfz⟩:=a1D HPut.out.2.2.2 s (by omega);have hcl2:=(a1D HPut.out.2.1 s (by omega)).1;have hqs:(q.set s (V:Int)).getD s 0=V:=by rw[a4R _ _ _ _ (by have:=HH.out.ql;omega),if_pos rfl]
          rw[hqs] at hcl2;have HQ3:=Lib.hid hq3;have HT2:=Lib.hid hT';obtain⟨at2,hat2⟩:∃ a,a=at'+Lib.bitLen left:=⟨_,rfl⟩;rw[<- hat2] at HPut HQ3 HT2;clear t1 t2 t3 t4 hT hT' hV hVe hq3 hqs hrd hat2
          by_cases hV0:V=0
          · subst hV0;have hvb:(((0:Nat):Int)==0)=true:=rfl
            cases again with
            | true=>
             have HE:Hid ((13,q,0)=H):=by have:=HQ3.out;rw[if_pos ⟨rfl,rfl⟩] at this;exact this
             go_wp2_with fail;refine(a5d (0:Int) w1).mono ?_;rintro e w' ⟨rfl,rfl⟩;go_wp2_with fail;refine(a9V _).mono ?_;rintro e w' ⟨rfl,rfl⟩;unfold panE;go_wp2_with fail;refine⟨rfl,?_⟩;exact⟨(λ h=>by rw[<- HE.out] at h;cases h),(λ _=>by rw[<- HE.out];rfl),HPut.out.2.2.1⟩
            | false=>
             by_cases hs1:s+1=256
             · have HE:Hid ((13,q,0)=H):=by have:=HQ3.out;rw[if_neg (λ h=>by cases h.1),if_pos rfl,if_pos hs1] at this;exact this
               have hsb1:((s:Int)+1==256)=true:=by simp;omega
               go_wp2_with fail;refine(a5d (0:Int) w1).mono ?_;rintro e w' ⟨rfl,rfl⟩;go_wp2_with fail;refine(a5c _).mono ?_;rintro e w' ⟨rfl,rfl⟩;go_wp2_with fail;refine(a9V _).mono ?_;rintro e w' ⟨rfl,rfl⟩;unfold panE;go_wp2_with fail;refine⟨rfl,?_⟩;exact⟨(λ h=>by rw[<- HE.out] at h;cases h),(λ _=>by rw[<- HE.out];rfl),HPut.out.2.2.1⟩
             · have hsb1:((s:Int)+1==256)=false:=beq_eq_false_iff_ne.2 (by omega);have hq4:=HQ3.out;rw[if_neg (λ h=>by cases h.1),if_pos rfl,if_neg hs1] at hq4;have HQ4:=Lib.hid hq4;have hmost:(254:Int)-(s:Int)=((254-s:Nat):Int):=by omega
               clear hq4;go_wp2_with fail;refine(a5d (0:Int) w1).mono ?_;rintro e w' ⟨rfl,rfl⟩;go_wp2_with fail;refine(a5c _).mono ?_;rintro e w' ⟨rfl,rfl⟩;go_wp2_with fail;refine(a5c _).mono ?_;rintro e w' ⟨rfl,rfl⟩;go_wp2_with fail;obtain⟨R,hR⟩:∃ R,R=runT ps (8*ps.length) 100 at2 0 (254-s):=⟨_,rfl⟩;have hRle:R.1=0->R.2.1<=254-s:=λ h=>by rw[hR] at h ⊢;exact b5s _ _ _ _ h
               have hRend:R.1=0->R.2.2<=8*ps.length:=λ h=>by rw[hR] at h ⊢;exact a9S _ _ _ _ h
               have hrt:=c4K base p ps at2 (254-s) _ HPut.out.1 HP.out.1 HP.out.2.1 HT2.out (by omega);unfold a9U at hrt;rw[<- hR] at hrt HQ4;have HRE:=Lib.hid (And.intro hRle hRend);clear hR hRle hRend;refine hrt.mono ?_;rintro e w2 ⟨r1,r2,r3⟩;have HO2:Hid (Only (λ k=>k=p) w w2):=HPut.out.2.2.1.trans r3
               by_cases hr1:R.1=0
               · obtain⟨rfl,hrd2⟩:=r1 hr1;have hle:=HRE.out.1 hr1;have hq5:=HQ4.out;rw[if_neg (λ h=>h hr1)] at hq5
                 have HNew:Hid (∃ q at' d,HcRel base p g ps H w left (s+R.2.1+1) true q at' d w2):=by
                  refine⟨q.set s 0,R.2.2,d,hrd2,?_,by simp[HH.out.ql],HRE.out.2 hr1,?_,by have:=HH.out.fuel;omega,HO2.out,HH.out.gt⟩
                  · exact a2G rfl HPut.out.2.1 r3 (λ k hk e=>by
                      have:g=k:=by simpa [Value.ownBlock] using hk
                      have:=HH.out.gt;omega)
                  · rw[show s+R.2.1+1=s+1+R.2.1 by omega];exact hq5
                 obtain⟨rn,hrn⟩:∃ rn,rn=R.2.1:=⟨_,rfl⟩;rw[<- hrn] at hle HNew ⊢;clear r1 r2 r3 hrd2 hq5 hrt hrn;go_wp2_with fail;refine(a5d (rn:Int) w2).mono ?_;rintro e w' ⟨rfl,rfl⟩;go_wp2_with fail;go_roundw
                 case rel=>exact⟨left,s+rn+1,true,by first | rfl | (congr 1;omega),rfl,by go_num,hl4,by omega,HNew⟩
                 case measure=>simp[intOf];omega
               · obtain rfl:=r2 hr1;have HE:Hid ((R.1,q,0)=H):=by have:=HQ4.out;rw[if_pos hr1] at this;exact this
                 obtain⟨rc,hrc⟩:∃ rc,rc=R.1:=⟨_,rfl⟩;rw[<- hrc] at HE hr1 ⊢;clear r1 r2 r3 hrt hrc;go_wp2_with fail;refine(a9W 0 rc w2 hr1).mono ?_;rintro e w' ⟨rfl,rfl⟩;unfold panE;go_wp2_with fail;refine⟨rfl,?_⟩;exact⟨(λ h=>by rw[<- HE.out] at h;exact absurd h hr1),(λ _=>by rw[<- HE.out];rfl),HO2.out⟩
          · have hvb:((V:Int)==0)=false:=beq_eq_false_iff_ne.2 (by omega);have hq4:=HQ3.out;rw[if_neg (λ h=>hV0 h.2),if_neg hV0] at hq4
            have HNew:Hid (∃ q at' d,HcRel base p g ps H w (left-V) (s+1) false q at' d (w1.setCell ⟨g,s,none⟩ (.int .i64 (V:Int)))):=
             ⟨q.set s (V:Int),at2,d,HPut.out.1,HPut.out.2.1,by simp[HH.out.ql],HT2.out,hq4,by have:=HH.out.fuel;omega,HPut.out.2.2.1,HH.out.gt⟩
            have hls:(left:Int)-(V:Int)=((left-V:Nat):Int):=by omega
            clear hq4
            cases again with
            | true=>
             go_wp2_with fail;refine(a5d (V:Int) w1).mono ?_;rintro e w' ⟨rfl,rfl⟩;go_wp2_with fail;refine(a5c _).mono ?_;rintro e w' ⟨rfl,rfl⟩;go_wp2_with fail;go_roundw
             case rel=>exact⟨left-V,s+1,false,by first | rfl | (congr 1;omega),rfl,by go_num,by omega,by omega,HNew⟩
             case measure=>simp[intOf];omega
            | false=>
             go_wp2_with fail;refine(a5d (V:Int) w1).mono ?_;rintro e w' ⟨rfl,rfl⟩;go_wp2_with fail;refine(a5c _).mono ?_;rintro e w' ⟨rfl,rfl⟩;go_wp2_with fail;go_roundw
             case rel=>exact⟨left-V,s+1,false,by first | rfl | (congr 1;omega),rfl,by go_num,by omega,by omega,HNew⟩
             case measure=>simp[intOf];omega
theorem c4R (a b:Nat) (va:Value) (n x:Int) (older:List PanicEntry) (w:World) (ha:w.cell? ⟨a,0,none⟩=some va) (hfa:w.frozen? ⟨a,0,none⟩=false) (hb:w.cell? ⟨b,0,none⟩=some (.int .i64 x)) (hfb:w.frozen? ⟨b,0,none⟩=false) (hne:a≠b) :
    CallsD Tryz.prog 107 #[.pointer (some ⟨a,0,none⟩),.pointer (some ⟨b,0,none⟩)] (.panicking ({ v:=.iface 27 (.int .i64 n),recovered:=false } :: older)) w λ e u' w'=>
     e=.returned (.tuple #[])/\u'=.panicking ({ v:=.iface 27 (.int .i64 n),recovered:=true } :: older)/\w'=(w.setCell ⟨a,0,none⟩ (.slice none 0 0)).setCell ⟨b,0,none⟩ (.int .i64 n):=by
 have ta:∀ (v:Value) (w:World),(Instr.typeAssert (.iface 27 v) 20 27 true).run Tryz.prog w=.ok (.tuple #[v,.bool true]) w:=λ v w=>by kernel_rfl
 have hne2:¬ b=a:=λ e=>hne e.symm;refine callsD_of_wpS Tryz.func107 rfl λ c₀ cs hu=>?_;apply wpS_seq;apply wpS_region;simp[wpOpsS,go_sem,recoverD,hu,Tryz.ntmps107,Exit.thenS,ta];apply wpS_seq;apply wpS_region;simp[wpOpsS,go_sem,Exit.thenS];refine wpS_cond (t:=true) (by simp[Act.eval,Array.replicate]) ?_;simp only[if_true];apply wpS_region
 have hb2:(w.setCell ⟨a,0,none⟩ (.slice none 0 0)).cell? ⟨b,0,none⟩=some (.int .i64 x):=by
  rw[World.cell?_setCell_other _ _ _ _ (by simp)];exact hb
 have hfb2:(w.setCell ⟨a,0,none⟩ (.slice none 0 0)).frozen? ⟨b,0,none⟩=false:=by simp[hfb,go_sem]
 simp[wpOpsS,go_sem,ha,hfa,hb2,hfb2,bodyPostS,results,Tryz.results107]
theorem c4S (a b:Nat) (w:World) :
    CallsD Tryz.prog 107 #[.pointer (some ⟨a,0,none⟩),.pointer (some ⟨b,0,none⟩)] .returning w λ e u' w'=>e=.returned (.tuple #[])/\u'=.returning/\w'=w:=by
 have ta:∀ (w:World),(Instr.typeAssert .nilIface 20 27 true).run Tryz.prog w=.ok (.tuple #[.int .i64 0,.bool false]) w:=λ w=>by kernel_rfl
 refine callsD_of_wpS Tryz.func107 rfl λ c₀ cs hu=>?_;apply wpS_seq;apply wpS_region;simp[wpOpsS,go_sem,recoverD,hu,Tryz.ntmps107,Exit.thenS,ta];apply wpS_seq;apply wpS_region;simp[wpOpsS,go_sem,Exit.thenS];refine wpS_cond (t:=false) (by simp[Act.eval,Array.replicate]) ?_;simp only[Bool.false_eq_true,if_false];refine wpS_of_wp (wp_skip ?_)
 cases c₀
 simp_all [bodyPostS,results,Tryz.results107]
theorem Only.setNew {S:Nat->Prop} {w w1:World} (h:Only S w w1) {a:Nat} (ha:w.heap.size<=a) (j:Nat) (u:Value):Only S w (w1.setCell ⟨a,j,none⟩ u):=
 ⟨h.os,h.tape,h.output,by simp;exact h.size,λ k hk hs=>by rw[Below.heap_setCell _ _ _ _ (by show k≠a;omega)];exact h.block k hk hs⟩
def c4T (base p:Nat) (ps:List Int) (H:Int×List Int×Nat) (w:World) (e:Ending) (w':World):Prop:=
 (H.1=0->∃ g,e=.returned (.tuple #[.slice (some ⟨g,0,none⟩) 256 256,.int .i64 0])/\(Kd.int .i64).R 3 w' w.heap.size (λ _=>True) (.slice (some ⟨g,0,none⟩) 256 256) H.2.1/\H.2.1.length=256/\RfAt w' base p ps H.2.2) /\
 (H.1≠0->e=.returned (.tuple #[.slice none 0 0,.int .i64 H.1]))/\Only (λ k=>k=p) w w'
theorem b5t (base p r:Nat) (ps:List Int) (at_:Nat) (w:World) (h:RfAt w base p ps at_) (hps:∀ x∈ps,0<=x/\x<256) (hl:ps.length<=1000000) (ha:at_<=8*ps.length) (h1:1<=r) (h12:r<=12) (hp:p<w.heap.size) :
    Calls Tryz.prog 68 #[.pointer (some ⟨p,0,none⟩),.int .i64 r] w (c4T base p ps (hdrT ps (8*ps.length) 257 a0y 0 (2^r) false at_) w):=by
 obtain⟨P,hP⟩:∃ P:Nat,P=2^r:=⟨_,rfl⟩;rw[<- hP];obtain⟨H,hH⟩:∃ H,H=hdrT ps (8*ps.length) 257 a0y 0 P false at_:=⟨_,rfl⟩;rw[<- hH];have hPI:(2:Int)^r=(P:Int):=by rw[hP];simp
 have hPb:1<=P/\P<=4096:=by have:=a1K h12;rw[hPI] at this;omega
 have hw1:IntKind.i64.wrap (2^r)=(P:Int):=by rw[hPI];exact i64_in _ (by omega)
 obtain⟨W,hW⟩:∃ W,W=(w.alloc (.cells #[.slice none 0 0] 84)).alloc (.cells #[.int .i64 0] 27):=⟨_,rfl⟩;have hmf:∀ (fn:Fn) (first cap:Array Value) (w:World),(Instr.makeFunc fn first cap).run Tryz.prog w=.ok (.func fn first cap) w:=λ _ _ _ _=>rfl;have hr1:¬ (r:Int)<1:=by omega
 have hr2:¬ 12<(r:Int):=by omega
 have hr0:(0:Int)<=r:=by omega
 have HW:=Lib.hid hPI;have hsz:W.heap.size=w.heap.size+2:=by rw[hW];simp
 have hba:W.heap[w.heap.size]?=some (.cells #[.slice none 0 0] 84 (0,0)):=by rw[hW];exact a0o (a0i _ _) _
 have hbb:W.heap[w.heap.size+1]?=some (.cells #[.int .i64 0] 27 (0,0)):=by rw[hW];exact a2l _ _ _
 have hWb:Below w.heap.size w W:=by rw[hW];exact((Below.refl _ _).alloc (Nat.le_refl _) _).alloc (by simp) _
 have HCnt:=Lib.hid (c4Q base p ps at_ P W (h.below hWb) hps hl ha (by omega) (by omega));rw[<- hH] at HCnt;obtain⟨a,hae⟩:∃ a,a=w.heap.size:=⟨_,rfl⟩;obtain⟨b,hbe⟩:∃ b,b=w.heap.size+1:=⟨_,rfl⟩;rw[<- hae] at hba;rw[<- hbe] at hbb;have HA:=Lib.hid (And.intro hae (And.intro hbe (And.intro hsz (And.intro hba (And.intro hbb (And.intro hWb hp))))));clear hPI hP hH h hps hl ha hsz hba hbb hWb hp;go_enter_defers Tryz.func68,Tryz.ntmps68;go_wp2_with fail;rw[<- hW,<- hbe,<- hae];clear hW hae hbe;refine HCnt.out.mono ?_;rintro e w1 ⟨c1,c2,c3⟩;have hab:p≠a/\p≠b/\a≠b/\a<W.heap.size/\b<W.heap.size:=by obtain⟨q1,q2,q3,q4,q5,q6,q7⟩:=HA.out;omega
 have hba1:w1.heap[a]?=some (.cells #[.slice none 0 0] 84 (0,0)):=by rw[c3.block a hab.2.2.2.1 (λ e=>hab.1 e.symm)];exact HA.out.2.2.2.1
 have hbb1:w1.heap[b]?=some (.cells #[.int .i64 0] 27 (0,0)):=by rw[c3.block b hab.2.2.2.2 (λ e=>hab.2.1 e.symm)];exact HA.out.2.2.2.2.1
 have ca:w1.cell? ⟨a,0,none⟩=some (.slice none 0 0):=(a0a hba1 0).trans rfl;have cb:w1.cell? ⟨b,0,none⟩=some (.int .i64 0):=(a0a hbb1 0).trans rfl;have fa:w1.frozen? ⟨a,0,none⟩=false:=a0e hba1 0;have fb:w1.frozen? ⟨b,0,none⟩=false:=a0e hbb1 0;have HC3:=Lib.hid (And.intro c3 hab);have hne:¬ a=b:=hab.2.2.1;have hne':¬ b=a:=λ e=>hab.2.2.1 e.symm
 by_cases h0:H.1=0
 · obtain⟨g,rfl,d1,d2,d3⟩:=c1 h0;have HD:=Lib.hid (And.intro d1 (And.intro d2 (And.intro d3 h0)));clear c1 c2 c3 d1 d2 d3 hba1 hbb1;go_wp2_with fail;refine leaves_cons (f:=107) (args:=#[.pointer (some ⟨a,0,none⟩),.pointer (some ⟨b,0,none⟩)]) (by simp) (by simp[go_sem]) ?_;refine(c4S a b _).mono ?_;rintro e u' w'' ⟨rfl,rfl,rfl⟩;have ca2:(w1.setCell ⟨a,0,none⟩ (.slice (some ⟨g,0,none⟩) 256 256)).cell? ⟨a,0,none⟩=some (.slice (some ⟨g,0,none⟩) 256 256):=World.cell?_setCell_same _ _ _ ca;have cb2:((w1.setCell ⟨a,0,none⟩ (.slice (some ⟨g,0,none⟩) 256 256)).setCell ⟨b,0,none⟩ (.int .i64 0)).cell? ⟨b,0,none⟩=some (.int .i64 0):=World.cell?_setCell_same _ _ _ (by rw[World.cell?_setCell_other _ _ _ _ (by simp)];exact cb);simp[Leaves,settle,results,Tryz.results68,go_sem,ca2,cb2];have ho:Only (λ k=>k=p) w w1:=(Only.of_below HA.out.2.2.2.2.2.1).trans HC3.out.1;refine⟨λ _=>⟨g,rfl,?_,HD.out.2.1,?_⟩,λ h=>absurd HD.out.2.2.2 h,(ho.setNew (by have:=HA.out.1;omega) 0 _).setNew (by have:=HA.out.2.1;omega) 0 _⟩
   · have hlt:=HC3.out.2;have h1:=Kd.R_bound HD.out.1;have h2:=Kd.R_far (p:=⟨b,0,none⟩) (Kd.R_far (p:=⟨a,0,none⟩) h1 (λ k hk=>by show k≠a;have:=hk.2.1;omega) (.slice (some ⟨g,0,none⟩) 256 256)) (λ k hk=>by show k≠b;have:=hk.2.1;omega) (.int .i64 0);exact Kd.R_mono (Kd.R_lower h2 HA.out.2.2.2.2.2.1.size) (λ _ _=>trivial)
   · have h1:=HA.out.1;have h2:=HA.out.2.1;have h3:=HA.out.2.2.2.2.2.2;exact(HD.out.2.2.1.far (by omega) 0 _).far (by omega) 0 _
 · obtain rfl:=c2 h0;have HD:=Lib.hid h0;clear c1 c2 c3 hba1 hbb1;unfold panE;go_wp2_with fail;refine leaves_cons (f:=107) (args:=#[.pointer (some ⟨a,0,none⟩),.pointer (some ⟨b,0,none⟩)]) (by simp) (by simp[go_sem]) ?_;refine(c4R a b (.slice none 0 0) H.1 0 [] w1 ca fa cb fb hne).mono ?_;rintro e u' w'' ⟨rfl,rfl,rfl⟩;have ca2:(w1.setCell ⟨a,0,none⟩ (.slice none 0 0)).cell? ⟨a,0,none⟩=some (.slice none 0 0):=World.cell?_setCell_same _ _ _ ca;have cb2:((w1.setCell ⟨a,0,none⟩ (.slice none 0 0)).setCell ⟨b,0,none⟩ (.int .i64 H.1)).cell? ⟨b,0,none⟩=some (.int .i64 H.1):=World.cell?_setCell_same _ _ _ (by rw[World.cell?_setCell_other _ _ _ _ (by simp)];exact cb);simp[Leaves,settle,results,Tryz.results68,go_sem,ca2,cb2];refine⟨λ h=>absurd h HD.out,λ _=>rfl,?_⟩;have ho:Only (λ k=>k=p) w w1:=(Only.of_below HA.out.2.2.2.2.2.1).trans HC3.out.1;exact(ho.setNew (by have:=HA.out.1;omega) 0 _).setNew (by have:=HA.out.2.1;omega) 0 _
end Go.Proofs.YtflfjpkmjnnodaaGreat
namespace Go.Proofs.YtflfjpkmjnnodaaGreat
open Go.RowKit Go.Proofs.YtflfjpkmjnnodaaGreatW.PrintWords HeapL
def a1O (rest:List Int) (s:Nat):K3:=((s:Int),rest.getD s 0,0)
def candN (rest:List Int) (had:List Bool) (k:Nat):List K3:=((List.range k).filter (λ s=>!had.getD s false)).map (a1O rest)
def a1H (c q:List Int) (s:Nat):K3:=((s:Int),q.getD s 0,(1073741824-c.getD s 0)*256+s)
def candT (c q:List Int) (k:Nat):List K3:=((List.range k).filter (λ s=>decide (0<c.getD s 0))).map (a1H c q)
theorem b0e (rest:List Int) (had:List Bool) (k:Nat):candN rest had (k+1)=if had.getD k false=false then candN rest had k++[a1O rest k] else candN rest had k:=by
 unfold candN
 have e:[k].filter (λ s=>!had.getD s false)=if had.getD k false=false then [k] else []:=by
  rw[List.filter_cons,List.filter_nil];cases had.getD k false <;> rfl
 rw[List.range_succ,List.filter_append,List.map_append,e]
 split
 · rfl
 · rw[List.map_nil,List.append_nil]
theorem b5H (c q:List Int) (k:Nat):candT c q (k+1)=if 0<c.getD k 0 then candT c q k++[a1H c q k] else candT c q k:=by
 unfold candT;rw[List.range_succ,List.filter_append,List.map_append,List.filter_cons,List.filter_nil]
 by_cases h:0<c.getD k 0
 · rw[if_pos h,if_pos (decide_eq_true h)];rfl
 · rw[if_neg h,if_neg (by rw[decide_eq_false h];decide),List.map_nil,List.append_nil]
theorem b0f (rest:List Int) (had:List Bool) (k:Nat):(candN rest had k).length<=k:=by
 unfold candN;rw[List.length_map];exact Nat.le_trans (List.length_filter_le _ _) (by simp)
theorem b0g (c q:List Int) (k:Nat):(candT c q k).length<=k:=by
 unfold candT;rw[List.length_map];exact Nat.le_trans (List.length_filter_le _ _) (by simp)
theorem b5I {p:Nat->Bool} {t:Nat} (ht:t<256) (hp:p t=true):((List.range 256).filter p).Perm (t :: (List.range 256).filter (λ s=>p s&&decide (s≠t))):=by
 have hm:t∈(List.range 256).filter p:=List.mem_filter.2 ⟨List.mem_range.2 ht,hp⟩;have hn:((List.range 256).filter p).Nodup:=List.Pairwise.filter _ List.nodup_range
 have e:((List.range 256).filter p).erase t=(List.range 256).filter (λ s=>p s&&decide (s≠t)):=by
  rw[hn.erase_eq_filter,List.filter_filter];refine List.filter_congr λ s _=>?_;rw[Bool.and_comm]
  congr 1
  by_cases h:s=t <;> simp[h]
 rw[<- e];exact List.perm_cons_erase hm
theorem b5J (rest:List Int) (had:List Bool):∀ k s,s<k->had.getD s false=false->0<=needN rest had k/\(rest.getD s 0<rest.getD (needN rest had k).toNat 0\/rest.getD s 0=rest.getD (needN rest had k).toNat 0/\needN rest had k<=s)
 | 0,s,h,_=>by omega
 | k+1,s,h,hs=>by
  have hl:=a4W rest had k;simp only[needN]
  by_cases e:s=k
  · subst e;rw[if_neg (by rw[hs];decide)]
    by_cases h1:needN rest had s<0
    · rw[if_pos h1,Int.toNat_natCast];exact⟨by omega,.inr ⟨rfl,Int.le_refl _⟩⟩
    · rw[if_neg h1]
      by_cases h2:rest.getD s 0>rest.getD (needN rest had s).toNat 0
      · rw[if_pos h2,Int.toNat_natCast];exact⟨by omega,.inr ⟨rfl,Int.le_refl _⟩⟩
      · rw[if_neg h2];exact⟨by omega,by omega⟩
  · obtain⟨i1,i2⟩:=b5J rest had k s (by omega) hs
    by_cases h0:had.getD k false=true
    · rw[if_pos h0];exact⟨i1,i2⟩
    · rw[if_neg h0,if_neg (by omega)]
      by_cases h2:rest.getD k 0>rest.getD (needN rest had k).toNat 0
      · rw[if_pos h2,Int.toNat_natCast];exact⟨by omega,.inl (by omega)⟩
      · rw[if_neg h2];exact⟨i1,i2⟩
theorem b5K (q c:List Int):∀ k s,s<k->q.getD s 0<q.getD (richN q c k) 0\/q.getD s 0=q.getD (richN q c k) 0/\(c.getD (richN q c k) 0<c.getD s 0\/c.getD (richN q c k) 0=c.getD s 0/\s<=richN q c k)
 | 0,s,h=>by omega
 | k+1,s,h=>by
  have hl:=a4X q c k
  by_cases e:s=k
  · subst e;simp only[richN]
    split
    · exact .inr ⟨rfl,.inr ⟨rfl,Nat.le_refl _⟩⟩
    · omega
  · have ih:=b5K q c k s (by omega);simp only[richN]
    split
    · omega
    · exact ih
theorem c5h {rest:List Int} {had:List Bool} {x:K3} (h:x∈candN rest had 256):∃ s,s<256/\had.getD s false=false/\x=a1O rest s:=by
 obtain⟨s,hs,rfl⟩:=List.mem_map.1 h;obtain⟨h1,h2⟩:=List.mem_filter.1 hs;exact⟨s,List.mem_range.1 h1,by simpa using h2,rfl⟩
theorem b5L {rest:List Int} {had:List Bool} {s:Nat} (h:s<256) (h2:had.getD s false=false):a1O rest s∈candN rest had 256:=
 List.mem_map.2 ⟨s,List.mem_filter.2 ⟨List.mem_range.2 h,by show(!had.getD s false)=true;rw[h2];rfl⟩,rfl⟩
theorem b5M {ys:List K3} {x:K3} (h:x∈ys):∃ k,k<ys.length/\ys.getD k z3=x:=by
 obtain⟨k,hk,rfl⟩:=List.getElem_of_mem h;exact⟨k,hk,by rw[List.getD_eq_getElem?_getD,List.getElem?_eq_getElem hk];rfl⟩
theorem b5N {ys:List K3} {k:Nat} (h:k<ys.length):ys.getD k z3∈ys:=by
 rw[List.getD_eq_getElem?_getD,List.getElem?_eq_getElem h];exact List.getElem_mem _
theorem c5i {rest:List Int} {had:List Bool} {ys:List K3} (hp:ys.Perm (candN rest had 256)) (hh:From lessC z3 ys 0 ys.length) (h0:0<ys.length) :
    ∃ t:Nat,needN rest had 256=t/\t<256/\had.getD t false=false/\ys.getD 0 z3=a1O rest t:=by
 obtain⟨s,hs,hsf,e⟩:=c5h (hp.subset (b5N h0));obtain⟨n1,n2⟩:=b5J rest had 256 s hs hsf;obtain⟨l1,l2,l3⟩:=a4W rest had 256;obtain⟨t,ht⟩:∃ t:Nat,needN rest had 256=t:=⟨_,(Int.toNat_of_nonneg n1).symm⟩;rw[ht] at n1 n2 l2 l3;rw[Int.toNat_natCast] at n2 l3;have hf:=l3 (by omega);obtain⟨k,hk,ek⟩:=b5M (hp.symm.subset (b5L (rest:=rest) (show t<256 by omega) hf));have hr:=From.root ordC hh (Nat.le_refl _) (λ _ _=>trivial) k hk;rw[ek,e,a7M] at hr;simp only[a1O,true_and,Int.lt_irrefl,false_or] at hr;have est:s=t:=by omega
 subst est;exact⟨s,ht,hs,hf,e⟩
theorem c5j {rest:List Int} {had:List Bool} {ys zs:List K3} {t:Nat} (hl:had.length=256) (ht:t<256) (hf:had.getD t false=false) (hp:ys.Perm (candN rest had 256)) (h:(a1O rest t :: zs).Perm ys):zs.Perm (candN rest (had.set t true) 256):=by
 have h1:=(b5I (p:=λ s=>!had.getD s false) ht (by show(!had.getD t false)=true;rw[hf];rfl)).map (a1O rest);have h2:(a1O rest t :: zs).Perm (a1O rest t :: ((List.range 256).filter (λ s=>(!had.getD s false)&&decide (s≠t))).map (a1O rest)):=(h.trans hp).trans h1;have h3:=h2.cons_inv
 have e:candN rest (had.set t true) 256=((List.range 256).filter (λ s=>(!had.getD s false)&&decide (s≠t))).map (a1O rest):=by
  unfold candN
  congr 1
  refine List.filter_congr λ s hs=>?_;rw[List.getD_eq_getElem?_getD,List.getElem?_set]
  by_cases e:t=s
  · subst e;rw[if_pos rfl,if_pos (by omega)];simp
  · rw[if_neg e,<- List.getD_eq_getElem?_getD];have:¬ s=t:=λ x=>e x.symm;simp[this]
 rw[e];exact h3
theorem c5k {c q:List Int} {x:K3} (h:x∈candT c q 256):∃ s,s<256/\0<c.getD s 0/\x=a1H c q s:=by
 obtain⟨s,hs,rfl⟩:=List.mem_map.1 h;obtain⟨h1,h2⟩:=List.mem_filter.1 hs;exact⟨s,List.mem_range.1 h1,by simpa using h2,rfl⟩
theorem b5O {c q:List Int} {s:Nat} (h:s<256) (h2:0<c.getD s 0):a1H c q s∈candT c q 256:=
 List.mem_map.2 ⟨s,List.mem_filter.2 ⟨List.mem_range.2 h,decide_eq_true h2⟩,rfl⟩
theorem c5l {c q:List Int} {ys:List K3} (hi:∀ s,0<q.getD s 0↔0<c.getD s 0) (hp:ys.Perm (candT c q 256)) (hh:From lessC z3 ys 0 ys.length) (h0:0<ys.length) :
    richN q c 256<256/\0<c.getD (richN q c 256) 0/\ys.getD 0 z3=a1H c q (richN q c 256):=by
 obtain⟨s,hs,hsf,e⟩:=c5k (hp.subset (b5N h0));have n2:=b5K q c 256 s hs;have l2:=a4X q c 256;obtain⟨t,ht⟩:∃ t:Nat,t=richN q c 256:=⟨_,rfl⟩;rw[<- ht] at n2 l2 ⊢;have hqs:=(hi s).2 hsf;have hct:0<c.getD t 0:=(hi t).1 (by omega);obtain⟨k,hk,ek⟩:=b5M (hp.symm.subset (b5O (q:=q) (show t<256 by omega) hct));have hr:=From.root ordC hh (Nat.le_refl _) (λ _ _=>trivial) k hk;rw[ek,e,a7M] at hr;simp only[a1H] at hr;have est:s=t:=by omega
 subst est;exact⟨hs,hct,e⟩
theorem c5m {c q:List Int} {ys zs us:List K3} {t:Nat} (hl:q.length=256) (ht:t<256) (hf:0<c.getD t 0) (hp:ys.Perm (candT c q 256)) (h:(a1H c q t :: zs).Perm ys)
    (hu:us.Perm (((t:Int),q.getD t 0-1,(1073741824-c.getD t 0)*256+t) :: zs)):us.Perm (candT c (q.set t (q.getD t 0-1)) 256):=by
 have hpa:=b5I (p:=λ s=>decide (0<c.getD s 0)) ht (decide_eq_true hf);have h2:(a1H c q t :: zs).Perm (a1H c q t :: ((List.range 256).filter (λ s=>(decide (0<c.getD s 0))&&decide (s≠t))).map (a1H c q)):=(h.trans hp).trans (hpa.map (a1H c q));have h3:=h2.cons_inv;have h4:=hpa.map (a1H c (q.set t (q.getD t 0-1)));rw[List.map_cons] at h4
 have e1:a1H c (q.set t (q.getD t 0-1)) t=((t:Int),q.getD t 0-1,(1073741824-c.getD t 0)*256+t):=by
  unfold a1H;rw[a3s _ _ _ _ (by omega),if_pos rfl]
 have e2:((List.range 256).filter (λ s=>(decide (0<c.getD s 0))&&decide (s≠t))).map (a1H c (q.set t (q.getD t 0-1)))=((List.range 256).filter (λ s=>(decide (0<c.getD s 0))&&decide (s≠t))).map (a1H c q):=by
  refine List.map_congr_left λ s hs=>?_;have hs2:=(List.mem_filter.1 hs).2;have:s≠t:=by simp at hs2;exact hs2.2
  unfold a1H;rw[a3s _ _ _ _ (by omega),if_neg this]
 rw[e1,e2] at h4;exact(hu.trans (h3.cons _)).trans h4.symm
open Go.IntWalk
structure GvRel (gq c B:Nat) (w:World) (qs:List Int) (p:Nat) (v:Value) (ys:List K3) (wr:World):Prop where
 q:(Kd.int .i64).R 3 wr B (λ _=>True) (.slice (some ⟨gq,0,none⟩) 256 c) qs
 h:CKp p B wr v ys
 ne:p≠gq/\v.ownBlock≠some gq
 heap:From lessC z3 ys 0 ys.length
 below:Below B w wr
 pB:B<=p
theorem GvRel.start {gq c B:Nat} {w:World} {qs:List Int} {l:Value} {xs:List K3} (hq:(Kd.int .i64).R 3 w B (λ _=>True) (.slice (some ⟨gq,0,none⟩) 256 c) qs)
    (hl:k3.R 253 w B (λ k=>k≠gq) l xs) (hB:B<=w.heap.size) :
    CKp w.heap.size B (w.alloc (.cells #[l] 251)) l xs/\(Kd.int .i64).R 3 (w.alloc (.cells #[l] 251)) B (λ _=>True) (.slice (some ⟨gq,0,none⟩) 256 c) qs /\
     w.heap.size≠gq/\l.ownBlock≠some gq/\Below B w (w.alloc (.cells #[l] 251)):=by
 have h1:=Kd.R_lt hq gq rfl;refine⟨⟨a0i _ _,Kd.R_alloc (Kd.R_mono (Kd.R_bound hl) (λ k hk=>by have:=hk.2.2.1;omega)) _⟩,Kd.R_alloc hq _,by omega,λ e=>hl.1 gq e rfl,(Below.refl _ _).alloc hB _⟩
theorem GvRel.of_init {gq c B:Nat} {w w1 w2:World} {qs:List Int} {p:Nat} {v:Value} {ys:List K3} (hq:(Kd.int .i64).R 3 w1 B (λ _=>True) (.slice (some ⟨gq,0,none⟩) 256 c) qs) (hp:p≠gq) (hv:v.ownBlock≠some gq) (hb:Below B w w1) (hB:B<=p) (hB1:B<=w1.heap.size)
    (h:CKp p B w2 v ys) (hh:From lessC z3 ys 0 ys.length) (ho:Only (λ k=>v.ownBlock=some k) w1 w2):GvRel gq c B w qs p v ys w2:=
 ⟨a2G rfl hq ho (λ k hk e=>hv (by rw[e,<- hk];rfl)),h,⟨hp,hv⟩,hh,hb.trans (ho.below hB1 (λ k e=>Kd.R_base h.row k e)),hB⟩
theorem GvRel.popped {gq c B g n cap:Nat} {w w1 w2:World} {qs:List Int} {p:Nat} {ys zs:List K3} (H:GvRel gq c B w qs p (.slice (some ⟨g,0,none⟩) (n+1) cap) ys w1) (hB1:B<=w1.heap.size)
    (h:CKp p B w2 (.slice (some ⟨g,0,none⟩) n cap) zs) (hh:From lessC z3 zs 0 n) (ho:Only (λ k=>k=p\/k=g) w1 w2):GvRel gq c B w qs p (.slice (some ⟨g,0,none⟩) n cap) zs w2:=by
 have hg:g≠gq:=λ e=>H.ne.2 (by rw[e];rfl);have hn:=(Kd.R_reads' h.row).1
 exact⟨a2G rfl H.q ho (λ k hk e=>by
  have hk':gq=k:=by simpa [Value.ownBlock] using hk
  subst hk';rcases e with e | e
  · exact H.ne.1 e.symm
  · exact hg e.symm),h,⟨H.ne.1,λ e=>hg (by simpa [Value.ownBlock] using e)⟩,by rw[<- hn];exact hh,
  H.below.trans (ho.below hB1 (λ k e=>by rcases e with e | e;exact e ▸ H.pB;exact e ▸ Kd.R_base h.row g rfl)),H.pB⟩
theorem GvRel.put {gq c B:Nat} {w w1:World} {qs:List Int} {p:Nat} {v:Value} {ys:List K3} (H:GvRel gq c B w qs p v ys w1) (t:Nat) (y:Int):GvRel gq c B w (qs.set t y) p v ys (w1.setCell ⟨gq,t,none⟩ (.int .i64 y)):=by
 have ho:Only (λ k=>k=gq) w1 (w1.setCell ⟨gq,t,none⟩ (.int .i64 y)):=(Only.refl _ _).set1 _ _;have hr:=Kd.R_putn H.q (t:Int) y;rw[Int.toNat_natCast] at hr;refine⟨hr,⟨a1v H.h.blk (p:=⟨gq,t,none⟩) H.ne.1 _,?_⟩,H.ne,H.heap,H.below.setCell (Kd.R_base H.q gq rfl) _,H.pB⟩;exact Kd.R_mono (Kd.R_step (Kd.R_tight rfl H.h.row) (λ k hk hlt=>ho.block k hlt (λ e=>H.ne.2 (by rw[<- e];exact hk.symm)))) (λ k hk=>H.h.row.1 k hk.symm)
theorem c5n {rest:List Int} {m:Nat} {st:List Int×List Bool} {t:Nat} (h:needN rest (a0X rest m st).2 256=t):a0X rest (m+1) st=((a0X rest m st).1.set t ((a0X rest m st).1.getD t 0+1),(a0X rest m st).2.set t true):=by
 simp only[a0X];rw[h,Int.toNat_natCast]
structure GvNum (rest:List Int) (had:List Bool) (ys:List K3) (k:Nat) (st:List Int×List Bool):Prop where
 ql:st.1.length=256
 hl:st.2.length=256
 rng:∀ s,0<=st.1.getD s 0/\st.1.getD s 0<=8192+k
 free:freeN st.2+k=freeN had
 perm:ys.Perm (candN rest st.2 256)
theorem GvNum.some {rest:List Int} {had:List Bool} {ys:List K3} {k:Nat} {st:List Int×List Bool} (h:GvNum rest had ys k st) (hk:k<freeN had):0<ys.length:=by
 obtain⟨s,hs,hf⟩:=a9D h.hl (by have:=h.free;omega);exact List.length_pos_of_mem (h.perm.symm.subset (b5L hs hf))
theorem GvNum.next {rest:List Int} {had:List Bool} {ys zs:List K3} {k t:Nat} {st:List Int×List Bool} (h:GvNum rest had ys k st) (ht:t<256) (hf:st.2.getD t false=false) (hz:(a1O rest t :: zs).Perm ys):GvNum rest had zs (k+1) (st.1.set t (st.1.getD t 0+1),st.2.set t true):=by
 refine⟨by simp[h.ql],by simp[h.hl],λ s=>?_,?_,c5j h.hl ht hf h.perm hz⟩
 · show 0<=(st.1.set t (st.1.getD t 0+1)).getD s 0/\(st.1.set t (st.1.getD t 0+1)).getD s 0<=8192+((k+1:Nat):Int)
   rw[a3s _ _ _ _ (by rw[h.ql];exact ht)];have h1:=h.rng t;have h2:=h.rng s
   split <;> omega
 · have:=b4Q (s:=t) (by rw[h.hl];exact ht) hf;have:=h.free
   show freeN (st.2.set t true)+(k+1)=_
   omega
theorem c5o (a b c:Value) (w:World):(Instr.field 253 (.agg #[a,b,c]) 0).run Tryz.prog w=.ok a w:=by kernel_rfl
def c5p (gq c B:Nat) (qs':List Int) (w:World) (e:Ending) (w':World):Prop:=e=.returned (.tuple #[])/\(Kd.int .i64).R 3 w' B (λ _=>True) (.slice (some ⟨gq,0,none⟩) 256 c) qs'/\Below B w w'
theorem c5q (gq c B:Nat) (qs:List Int) (l:Value) (rest:List Int) (had:List Bool) (m:Nat) (w:World) (hq:(Kd.int .i64).R 3 w B (λ _=>True) (.slice (some ⟨gq,0,none⟩) 256 c) qs)
    (hl:k3.R 253 w B (λ k=>k≠gq) l (candN rest had 256)) (hB:B<=w.heap.size) (hqs:qs.length=256) (hhl:had.length=256) (hr:∀ s,0<=qs.getD s 0/\qs.getD s 0<=8192) (hm:m<=freeN had) (hm2:m<=4096) :
    Calls Tryz.prog 235 #[.slice (some ⟨gq,0,none⟩) 256 c,l,.int .i64 m] w (c5p gq c B (a0X rest m (qs,had)).1 w):=by
 have HS:=Lib.hid (GvRel.start hq hl hB);have HM:=Lib.hid (And.intro hB (And.intro hqs (And.intro hhl (And.intro hr hm))));clear hq hl hB hqs hhl hr hm;obtain⟨A,cl,rfl⟩:=Kd.R_slice HS.out.1.row;have ta:=b0b;go_enter Tryz.func235,Tryz.ntmps235;go_wp2_with fail;refine(b5G _ HS.out.1 (by have:=b0f rest had 256;omega)).mono ?_;rintro e w2 ⟨rfl,ys,h1,h2,h3,h4⟩
 have HI:Hid (GvRel gq c B w qs w.heap.size (.slice A (candN rest had 256).length cl) ys w2/\GvNum rest had ys 0 (qs,had)):=
  ⟨GvRel.of_init HS.out.2.1 HS.out.2.2.1 HS.out.2.2.2.1 HS.out.2.2.2.2 HM.out.1 (by simp;have:=HM.out.1;omega) h1 h3 h4,⟨HM.out.2.1,HM.out.2.2.1,λ s=>by have:=HM.out.2.2.2.1 s;show 0<=qs.getD s 0/\qs.getD s 0<=8192+((0:Nat):Int);omega,rfl,h2⟩⟩
 clear h1 h2 h3 h4;go_wp2_with fail;go_loopw [9] (λ kv wr=>∃ (k:Nat) (v:Value) (ys:List K3),kv=.int .i64 k/\k<=m/\Hid (GvRel gq c B w (a0X rest k (qs,had)).1 w.heap.size v ys wr/\GvNum rest had ys k (a0X rest k (qs,had)))) (λ kv _=>m-(intOf kv).toNat)
 case atStart=>exact⟨0,_,ys,rfl,by omega,HI⟩
 case round=>
  obtain⟨k,v,ys,rfl,hk,H⟩:=hrel
  by_cases hlt:k<m
  · have hpos:=H.out.2.some (by have:=HM.out.2.2.2.2;omega);obtain⟨g,cap,rfl,-⟩:=Kd.R_form H.out.1.h.row hpos;obtain⟨t,ht1,ht2,ht3,ht4⟩:=c5i H.out.2.perm H.out.1.heap hpos;obtain⟨n,hn⟩:∃ n,ys.length=n+1:=⟨ys.length-1,by omega⟩;rw[hn] at H;have hn6:n<=100000:=by have:=H.out.2.perm.length_eq;have:=b0f rest (a0X rest k (qs,had)).2 256;omega
    have HT:=Lib.hid (And.intro ht1 (And.intro ht2 (And.intro ht3 (And.intro ht4 hn))));have HBr:Hid (B<=wr.heap.size):=Nat.le_trans HM.out.1 H.out.1.below.size;clear ht1 ht3 ht4 hn hpos;go_wp2_with fail;refine(b5F ordC _ H.out.1.h hn6 (λ _ _=>trivial) (by have:=H.out.1.heap;rw[HT.out.2.2.2.2] at this;exact this)).mono ?_;rintro e w3 ⟨rfl,zs,h1,h2,h3,h4⟩;have H3:Hid (GvRel gq c B w (a0X rest k (qs,had)).1 w.heap.size (.slice (some ⟨g,0,none⟩) n cap) zs w3):=GvRel.popped H.out.1 HBr.out h1 h3 h4;rw[HT.out.2.2.2.1] at h2 ⊢;have HZ:=Lib.hid (GvNum.next H.out.2 ht2 HT.out.2.2.1 h2);clear h1 h2 h3 h4;obtain⟨hc3,hf3⟩:=a1D H3.out.q t ht2;obtain⟨hy0,hy1⟩:=H.out.2.rng t;obtain⟨y,hy⟩:∃ y,y=(a0X rest k (qs,had)).1.getD t 0:=⟨_,rfl⟩;rw[<- hy] at hc3 hy0 hy1;have HY:=Lib.hid hy;have ht256:(t:Int)<256:=by omega
    clear hy;simp only[a1O];obtain⟨z,hz⟩:∃ z,z=rest.getD t 0:=⟨_,rfl⟩;rw[<- hz];have fd:=c5o (.int .i64 t) (.int .i64 z) (.int .i64 0);clear hz;go_wp2_with fail;go_roundw
    case rel=>
     have hg:=c5n (st:=(qs,had)) HT.out.1;refine⟨k+1,.slice (some ⟨g,0,none⟩) n cap,zs,by go_num,by omega,?_⟩;rw[hg,<- HY.out];exact⟨H3.out.put t (y+1),by rw[HY.out];exact HZ.out⟩
    case measure=>simp[intOf];omega
  · have hkm:k=m:=by omega
    subst hkm;go_wp2_with fail;go_end0;exact⟨rfl,H.out.1.q,H.out.1.below⟩
structure TkRel (gq cq B:Nat) (W0:World) (qs:List Int) (p:Nat) (v:Value) (ys:List K3) (wr:World):Prop where
 q:(Kd.int .i64).R 3 wr B (λ _=>True) (.slice (some ⟨gq,0,none⟩) 256 cq) qs
 h:CKp p B wr v ys
 ne:p≠gq/\v.ownBlock≠some gq
 below:Below B W0 wr
 pB:B<=p
theorem TkRel.start {gq cq B:Nat} {W0 w:World} {qs:List Int} (hq:(Kd.int .i64).R 3 w B (λ _=>True) (.slice (some ⟨gq,0,none⟩) 256 cq) qs) (hb:Below B W0 w) (hB:B<=w.heap.size) :
    TkRel gq cq B W0 qs w.heap.size (.slice none 0 0) [] (w.alloc (.cells #[.slice none 0 0] 251)):=by
 have h1:=Kd.R_lt hq gq rfl;exact⟨Kd.R_alloc hq _,⟨a0i _ _,Kd.R_nil _ _ _ _ _⟩,⟨by omega,by simp[Value.ownBlock]⟩,hb.alloc hB _,hB⟩
theorem TkRel.app {gq cq B:Nat} {W0 W wa:World} {qs:List Int} {p:Nat} {v v1:Value} {ys zs:List K3} (H:TkRel gq cq B W0 qs p v ys W) (hB:B<=W.heap.size) (hr:k3.R 253 wa B (λ k=>k≠p) v1 zs) (hg:W.grownBy wa v.ownBlock)
    (hat:v1.ownBlock=v.ownBlock\/∃ b,v1.ownBlock=some b/\W.heap.size<=b):TkRel gq cq B W0 qs p v1 zs (wa.setCell ⟨p,0,none⟩ v1):=by
 have hpv:some p≠v.ownBlock:=λ e=>H.h.row.1 p e.symm rfl;have hgl:=Kd.R_lt H.q gq rfl;have hb1:=a1g H.h.blk hg hpv
 have hne1:v1.ownBlock≠some gq:=λ e=>by
  rcases hat with h | ⟨b,h,hle⟩
  · exact H.ne.2 (by rw[<- h];exact e)
  · rw[h] at e;injection e with e;omega
 have h1:=Kd.R_grown1 H.q rfl hg H.ne.2;have ho:Only (λ k=>k=p) wa (wa.setCell ⟨p,0,none⟩ v1):=(Only.refl _ _).set1 _ _;refine⟨a2G rfl h1 ho (λ k hk e=>H.ne.1 (by rw[<- e];simpa [Value.ownBlock] using hk.symm)),⟨a0x hb1 0 _,Kd.R_far (p:=⟨p,0,none⟩) hr (λ k hk=>hk) _⟩,⟨H.ne.1,hne1⟩,?_,H.pB⟩;exact(b9Q H.below hg (λ k hk=>Kd.R_base H.h.row k hk) hB).setCell H.pB _
theorem GvRel.alloc {gq c B:Nat} {w:World} {qs:List Int} {p:Nat} {v:Value} {ys:List K3} {wr:World} (H:GvRel gq c B w qs p v ys wr) (hB:B<=wr.heap.size) (o:Obj):GvRel gq c B w qs p v ys (wr.alloc o):=
 ⟨Kd.R_alloc H.q o,H.h.below ((Below.refl _ _).alloc (Nat.le_refl _) o),H.ne,H.heap,H.below.alloc hB o,H.pB⟩
theorem GvRel.far {gq c B:Nat} {w:World} {qs:List Int} {p:Nat} {v:Value} {ys:List K3} {wr:World} (H:GvRel gq c B w qs p v ys wr) {g:Nat} (h1:g≠gq) (h2:p≠g) (h3:v.ownBlock≠some g) (hB:B<=g) (j:Nat) (u:Value):GvRel gq c B w qs p v ys (wr.setCell ⟨g,j,none⟩ u):=by
 have ho:Only (λ k=>k=g) wr (wr.setCell ⟨g,j,none⟩ u):=(Only.refl _ _).set1 _ _;refine⟨a2G rfl H.q ho (λ k hk e=>h1 (by rw[<- e];simpa [Value.ownBlock] using hk.symm)),⟨a1v H.h.blk (p:=⟨g,j,none⟩) h2 _,?_⟩,H.ne,H.heap,H.below.setCell hB _,H.pB⟩;exact Kd.R_mono (Kd.R_step (Kd.R_tight rfl H.h.row) (λ k hk hlt=>ho.block k hlt (λ e=>h3 (by rw[<- e];exact hk.symm)))) (λ k hk=>H.h.row.1 k hk.symm)
theorem GvRel.pushed {gq c B:Nat} {w w1 w2:World} {qs:List Int} {p:Nat} {v v':Value} {ys zs:List K3} (H:GvRel gq c B w qs p v ys w1) (hB:B<=w1.heap.size) (h:CKp p B w2 v' zs) (hh:From lessC z3 zs 0 zs.length)
    (hat:v'.ownBlock=v.ownBlock\/∃ b,v'.ownBlock=some b/\w1.heap.size<=b) (ho:Only (λ k=>k=p\/v.ownBlock=some k) w1 w2):GvRel gq c B w qs p v' zs w2:=by
 have hgl:=Kd.R_lt H.q gq rfl;refine⟨a2G rfl H.q ho (λ k hk e=>?_),h,⟨H.ne.1,λ e=>?_⟩,hh,H.below.trans (ho.below hB (λ k e=>?_)),H.pB⟩
 · have hk':gq=k:=by simpa [Value.ownBlock] using hk
   subst hk';rcases e with e | e
   · exact H.ne.1 e.symm
   · exact H.ne.2 e
 · rcases hat with h | ⟨b,h,hle⟩
   · exact H.ne.2 (by rw[<- h];exact e)
   · rw[h] at e;injection e with e;omega
 · rcases e with e | e
   · exact e ▸ H.pB
   · exact Kd.R_base H.h.row k e
theorem c5r (c:List Int) (m:Nat) (q:List Int):a0U c (m+1) q=(a0U c m q).set (richN (a0U c m q) c 256) ((a0U c m q).getD (richN (a0U c m q) c 256) 0-1):=rfl
def b0h (c q:List Int) (m:Nat):Prop:=∀ k,k<=m->(a0U c k q).length=256/\(∀ s,0<=(a0U c k q).getD s 0/\(a0U c k q).getD s 0<=100000)/\∀ s,0<(a0U c k q).getD s 0↔0<c.getD s 0
def b5P (gq cq B:Nat) (qs':List Int) (W0:World) (e:Ending) (w':World):Prop:=e=.returned (.tuple #[])/\(Kd.int .i64).R 3 w' B (λ _=>True) (.slice (some ⟨gq,0,none⟩) 256 cq) qs'/\Below B W0 w'
theorem c5s (gq cq cc:Nat) (A:Option Addr) (W0:World) (qs c:List Int) (m:Nat) (w:World) (hq:(Kd.int .i64).R 3 w W0.heap.size (λ _=>True) (.slice (some ⟨gq,0,none⟩) 256 cq) qs)
    (hc:(Kd.int .i64).C W0 A 256 c) (hb:Below W0.heap.size W0 w) (hcl:c.length=256) (hcr:∀ s,0<=c.getD s 0/\c.getD s 0<=1073741824) (hok:b0h c qs m) (hm2:m<=2000000) (hpos:0<m->∃ s,s<256/\0<c.getD s 0) :
    Calls Tryz.prog 236 #[.slice (some ⟨gq,0,none⟩) 256 cq,.slice A 256 cc,.int .i64 m] w (b5P gq cq W0.heap.size (a0U c m qs) W0):=by
 have HQ:=Lib.hid hq;have HC:=Lib.hid (And.intro hc (And.intro hcl hcr));have HO:=Lib.hid hok;have HP:=Lib.hid hpos;have HB:=Lib.hid hb;have HI:Hid (TkRel gq cq W0.heap.size W0 qs w.heap.size (.slice none 0 0) [] (w.alloc (.cells #[.slice none 0 0] 251))):=TkRel.start hq hb hb.size;clear hq hc hb hcl hcr hok hpos;go_enter Tryz.func236,Tryz.ntmps236;go_wp2_with fail;go_loopw [12] (λ kv wr=>∃ (k:Nat) (v:Value),kv=.int .i64 k/\k<=256/\Hid (TkRel gq cq W0.heap.size W0 qs w.heap.size v (candT c qs k) wr)) (λ kv _=>256-(intOf kv).toNat)
 case atStart=>exact⟨0,_,rfl,by omega,HI⟩
 case round=>
  obtain⟨k,v,rfl,hk,H⟩:=hrel
  by_cases hlt:k<256
  · obtain⟨hqc,-⟩:=a1D H.out.q k hlt;obtain⟨y,hy⟩:∃ y,y=qs.getD k 0:=⟨_,rfl⟩;rw[<- hy] at hqc;have hy2:=(HO.out 0 (Nat.zero_le _)).2.1 k;have hyc:=(HO.out 0 (Nat.zero_le _)).2.2 k;simp only[a0U] at hy2 hyc;rw[<- hy] at hy2 hyc;obtain⟨hy0,hy1⟩:=hy2;have HY:=Lib.hid (And.intro hy hyc);clear hy hyc
    by_cases hpos:0<y
    · obtain⟨ad,rfl,hcc⟩:=a0v HC.out.1 k hlt;obtain⟨z,hz⟩:∃ z,z=c.getD k 0:=⟨_,rfl⟩;obtain⟨hz0,hz1⟩:=HC.out.2.2 k;rw[<- hz] at hcc hz0 hz1;have hcw:=a0p H.out.below hcc;have hcw2:(wr.alloc (.cells #[.int .i64 k,.int .i64 y,.int .i64 (IntKind.i64.wrap (IntKind.i64.wrap (IntKind.i64.wrap (1073741824-z)*256)+(k:Int)))] 253)).cell? (ad.add k)=some (.int .i64 z):=a0p ((Below.refl _ _).alloc (Nat.le_refl _) _) hcw;have HZ:=Lib.hid hz
      have HE:Hid (IntKind.i64.wrap (IntKind.i64.wrap (IntKind.i64.wrap (1073741824-z)*256)+(k:Int))=(1073741824-z)*256+k):=by
       show _=_
       rw[i64_in (1073741824-z) (by omega),i64_in ((1073741824-z)*256) (by omega),i64_in ((1073741824-z)*256+(k:Int)) (by omega)]
      clear hz hcc;have hpc:=H.out.h.cell;have hpf:=a0e H.out.h.blk 0;have hpl:=a0g H.out.h.blk;have hpn:¬ w.heap.size=wr.heap.size:=by omega
      have hpn':¬ wr.heap.size=w.heap.size:=by omega
      have hfr:Hid (∀ k,wr.heap.size<=k->k≠w.heap.size):=λ k hk e=>by omega
      have HL:Hid (((candT c qs k).length+1)*24<=140737488355328):=by show _<=_;have:=b0g c qs k;omega
      have HN:Hid (some w.heap.size≠v.ownBlock):=λ e=>H.out.h.row.1 _ e.symm rfl;have HBr:Hid (W0.heap.size<=wr.heap.size):=H.out.below.size;go_wp2_with fail;go_region_law (first | (refine a5r k3 (w0:=W0) (W:=wr) W0.heap.size rfl (.tmp 19) (.tmp 31) 251 253 _ 24 rfl Tryz.underlying251 b0a rfl (by decide) (by decide) v (candT c qs k) ((k:Int),y,IntKind.i64.wrap (IntKind.i64.wrap (IntKind.i64.wrap (1073741824-z)*256)+(k:Int))) [.int .i64 k,.int .i64 y,.int .i64 (IntKind.i64.wrap (IntKind.i64.wrap (IntKind.i64.wrap (1073741824-z)*256)+(k:Int)))] (λ k=>k≠w.heap.size) (λ _=>False) rfl rfl (a5w _ _ _ _) (λ _ h=>h.elim) hfr.out H.out.h.row H.out.below HBr.out HL.out ?_;intro v1 w1 hr1 hb1 hg1 hat1;have hb2:=a1g H.out.h.blk hg1 HN.out;have hc2:w1.cell? ⟨w.heap.size,0,none⟩=some v:=(a0a hb2 0).trans rfl;have hf2:=a0e hb2 0;have HT:=Lib.hid (TkRel.app H.out HBr.out hr1 hg1 hat1);obtain⟨A1,c1,rfl⟩:=Kd.R_slice hr1;simp only[List.length_append,List.length_singleton] at HT;clear hr1 hb1 hg1 hat1) | fail)
      all_goals
       go_wp2_with fail;go_roundw
       case rel=>
        refine⟨k+1,.slice A1 ((candT c qs k).length+1) c1,by go_num,by omega,?_⟩;rw[b5H,if_pos (HY.out.2.1 hpos)];unfold a1H;rw[<- HY.out.1,<- HZ.out,<- HE.out];exact HT.out
       case measure=>simp[intOf];omega
    · go_wp2_with fail;go_roundw
      case rel=>
       refine⟨k+1,v,by go_num,by omega,?_⟩;rw[b5H,if_neg (λ h=>hpos (HY.out.2.2 h))];exact H.out
      case measure=>simp[intOf];omega
  · obtain rfl:k=256:=by omega
    obtain⟨A1,c1,rfl⟩:=Kd.R_slice H.out.h.row;have ta:=b0b;go_wp2_with fail;refine(b5G _ H.out.h (by have:=b0g c qs 256;omega)).mono ?_;rintro e w2 ⟨rfl,ys,h1,h2,h3,h4⟩
    have HI2:Hid (GvRel gq cq W0.heap.size W0 qs w.heap.size (.slice A1 (candT c qs 256).length c1) ys w2/\ys.Perm (candT c qs 256)):=
     ⟨GvRel.of_init H.out.q H.out.ne.1 H.out.ne.2 H.out.below H.out.pB H.out.below.size h1 h3 h4,h2⟩
    clear h1 h2 h3 h4 H;go_wp2_with fail;go_loopw [37] (λ kv wr=>∃ (k:Nat) (v:Value) (ys:List K3),kv=.int .i64 k/\k<=m/\Hid (GvRel gq cq W0.heap.size W0 (a0U c k qs) w.heap.size v ys wr/\ys.Perm (candT c (a0U c k qs) 256))) (λ kv _=>m-(intOf kv).toNat)
    case atStart=>exact⟨0,_,ys,rfl,by omega,HI2⟩
    case round=>
     obtain⟨k,v,ys,rfl,hk,H⟩:=hrel
     by_cases hlt:k<m
     · obtain⟨hql,hqr,hqi⟩:=HO.out k hk
       have hpos:0<ys.length:=by
        obtain⟨s,hs,hsp⟩:=HP.out (by omega);exact List.length_pos_of_mem (H.out.2.symm.subset (b5O hs hsp))
       obtain⟨g,cap,rfl,-⟩:=Kd.R_form H.out.1.h.row hpos;obtain⟨t,ht⟩:∃ t,t=richN (a0U c k qs) c 256:=⟨_,rfl⟩;obtain⟨ht1,ht2,ht3⟩:=c5l hqi H.out.2 H.out.1.heap hpos;rw[<- ht] at ht1 ht2 ht3;obtain⟨n,hn⟩:∃ n,ys.length=n+1:=⟨ys.length-1,by omega⟩;rw[hn] at H;have hn6:n<=100000:=by have:=H.out.2.length_eq;have:=b0g c (a0U c k qs) 256;omega
       have HT:=Lib.hid (And.intro ht (And.intro ht1 (And.intro ht2 (And.intro ht3 hn))));have HBr:Hid (W0.heap.size<=wr.heap.size):=H.out.1.below.size;obtain⟨hy0,hy1⟩:=hqr t;have HQL:=Lib.hid (And.intro hql hqi);have hct:=(HC.out.2.2 t);clear ht ht2 ht3 hn hpos hqr hql hqi;go_wp2_with fail;refine(b5F ordC _ H.out.1.h hn6 (λ _ _=>trivial) (by have:=H.out.1.heap;rw[HT.out.2.2.2.2] at this;exact this)).mono ?_;rintro e w3 ⟨rfl,zs,h1,h2,h3,h4⟩;have H3:Hid (GvRel gq cq W0.heap.size W0 (a0U c k qs) w.heap.size (.slice (some ⟨g,0,none⟩) n cap) zs w3):=GvRel.popped H.out.1 HBr.out h1 h3 h4;rw[HT.out.2.2.2.1] at h2 ⊢;have HZ:=Lib.hid h2;clear h1 h2 h3 h4;obtain⟨hc3,hf3⟩:=a1D H3.out.q t ht1;obtain⟨y,hy⟩:∃ y,y=(a0U c k qs).getD t 0:=⟨_,rfl⟩;have HY:=Lib.hid hy;simp only[a1H];rw[<- hy] at hc3 hy0 hy1 ⊢;obtain⟨z,hz⟩:∃ z,z=(1073741824-c.getD t 0)*256+(t:Int):=⟨_,rfl⟩;rw[<- hz];have HZ2:=Lib.hid hz;clear hy hz;have hgl:gq<w3.heap.size:=Kd.R_lt H3.out.q gq rfl;have hg1:¬ gq=w3.heap.size:=by omega
       have hg2:¬ w3.heap.size=gq:=by omega
       have ht256:(t:Int)<256:=by omega
       go_wp2_with fail
       have H4:Hid (GvRel gq cq W0.heap.size W0 ((a0U c k qs).set t (y-1)) w.heap.size (.slice (some ⟨g,0,none⟩) n cap) zs ((w3.setCell ⟨gq,t,none⟩ (.int .i64 (y-1))).alloc (.cells #[.int .i64 t,.int .i64 (y-1),.int .i64 z] 253))):=
        (H3.out.put t (y-1)).alloc (H3.out.put t (y-1)).below.size _
       have hzl:zs.length=n:=by have:=HZ.out.length_eq;rw[HT.out.2.2.2.2] at this;simpa using this
       refine(c5f ordC ((t:Int),y-1,z) _ H4.out.h H4.out.below.size (by omega) (λ _ _=>trivial) trivial H4.out.heap).mono ?_;rintro e w5 ⟨rfl,v',us,h1,h2,h3,h4,h5⟩
       have H5:Hid (GvRel gq cq W0.heap.size W0 (a0U c (k+1) qs) w.heap.size v' us w5/\us.Perm (candT c (a0U c (k+1) qs) 256)):=by
        have e:=c5r c k qs;rw[<- HT.out.1,<- HY.out] at e;refine⟨by rw[e];exact H4.out.pushed H4.out.below.size h1 h3 h4 h5,?_⟩;rw[e,HY.out];refine c5m HQL.out.1 ht1 HT.out.2.2.1 H.out.2 HZ.out ?_;rw[<- HY.out,<- HZ2.out];exact h2
       clear h1 h2 h3 h4 h5;go_wp2_with fail;go_roundw
       case rel=>exact⟨k+1,v',us,by go_num,by omega,H5⟩
       case measure=>simp[intOf];omega
     · have hkm:k=m:=by omega
       subst hkm;go_wp2_with fail;go_end0;exact⟨rfl,H.out.1.q,H.out.1.below⟩
theorem c5t (gq cq cc:Nat) (A:Option Addr) (W0:World) (B:Nat) (hB:B=W0.heap.size) (qs c:List Int) (m:Nat) (w:World) (hq:(Kd.int .i64).R 3 w B (λ _=>True) (.slice (some ⟨gq,0,none⟩) 256 cq) qs)
    (hc:(Kd.int .i64).C W0 A 256 c) (hb:Below B W0 w) (hcl:c.length=256) (hcr:∀ s,0<=c.getD s 0/\c.getD s 0<=1073741824) (hok:b0h c qs m) (hm2:m<=2000000) (hpos:0<m->∃ s,s<256/\0<c.getD s 0) :
    Calls Tryz.prog 236 #[.slice (some ⟨gq,0,none⟩) 256 cq,.slice A 256 cc,.int .i64 m] w (b5P gq cq B (a0U c m qs) W0):=by
 subst hB;exact c5s gq cq cc A W0 qs c m w hq hc hb hcl hcr hok hm2 hpos
end Go.Proofs.YtflfjpkmjnnodaaGreat
namespace Go.Proofs.YtflfjpkmjnnodaaGreat
open Go.RowKit Go.IntWalk Go.Proofs.YtflfjpkmjnnodaaGreatW.PrintWords Go.Proofs.YtflfjpkmjnnodaaGreatW.PrintLast Go.Proofs.YtflfjpkmjnnodaaGreatW.PrintMore
theorem a5S (A:Option Addr) (cp:Nat) (c:List Int) (w:World) (hr:(Kd.int .i64).C w A c.length c) (hR:a0S c=true) :
    Calls Tryz.prog 190 #[.slice A c.length cp] w λ e w'=>e=.returned (.int .i64 (manyC c))/\w=w':=by
 have hm:=hr.2.1;have HR:=Lib.hid (And.intro hr hR);clear hr hR;go_enter Tryz.func190,Tryz.ntmps190;go_wp2_with fail;go_loop [3,8] (λ mv kv=>∃ (k pc:Nat),mv=.int .i64 pc/\kv=.int .i64 k/\k<=c.length/\pc<=k/\Hid (pc=posC c k)) (λ _ kv=>c.length-(intOf kv).toNat)
 case atStart=>exact⟨0,0,rfl,rfl,by omega,by omega,by show _=_;simp[posC]⟩
 case round=>
  obtain⟨k,pc,rfl,rfl,hk,hpc,H⟩:=hrel
  by_cases hlt:k<c.length
  · obtain⟨ad,rfl,hcell⟩:=a0v HR.out.1 k hlt;obtain⟨x,hx⟩:∃ x,x=c.getD k 0:=⟨_,rfl⟩;rw[<- hx] at hcell;have HX:=Lib.hid hx;clear hx
    by_cases h0:0<x
    · have HP:Hid (pc+1=posC c (k+1)):=by show _=_;rw[a7u _ _ hlt,<- HX.out,if_pos h0,<- H.out]
      go_wp2_with fail;refine(a8J _ _ _ _ HR.out.1).mono ?_;rintro e w' ⟨rfl,rfl⟩;rw[HR.out.2];go_wp2_with fail;go_round
      case rel=>exact⟨k+1,pc+1,by go_num,by go_num,by omega,by omega,HP⟩
      case measure=>simp[intOf];omega
    · have HP:Hid (pc=posC c (k+1)):=by show _=_;rw[a7u _ _ hlt,<- HX.out,if_neg h0,<- H.out];rfl
      go_wp2_with fail;go_round
      case rel=>exact⟨k+1,pc,rfl,by go_num,by omega,by omega,HP⟩
      case measure=>simp[intOf];omega
  · obtain rfl:k=c.length:=by omega
    have HE:Hid (pc=manyC c):=by
     show _=_;rw[H.out];unfold posC manyC;rw[if_pos HR.out.2,List.take_length]
    go_wp2_with fail;go_ret;exact⟨a1J (by rw[HE.out]),rfl⟩
theorem c5u (n:Nat) (w:World) (h:n<=1000000):Calls Tryz.prog 194 #[.int .i64 n] w λ e w'=>e=.returned (.int .i64 (ceilI n))/\w=w':=by
 by_cases h2:n<2
 · have HE:Hid (ceilI n=0):=by
     show _=_
     have:n=0\/n=1:=by omega
     rcases this with rfl | rfl <;> rfl
   go_enter Tryz.func194,Tryz.ntmps194;go_wp2_with fail;go_ret;exact⟨a1J (by rw[HE.out];rfl),rfl⟩
 · go_enter Tryz.func194,Tryz.ntmps194;go_wp2_with fail;refine(a5A _ _ (by omega)).mono ?_;rintro e w' ⟨rfl,rfl⟩;go_wp2_with fail;go_ret;exact⟨rfl,rfl⟩
theorem b5Q (a b:Int):mx a b=max a b:=by unfold mx;split <;> omega
theorem c5v (a b:Int):mn a b=min a b:=by unfold mn;split <;> omega
theorem c5w (first x y:Int) (A:Option Addr) (cp:Nat) (w:World) (hr:(Kd.int .i64).C w A 2 [x,y]) :
    Calls Tryz.prog 192 #[.int .i64 first,.slice A 2 cp] w λ e w'=>e=.returned (.int .i64 (mx (mx first x) y))/\w=w':=by
 obtain⟨ad,rfl,hc⟩:=a5v hr (by decide);have h0:=hc 0 (by decide);have h1:=hc 1 (by decide);simp only[List.getD_cons_zero,List.getD_cons_succ] at h0 h1;rw[show ad.add 0=ad from rfl] at h0;clear hc hr;have h2:w.cell? ⟨ad.block,ad.off+1,none⟩=some (.int .i64 y):=by rw[<- h1];simp[Addr.add]
 clear h1;go_enter Tryz.func192,Tryz.ntmps192;go_wp2_with fail;go_loop [0,9] (λ mv kv=>(mv=.int .i64 first/\kv=.int .i64 0)\/(mv=.int .i64 (max first x)/\kv=.int .i64 1)\/(mv=.int .i64 (max (max first x) y)/\kv=.int .i64 2)) (λ _ kv=>2-(intOf kv).toNat)
 case atStart=>exact .inl ⟨rfl,rfl⟩
 case round=>
  rcases hrel with ⟨rfl,rfl⟩ | ⟨rfl,rfl⟩ | ⟨rfl,rfl⟩
  · go_wp2_with fail;go_round
    case rel=>exact .inr (.inl ⟨rfl,rfl⟩)
    case measure=>simp[intOf]
  · go_wp2_with fail;go_round
    case rel=>exact .inr (.inr ⟨by rw[Int.max_assoc],rfl⟩)
    case measure=>simp[intOf]
  · go_wp2_with fail;go_ret;exact⟨a1J (by rw[b5Q,b5Q,Int.max_assoc]),rfl⟩
theorem c5x {W:World} (x y:Int) {ok:Nat->Prop} (hok:ok W.heap.size) (base:Nat) (hb:base<=W.heap.size):(Kd.int .i64).R 3 (W.alloc (.cells #[.int .i64 x,.int .i64 y] 3)) base ok (.slice (some ⟨W.heap.size,0,none⟩) 2 2) [x,y]:=by
 refine⟨λ k hk=>by cases hk;exact hok,[.int .i64 x,.int .i64 y],⟨rfl,.inr ⟨W.heap.size,2,#[.int .i64 x,.int .i64 y],by simp,hb,a0i W _,by simp,by unfold maxLen;omega,rfl,rfl⟩⟩,?_⟩;refine Reps.snoc (ps:=[x]) (cs:=[.int .i64 x]) (p:=y) (c:=[.int .i64 y]) (Reps.snoc (ps:=[]) (cs:=[]) (p:=x) (c:=[.int .i64 x]) (Reps.none _ _) ?_ rfl) ?_ rfl
 · rfl
 · rfl
theorem b5R (n m:Nat) (most:Int) (w:World) (hn:n<=1000000) (hm:m<=1000000) :
    Calls Tryz.prog 143 #[.int .i64 n,.int .i64 m,.int .i64 most] w λ e w'=>e=.returned (.int .i64 (pickI n m most))/\Below w.heap.size w w':=by
 have hf:=b4M n (by omega);obtain⟨f,hf1⟩:∃ f,f=a0n (n:Int):=⟨_,rfl⟩;rw[<- hf1] at hf;have H:=Lib.hid hf1;clear hf1
 have HC:Hid (∀ W:World,(Kd.int .i64).C (W.alloc (.cells #[.int .i64 5,.int .i64 (ceilI m)] 3)) (some ⟨W.heap.size,0,none⟩) 2 [5,(ceilI m:Int)]):=λ W=>by
  have:=c5x (W:=W) 5 (ceilI m:Int) (ok:=λ _=>True) trivial W.heap.size (Nat.le_refl _);exact(Kd.R_reads' this).2.2
 go_enter Tryz.func143,Tryz.ntmps143;go_wp2_with fail;refine(a6N _ _ (by omega)).mono ?_;rintro e w' ⟨rfl,rfl⟩;rw[<- H.out];go_wp2_with fail;refine(c5u _ _ hm).mono ?_;rintro e w' ⟨rfl,rfl⟩;go_wp2_with fail;refine(c5w _ _ _ _ _ _ (HC.out _)).mono ?_;rintro e w' ⟨rfl,rfl⟩;go_wp2_with fail;go_ret;refine⟨a1J ?_,(Below.refl _ _).alloc (Nat.le_refl _) _⟩;unfold pickI;rw[<- H.out,c5v]
end Go.Proofs.YtflfjpkmjnnodaaGreat
namespace Go.Proofs.YtflfjpkmjnnodaaGreat
open Go.RowKit Go.IntWalk Go.Proofs.YtflfjpkmjnnodaaGreatW.PrintWords HeapL
structure CnRel (N:Nat) (w0:World) (c:List Int) (P n:Int) (k:Nat) (v:Value) (S:Int) (w:World):Prop where
 q:(Kd.int .i64).R 3 w N (λ _=>True) (.slice (some ⟨N,0,none⟩) 256 256) (qTo c P n k)
 l:k3.R 253 w N (λ b=>b≠N) v (candN (restL c P n) (hadL c P n) k)
 below:Below N w0 w
 sum:S=(qTo c P n k).sum
 rng:0<=S/\S<=4096*k
theorem c5y (c:List Int) (P n:Int) {k:Nat} (hk:k<256):(hadL c P n).getD k false=decide (c.getD k 0*P/n=0):=by
 unfold hadL;rw[List.getD_eq_getElem?_getD,List.getElem?_map,List.getElem?_range hk];rfl
theorem b5S (c:List Int) (P n:Int) {k:Nat} (hk:k<256):qTo c P n (k+1)=(qTo c P n k).set k (q0F c P n k):=(a7C (q0F c P n) hk).symm
theorem c5z (c:List Int) (P n:Int) {k:Nat} (hk:k<256):(qTo c P n k).getD k 0=0:=by unfold qTo;rw[a4o _ hk,if_neg (by omega)]
theorem c5A (c:List Int) (P n:Int) {k:Nat} (hk:k<256):(qTo c P n (k+1)).sum=(qTo c P n k).sum+q0F c P n k:=by
 rw[b5S c P n hk,a7y _ _ _ (by unfold qTo;rw[a1I];exact hk)];have:(qTo c P n k).getD k 0=0:=by unfold qTo;rw[a4o _ hk,if_neg (by omega)]
 omega
theorem CnRel.next {N:Nat} {w0 wr wr':World} {c:List Int} {P n:Int} {k:Nat} {v v':Value} {S y:Int} (H:CnRel N w0 c P n k v S wr) (hk:k<256) (hq:(Kd.int .i64).R 3 wr' N (λ _=>True) (.slice (some ⟨N,0,none⟩) 256 256) ((qTo c P n k).set k y))
    (hl:k3.R 253 wr' N (λ b=>b≠N) v' (candN (restL c P n) (hadL c P n) (k+1))) (hb:Below N w0 wr') (hy:y=q0F c P n k) (hy2:0<=y/\y<=4096):CnRel N w0 c P n (k+1) v' (S+y) wr':=by
 have hs:=H.sum;have hr:=H.rng;refine⟨by rw[b5S c P n hk,<- hy];exact hq,hl,hb,by rw[c5A c P n hk,<- hy,hs],by omega,by omega⟩
theorem CnRel.far {N:Nat} {w0 wr:World} {c:List Int} {P n:Int} {k:Nat} {v:Value} {S:Int} (H:CnRel N w0 c P n k v S wr) (j:Nat) (y:Int) :
    (Kd.int .i64).R 3 (wr.setCell ⟨N,j,none⟩ (.int .i64 y)) N (λ _=>True) (.slice (some ⟨N,0,none⟩) 256 256) ((qTo c P n k).set j y)/\k3.R 253 (wr.setCell ⟨N,j,none⟩ (.int .i64 y)) N (λ b=>b≠N) v (candN (restL c P n) (hadL c P n) k)/\Below N w0 (wr.setCell ⟨N,j,none⟩ (.int .i64 y)):=by
 have:=Kd.R_putn H.q (j:Int) y;rw[Int.toNat_natCast] at this;exact⟨this,Kd.R_far (p:=⟨N,j,none⟩) H.l (λ k hk=>hk) _,H.below.setCell (Nat.le_refl _) _⟩
theorem b5T:∀ {l:List Int},(∀ x∈l,x=0)->l.sum=0
 | [],_=>rfl
 | a :: l,h=>by rw[List.sum_cons,h a (by simp),b5T (λ x hx=>h x (by simp[hx]))];rfl
theorem c5B {c:List Int} {r:Nat} (h:Can c r):∃ s,s<256/\0<c.getD s 0:=by
 refine Classical.byContradiction λ hn=>?_
 have:c.sum=0:=b5T (λ x hx=>by
  obtain⟨s,hs,rfl⟩:=List.getElem_of_mem hx;have h1:=h.nonneg _ hx;have h2:¬ 0<c.getD s 0:=λ hp=>hn ⟨s,by have:=h.len;omega,hp⟩;rw[List.getD_eq_getElem?_getD,List.getElem?_eq_getElem hs] at h2;simp only[Option.getD_some] at h2;omega)
 have:=h.pos;omega
theorem b5U (A:Option Addr) (cp:Nat) (c:List Int) (r:Nat) (w:World) (hr:(Kd.int .i64).C w A 256 c) (h:Can c r) :
    Calls Tryz.prog 191 #[.slice A 256 cp,.int .i64 r] w (a9I c r w):=by
 have HR:=Lib.hid hr;have HC:=Lib.hid h;have hR:a0S c=true:=rightC_iff.2 ⟨h.len,h.nonneg,h.le⟩;have hT:a1d c=c.sum:=by unfold a1d;rw[if_pos hR]
 have hM:manyC c<=2^r:=by unfold manyC;rw[if_pos hR];exact h.many
 obtain⟨n,hn⟩:∃ n:Nat,c.sum=n:=⟨c.sum.toNat,by have:=h.pos;omega⟩;have hr':(Kd.int .i64).C w A c.length c:=by rw[h.len];exact hr
 have HTot:=Lib.hid (b2x A cp c w hr');rw[hT,hn,h.len] at HTot;obtain⟨P,hP⟩:∃ P:Nat,2^r=P:=⟨_,rfl⟩;have hPI:(2:Int)^r=(P:Int):=by rw[<- hP];simp
 have hPb:1<=P/\P<=4096:=by have:=a1K h.r12;rw[hPI] at this;omega
 have HM2:Hid (∀ W,Below w.heap.size w W->Calls Tryz.prog 190 #[.slice A 256 cp] W λ e w'=>e=.returned (.int .i64 (manyC c))/\W=w'):=λ W hb=>by
  have:=a5S A cp c W (Kd.C_below hr' hb) hR;rw[h.len] at this;exact this
 have HN:Hid (c.sum=n/\2^r=P/\(2:Int)^r=(P:Int)/\manyC c<=P):=⟨hn,hP,hPI,by omega⟩;have hn0:((n:Int)==0)=false:=by have:=h.pos;simp;omega
 have hn1:1<=n/\n<=1073741824:=by have:=h.pos;have:=h.le;omega
 have hr1:decide ((r:Int)<1)=false:=decide_eq_false (by have:=h.r1;omega);have hr2:decide (12<(r:Int))=false:=decide_eq_false (by have:=h.r12;omega);have hr0:(0:Int)<=r:=by omega
 have hr12:(r:Int)<=12:=by have:=h.r12;omega
 have hw1:IntKind.i64.wrap (2^r)=(P:Int):=by rw[hPI];exact i64_in _ (by omega)
 have hmp:decide (P<manyC c)=false:=decide_eq_false (by have:=HN.out.2.2.2;omega);clear hr hr' h hR hT hM hn hP hPI;have hmi:∀ w:World,(Instr.makeSlice 84 (.int .i64 256) (.int .i64 256)).run Tryz.prog w=.ok (.slice (some ⟨w.heap.size,0,none⟩) 256 256) (w.alloc (.cells (madeCells #[.int .i64 0] 256) 3)):=λ w=>a7A 256 (by omega) w;go_enter Tryz.func191,Tryz.ntmps191;go_wp2_with fail;refine HTot.out.mono ?_;rintro e w1 ⟨rfl,rfl⟩;go_wp2_with fail;go_quiet ((go_at_call 190;refine Calls.quiet_of_same ((HM2.out _ (a0b (Below.refl _ _) _)).mono λ e w' h=>⟨h.1,h.2.symm⟩)));have HB0:Hid (Below w.heap.size w (w.drewN nq)):=a0b (Below.refl _ _) _;obtain⟨w1,hw1'⟩:∃ w1,w1=w.drewN nq:=⟨_,rfl⟩;rw[<- hw1'] at HB0 ⊢;clear hw1';obtain⟨N,hNs⟩:∃ N,N=w1.heap.size:=⟨_,rfl⟩;have HNs:=Lib.hid hNs
 have HI:Hid (CnRel N w1 c P n 0 (.slice none 0 0) 0 (w1.alloc (.cells (madeCells #[.int .i64 0] 256) 3))):=by
  refine⟨?_,?_,?_,?_,by omega⟩
  · rw[(a9G c P n).1,hNs];exact a7L 256 3 w1 _ trivial _ (Nat.le_refl _) (by omega)
  · exact Kd.R_nil _ _ _ _ _
  · rw[hNs];exact(Below.refl _ _).alloc (Nat.le_refl _) _
  · rw[(a9G c P n).1];decide
 go_wp2_with fail;rw[<- hNs];obtain⟨W,hW⟩:∃ W,W=w1.alloc (.cells (madeCells #[.int .i64 0] 256) 3):=⟨_,rfl⟩;rw[<- hW] at HI ⊢;clear hW hNs hmi hmp;go_loopw [8,9,34] (λ lv sv kv wr=>∃ (k:Nat) (S:Int),sv=.int .i64 S/\kv=.int .i64 k/\k<=256/\0<=S/\S<=4096*k/\Hid (CnRel N w1 c P n k lv S wr)) (λ _ _ kv _=>256-(intOf kv).toNat)
 case atStart=>exact⟨0,0,rfl,rfl,by omega,by omega,by omega,HI⟩
 case round=>
  obtain⟨k,S,rfl,rfl,hk,hS0,hS1,H⟩:=hrel
  by_cases hlt:k<256
  · have hC:=Kd.C_below HR.out (HB0.out.trans (H.out.below.mono (by have:=HB0.out.size;have:=HNs.out;omega)));obtain⟨ad,rfl,hcx⟩:=a0v hC k (by omega);have hcg:=HC.out.get k;have hq0:=HC.out.q0 k;rw[HN.out.2.2.1,HN.out.1] at hq0;obtain⟨x,hx⟩:∃ x:Nat,c.getD k 0=x:=⟨(c.getD k 0).toNat,by omega⟩;rw[hx] at hcx hcg;obtain⟨hq1,hq2⟩:=a1D H.out.q k hlt;rw[c5z c P n hlt] at hq1;obtain⟨m,hm⟩:∃ m:Nat,m=x*P:=⟨_,rfl⟩;have hxn:x<=n:=by have:=HN.out.1;omega
    have hm42:m<=4398046511104:=by
     rw[hm]
     calc x*P<=1073741824*4096:=Nat.mul_le_mul (by omega) (by omega)
      _=4398046511104:=by decide
    have hmI:(x:Int)*(P:Int)=(m:Int):=by rw[hm];simp
    have hmR:(x:Int)*2^r=(m:Int):=by rw[HN.out.2.2.1];exact hmI
    have hdq:(m:Int)/(n:Int)=((m/n:Nat):Int):=by simp
    have hrm:(m:Int)%(n:Int)=((m%n:Nat):Int):=by simp
    obtain⟨dq,hdqe⟩:∃ dq,dq=m/n:=⟨_,rfl⟩;obtain⟨rm,hrme⟩:∃ rm,rm=m%n:=⟨_,rfl⟩;rw[<- hdqe] at hdq;rw[<- hrme] at hrm;have hdb:dq<=4398046511104:=by rw[hdqe];exact Nat.le_trans (Nat.div_le_self _ _) hm42
    have hn00:¬ (n:Int)=0:=by omega
    have HX:=Lib.hid (And.intro hx (And.intro hm (And.intro hdqe (And.intro hrme hq0))));have hwm:IntKind.i64.wrap ((x:Int)*2^r)=(m:Int):=by rw[hmR];exact i64_in _ (by omega)
    clear hx hm hdqe hrme hC hmR hq0;obtain⟨A1,c1,rfl⟩:=Kd.R_slice H.out.l;have HL0:=Lib.hid (H.out.far k (dq:Int))
    have HQF:Hid (q0F c P n k=if dq=0 then min (x:Int) 1 else dq):=by
     show _=_
     unfold q0F;rw[HX.out.1,hmI,hdq]
     by_cases e:dq=0
     · rw[if_pos e,if_pos (by omega)]
     · rw[if_neg e,if_neg (by omega)]
    have HHD:Hid ((hadL c P n).getD k false=decide (dq=0)):=by
     show _=_
     rw[c5y c P n hlt,HX.out.1,hmI,hdq]
     by_cases e:dq=0
     · rw[decide_eq_true (by omega),decide_eq_true e]
     · rw[decide_eq_false (by omega),decide_eq_false e]
    by_cases hz:0<dq
    · have hdq4:dq<=4096:=by
        have:=HX.out.2.2.2.2.2.1;rw[HQF.out,if_neg (by omega)] at this;omega
      have HSz:Hid (N<=(wr.setCell ⟨N,k,none⟩ (.int .i64 (dq:Int))).heap.size):=by show _<=_;have:=Kd.R_lt HL0.out.1 N rfl;omega
      have HLn:Hid (((candN (restL c P n) (hadL c P n) k).length+1)*24<=140737488355328):=by show _<=_;have:=b0f (restL c P n) (hadL c P n) k;omega
      have HFr:Hid (∀ j,(wr.setCell ⟨N,k,none⟩ (.int .i64 (dq:Int))).heap.size<=j->j≠N):=λ j hj e=>by have:=Kd.R_lt HL0.out.1 N rfl;omega
      have HNe:Hid ((Value.slice A1 (candN (restL c P n) (hadL c P n) k).length c1).ownBlock≠some N):=λ e=>HL0.out.2.1.1 N e rfl;have hqg:((qTo c P n k).set k (dq:Int)).getD k 0=(dq:Int):=by rw[a3s _ _ _ _ (by unfold qTo;rw[a1I];omega),if_pos rfl]
      obtain⟨L,hL⟩:∃ L,L=candN (restL c P n) (hadL c P n) k:=⟨_,rfl⟩;obtain⟨Q,hQ⟩:∃ Q,Q=(qTo c P n k).set k (dq:Int):=⟨_,rfl⟩;rw[<- hL] at HLn HNe;have HL1:Hid (k3.R 253 (wr.setCell ⟨N,k,none⟩ (.int .i64 (dq:Int))) N (λ b=>b≠N) (.slice A1 L.length c1) L):=by rw[hL];exact HL0.out.2.1
      have HQ1:Hid ((Kd.int .i64).R 3 (wr.setCell ⟨N,k,none⟩ (.int .i64 (dq:Int))) N (λ _=>True) (.slice (some ⟨N,0,none⟩) 256 256) Q):=by rw[hQ];exact HL0.out.1
      rw[<- hQ] at hqg;have HQG:=Lib.hid (And.intro hqg (And.intro hL hQ));have HB1:=Lib.hid HL0.out.2.2;have HH:=Lib.hid H.out;rw[<- hL];clear hqg hL hQ HL0 H;go_wp2_with (at_builtin;refine Kd.R_append k3 (w0:=w1) (W:=wr.setCell ⟨N,k,none⟩ (.int .i64 (dq:Int))) N rfl (.tmp 53) (.tmp 61) 251 253 _ 24 rfl Tryz.underlying251 b0a rfl (by decide) (by decide) (.slice A1 L.length c1) L ((k:Int),(rm:Int),0) [.int .i64 k,.int .i64 rm,.int .i64 0] (λ b=>b≠N) (λ _=>False) rfl (by simp[go_sem]) (a5w _ _ _ _) (λ _ h=>h.elim) HFr.out HL1.out HB1.out HSz.out HLn.out ?_;intro v2 w2 hr2 hb2 hg2 hat2;have HQ2:=Lib.hid (Kd.R_grown1 HQ1.out rfl hg2 HNe.out);have hq5:=(a1D HQ2.out k hlt).1;rw[HQG.out.1] at hq5;have HR2:=Lib.hid hr2;have HB2:=Lib.hid hb2;clear hr2 hb2 hg2 hat2);go_roundw
      case rel=>
       refine⟨k+1,S+dq,rfl,by go_num,by omega,by omega,by omega,?_⟩;have hq2:=HQ2.out;rw[HQG.out.2.2] at hq2;refine HH.out.next hlt hq2 ?_ HB2.out (by rw[HQF.out,if_neg (by omega)]) (by omega);rw[b0e,if_pos (by rw[HHD.out];exact decide_eq_false (by omega))]
       have e:a1O (restL c P n) k=((k:Int),(rm:Int),0):=by
        unfold a1O restL;rw[a4o _ hlt,HX.out.1,hmI,hrm]
       rw[e,<- HQG.out.2.1];exact HR2.out
      case measure=>simp[intOf];omega
    · have hz0:dq=0:=by omega
      subst hz0
      by_cases hx0:0<x
      · go_wp2_with fail;go_roundw
        case rel=>
         refine⟨k+1,S+1,by go_num,by go_num,by omega,by omega,by omega,?_⟩;have hqq:=Kd.R_putn HL0.out.1 (k:Int) (1:Int);rw[Int.toNat_natCast,b4X] at hqq;refine H.out.next hlt hqq ?_ (HL0.out.2.2.setCell (Nat.le_refl _) _) (by rw[HQF.out,if_pos rfl];omega) (by omega);rw[b0e,if_neg (by rw[HHD.out];simp)];exact Kd.R_far (p:=⟨N,k,none⟩) HL0.out.2.1 (λ k hk=>hk) _
        case measure=>simp[intOf];omega
      · go_wp2_with fail;go_roundw
        case rel=>
         refine⟨k+1,S+0,by go_num,by go_num,by omega,by omega,by omega,?_⟩;refine H.out.next hlt HL0.out.1 ?_ HL0.out.2.2 (by rw[HQF.out,if_pos rfl];omega) (by omega);rw[b0e,if_neg (by rw[HHD.out];simp)];exact HL0.out.2.1
        case measure=>simp[intOf];omega
  · obtain rfl:k=256:=by omega
    obtain⟨A1,c1,rfl⟩:=Kd.R_slice H.out.l;have HQ0:Hid ((Kd.int .i64).R 3 wr N (λ _=>True) (.slice (some ⟨N,0,none⟩) 256 256) (q0L c P n)):=by rw[<- (a9H c P n).1];exact H.out.q
    have HS:Hid (S=(q0L c P n).sum):=by rw[<- (a9H c P n).1];exact H.out.sum
    have HPP:Hid ((P:Int)=2^r/\(n:Int)=c.sum):=⟨HN.out.2.2.1.symm,HN.out.1.symm⟩;have HB1:=Lib.hid H.out.below;have HL1:=Lib.hid H.out.l;obtain⟨M,hM⟩:∃ M:Nat,M=giveM c (2^r) c.sum:=⟨_,rfl⟩
    have hMv:max (0:Int) ((P:Int)-S)=(M:Int):=by
     rw[hM];unfold giveM;rw[<- HPP.out.1,<- HPP.out.2,<- HS.out];omega
    have hM4:M<=4096:=by omega
    obtain⟨T,hT⟩:∃ T:Nat,T=(S-P).toNat:=⟨_,rfl⟩;have hTv:max (0:Int) (S-(P:Int))=(T:Int):=by rw[hT];omega
    have HMT:=Lib.hid (And.intro hM hT);have hTb:T<=2000000:=by omega
    obtain⟨L,hL⟩:∃ L,L=candN (restL c P n) (hadL c P n) 256:=⟨_,rfl⟩;rw[<- hL];have HLE:=Lib.hid hL;clear hM hT hL H;go_wp2_with fail;have hgw0:=a4Y HC.out 0 (Nat.zero_le _);have hen:=HC.out.enough;rw[<- HPP.out.1,<- HPP.out.2] at hgw0 hen
    refine(c5q N 256 N (q0L c P n) (.slice A1 L.length c1) (restL c P n) (hadL c P n) M wr HQ0.out (by rw[HLE.out];exact HL1.out) (by have:=Kd.R_lt HQ0.out N rfl;omega) (a1I _) (by simp[hadL])
     (λ s=>⟨(hgw0.2.2.1 s).1,by have:=(hgw0.2.2.1 s).2;simp only[a0X] at this;omega⟩) (by rw[<- HS.out] at hen;omega) hM4).mono ?_
    clear hgw0 hen;rintro e w3 ⟨rfl,hq3,hb3⟩;obtain⟨G,hG⟩:∃ G,G=(a0X (restL c P n) M (q0L c P n,hadL c P n)).1:=⟨_,rfl⟩;rw[<- hG] at hq3;have H3:=Lib.hid (And.intro hq3 (And.intro hb3 hG));clear hq3 hb3 hG hMv;go_wp2_with fail;have hge:=a9E HC.out;have hgw:=(a4Y HC.out M (by rw[<- HMT.out.1];exact Nat.le_refl _)).2.2.2.2.1;rw[<- HMT.out.1,<- HPP.out.1,<- HPP.out.2,<- H3.out.2.2] at hge;rw[<- HPP.out.1,<- HPP.out.2,<- H3.out.2.2,<- HS.out] at hgw
    have hTe:(G.sum-2^r).toNat=T:=by
     rw[<- HPP.out.1,hgw]
     have h1:M=((P:Int)-S).toNat:=by
      have:=HMT.out.1;unfold giveM at this;rw[<- HPP.out.1,<- HPP.out.2,<- HS.out] at this;exact this
     have h2:=HMT.out.2;omega
    have HT2:Hid (b0h c G T):=λ k hk=>by
     have:=(a7z HC.out hge.1 k (by rw[hTe];exact hk)).1;exact⟨this.len,this.rng,this.iff⟩
    have HNL:Hid (a0U c T G=normL c r):=by
     show _=_
     unfold normL;simp only[];rw[<- HMT.out.1,<- HPP.out.1,<- HPP.out.2,<- H3.out.2.2,HPP.out.1,hTe]
    have HB3:Hid (Below N w1 w3):=HB1.out.trans H3.out.2.1;have hcs:=HC.out.le;clear hge hgw;refine(c5t N 256 cp A w1 N HNs.out G c T w3 H3.out.1 (Kd.C_below HR.out HB0.out) HB3.out HC.out.len (λ s=>⟨(HC.out.get s).1,by have:=(HC.out.get s).2;omega⟩) HT2.out hTb (λ _=>c5B HC.out)).mono ?_;rintro e w4 ⟨rfl,hq4,hb4⟩;have H4:=Lib.hid (And.intro hq4 hb4);clear hq4 hb4 hTe;go_wp2_with fail;go_ret2;have hNl:w.heap.size<=N:=by rw[HNs.out];exact HB0.out.size
    refine⟨_,rfl,?_,HB0.out.trans (H4.out.2.mono hNl)⟩;rw[<- HNL.out];exact Kd.R_lower H4.out.1 hNl
end Go.Proofs.YtflfjpkmjnnodaaGreat
namespace Go.Proofs.YtflfjpkmjnnodaaGreat
open Go.RowKit Go.IntWalk Go.Proofs.YtflfjpkmjnnodaaGreatW.PrintWords
theorem c5C (i:Int) (p:Nat) (v:Value) (w:World) (h:w.cell? ⟨p,0,none⟩=some v) :
    Calls Tryz.prog 223 #[.int .i64 i,.pointer (some ⟨p,0,none⟩)] w λ e w'=>e=.returned v/\w=w':=by
 go_enter Tryz.func223,Tryz.ntmps223;go_wp2_with fail;go_ret;exact⟨rfl,rfl⟩
theorem c5D (p ch r:Nat) (Ah:Option Addr) (h:List Int) (w:World) (hp:w.heap[p]?=some (.cells #[.slice Ah 256 ch] 84 (0,0))) (hv:(Kd.int .i64).C w Ah 256 h) (hc:Can h r) (hm:0<manyC h) :
    Calls Tryz.prog 142 #[.int .i64 r,.int .i64 1,.func (Fn.func 223) #[] #[.pointer (some ⟨p,0,none⟩)]] w (MadeM r true [normL h r] w):=by
 obtain⟨W2,hW2⟩:∃ W2,W2=(w.alloc (.cells #[.int .i64 0,.bool false,.slice none 0 0] 26)).alloc (.cells #[.int .i64 r,.bool true,.slice none 0 0] 26):=⟨_,rfl⟩;have hb2:Below w.heap.size w W2:=by rw[hW2];exact((Below.refl w.heap.size w).alloc (Nat.le_refl _) _).alloc (by simp) _
 have hs2:W2.heap.size=w.heap.size+2:=by rw[hW2];simp
 have hm1:W2.heap[w.heap.size+1]?=some (.cells #[.int .i64 r,.bool true,.slice none 0 0] 26 (0,0)):=by rw[hW2];exact a2l _ _ _
 have hm0:W2.heap[w.heap.size]?=some (.cells #[.int .i64 0,.bool false,.slice none 0 0] 26 (0,0)):=by rw[hW2];exact a0o (a0i _ _) _
 have HP2:=Lib.hid (a0h hp hb2);have HV2:=Lib.hid (Kd.C_below hv hb2);have H2:=Lib.hid (And.intro hb2 (And.intro hs2 (And.intro hm1 hm0)));have HC:=Lib.hid (And.intro hc hm);clear hp hv hb2 hs2 hm1 hm0 hc hm;go_enter Tryz.func142,Tryz.ntmps142;go_wp2_with fail;rw[<- hW2];clear hW2;obtain⟨m0,hm0⟩:∃ m0,m0=w.heap.size:=⟨_,rfl⟩;have HM0:=Lib.hid hm0;rw[<- hm0] at H2 ⊢;clear hm0;obtain⟨m1,hm1⟩:∃ m1,m1=m0+1:=⟨_,rfl⟩;have HM1:=Lib.hid hm1;rw[<- hm1] at H2 ⊢;clear hm1;go_loopw [16] (λ kv wr=>(kv=.int .i64 0/\wr=W2)\/(kv=.int .i64 1/\Hid (∃ A1 c1,wr.heap[m1]?=some (.cells #[.int .i64 r,.bool true,.slice A1 1 c1] 26 (0,0))/\wr.heap[m0]?=some (.cells #[.int .i64 0,.bool false,.slice none 0 0] 26 (0,0))/\kq.R 84 wr W2.heap.size (λ _=>True) (.slice A1 1 c1) [normL h r]/\Below m0 w wr))) (λ kv _=>1-(intOf kv).toNat)
 case atStart=>exact .inl ⟨rfl,rfl⟩
 case round=>
  rcases hrel with ⟨rfl,rfl⟩ | ⟨rfl,H⟩
  · have hpc:wr.cell? ⟨p,0,none⟩=some (.slice Ah 256 ch):=(a0a HP2.out 0).trans rfl;go_wp2_with fail;refine(c5C 0 p (.slice Ah 256 ch) wr hpc).mono ?_;rintro e w' ⟨rfl,rfl⟩;go_wp2_with fail;have hmany:=a5S Ah ch h wr (by rw[HC.out.1.len];exact HV2.out) (rightC_iff.2 ⟨HC.out.1.len,HC.out.1.nonneg,HC.out.1.le⟩);rw[HC.out.1.len] at hmany;refine hmany.mono ?_;rintro e w' ⟨rfl,rfl⟩;have hmp:0<manyC h:=HC.out.2;clear hmany;go_wp2_with fail;refine(b5U Ah ch h r wr HV2.out HC.out.1).mono ?_;rintro e w5 ⟨vq,rfl,hq,hb5⟩;obtain⟨Aq,cq,rfl⟩:=Kd.R_slice hq;obtain⟨ql,hql⟩:∃ ql,ql=(normL h r).length:=⟨_,rfl⟩;have HQ:=Lib.hid hq;rw[<- hql] at HQ ⊢;have HB5:=Lib.hid hb5;have h15:w5.heap[m1]?=some (.cells #[.int .i64 r,.bool true,.slice none 0 0] 26 (0,0)):=a0h H2.out.2.2.1 hb5;have H05:=Lib.hid (a0h H2.out.2.2.2 hb5);obtain⟨⟨ca,cb,cc⟩,fa,fb,fc⟩:=cell3 h15;have H15:=Lib.hid h15;have HBB:Hid (Below wr.heap.size wr w5):=hb5;have HS5:Hid (wr.heap.size<=w5.heap.size):=hb5.size;have hm1l:=a0g h15;have hm1n:¬ m1=w5.heap.size:=by omega
    have hm1n':¬ w5.heap.size=m1:=by omega
    have HL:Hid ((([]:List (List Int)).length+1)*24<=140737488355328):=by show _<=_;simp
    clear hq hb5 h15 hql;go_wp2_with (at_builtin;refine Kd.R_append kq (w0:=wr) (W:=w5) wr.heap.size rfl (.tmp 32) (.tmp 34) 24 84 (.slice none 0 0) 24 rfl Tryz.underlying24 a7H rfl (by decide) (by decide) (.slice none 0 0) [] (normL h r) [.slice Aq ql cq] (λ _=>True) (λ _=>True) rfl (by simp[go_sem]) ⟨_,rfl,HQ.out⟩ (λ _ _=>⟨trivial,by simp[Value.ownBlock]⟩) (λ _ _=>trivial) (Kd.R_nil _ _ _ _ _) HBB.out HS5.out HL.out ?_;intro v1 w6 hr6 hb6 hg6 hat6;have h16:=a1g H15.out hg6 (by simp[Value.ownBlock]);have H16:=Lib.hid h16;have H06:=Lib.hid (a1g H05.out hg6 (by simp[Value.ownBlock]));obtain⟨⟨da,db,dc⟩,ga,gb,gc⟩:=cell3 h16;obtain⟨A1,c1,rfl⟩:=Kd.R_slice hr6;have HR6:=Lib.hid hr6;have HB6:=Lib.hid hb6;clear hr6 hb6 hg6 hat6 h16);go_roundw
    case rel=>
     have hmm:m0<=wr.heap.size/\m1<wr.heap.size/\m0≠m1:=by have:=a0g H2.out.2.2.1;have:=a0g H2.out.2.2.2;have:=HM1.out;omega
     have h1:=H16.out;have h0:=H06.out;refine .inr ⟨rfl,A1,c1,?_,?_,?_,?_⟩
     · exact a0x h1 2 _
     · exact a1v h0 (p:=⟨m1,2,none⟩) hmm.2.2 _
     · refine Kd.R_mono (Kd.R_far (p:=⟨m1,2,none⟩) (Kd.R_bound HR6.out) (λ k hk=>?_) _) (λ _ _=>trivial)
       show k≠m1
       have:=hk.2.1;omega
     · refine(H2.out.1.trans (HB6.out.mono hmm.1)).setCell ?_ _
       show m0<=m1
       have:=HM1.out;omega
    case measure=>simp[intOf]
  · obtain⟨A1,c1,h1,h2,h3,h4⟩:=H.out;obtain⟨⟨ca,cb,cc⟩,fa,fb,fc⟩:=cell3 h1;obtain⟨⟨da,db,dc⟩,ga,gb,gc⟩:=cell3 h2;have HH:=Lib.hid (And.intro h2 (And.intro h3 h4));clear h1 h2 h3 h4 H;go_wp2_with fail;have hmm:m0<W2.heap.size:=a0g H2.out.2.2.2;refine bodyPost_ret (results_cell_row (fn:=Tryz.f142) (p:=6) (ty:=26) rfl _ _ _ _ _ _ _ rfl (a1x HH.out.1 _ _ _) Tryz.underlying26 rfl a5P) rfl ?_;have hw0:=HM0.out;subst hw0;refine⟨_,rfl,?_,((HH.out.2.2.setCell (Nat.le_refl _) _).setCell (Nat.le_refl _) _).setCell (Nat.le_refl _) _⟩;have h4:kq.R 84 wr w.heap.size (λ k=>k≠w.heap.size) (.slice A1 1 c1) [normL h r]:=Kd.R_mono (Kd.R_lower (Kd.R_bound HH.out.2.1) (by omega)) (λ k hk=>by have:=hk.2.1;omega);exact Kd.R_mono (a2g h4 _ _ _) (λ _ _=>trivial)
theorem a1h {w:World} {g:Nat} {a b c:Value} (hg:w.heap[g]?=some (.cells #[a,b,c] 26 (0,0))):(loadVar 26 ⟨g,0,none⟩).run Tryz.prog w=.ok (.agg #[a,b,c]) w:=
 run_loadVar_row w g _ _ _ _ _ hg Tryz.underlying26 rfl a5P
theorem a2h {fn:Func} {p u:Tmp} {ty:TypeId} (h:fn.results = #[.cell p ty,.tmp u]) (tmps:Array Value) (w:World) (g:Nat) (cs:Array Value)
    (hp:tmps.getD p undef=.pointer (some ⟨g,0,none⟩)) (hl:(loadVar ty ⟨g,0,none⟩).run Tryz.prog w=.ok (.agg cs) w) :
    (results fn tmps).run Tryz.prog w=.ok (.tuple #[.agg cs,tmps.getD u undef]) w:=by
 have hp':tmps[p]?.getD undef=.pointer (some ⟨g,0,none⟩):=by simpa using hp
 simp[results,h,hp',asAddr,hl]
def b0i (b:List Int) (w:World) (e:Ending) (w':World):Prop:=
 (b.length=0/\e=.returned (.tuple #[.agg #[.int .i64 0,.bool false,.slice none 0 0],.int .i64 1])/\Below w.heap.size w w') \/
 (0<b.length/\∃ v,e=.returned (.tuple #[.agg #[.int .i64 (zeroR b),.bool true,v],.int .i64 0])/\kq.R 84 w' w.heap.size (λ _=>True) v [zeroQ b]/\Below w.heap.size w w')
theorem b5V {b:List Int} (hb:Bytes b) (hl:b.length<=1000000) (h0:0<b.length):0<manyC (histL b):=by
 rw[b5b (a5M b hb hl)];have hx:=hb _ (List.getElem_mem h0);obtain⟨s,hs⟩:∃ s:Nat,b[0]=(s:Int):=⟨(b[0]).toNat,by omega⟩;have hs2:s<256:=by omega
 have hp:=(a9K b hs2).2 (by rw[<- hs];exact List.getElem_mem h0);refine List.countP_pos_iff.2 ⟨(histL b).getD s 0,a2f (by unfold histL;rw[a1I];exact hs2),by simpa using hp⟩
theorem b5W (A:Option Addr) (cp:Nat) (b:List Int) (w:World) (hr:(Kd.int .u8).C w A b.length b) (hb:Bytes b) (hl:b.length<=1000000) (h0:0<b.length) :
    Calls Tryz.prog 180 #[.slice A b.length cp] w (b0i b w):=by
 have hne:((b.length:Int)==0)=false:=by simp;intro e;subst e;simp at h0
 have hne2:¬ b=[]:=by intro e;subst e;simp at h0
 obtain⟨W1,hW1⟩:∃ W1,W1=w.alloc (.cells #[.int .i64 0,.bool false,.slice none 0 0] 26):=⟨_,rfl⟩;have hb1:Below w.heap.size w W1:=by rw[hW1];exact(Below.refl w.heap.size w).alloc (Nat.le_refl _) _
 have hk1:W1.heap[w.heap.size]?=some (.cells #[.int .i64 0,.bool false,.slice none 0 0] 26 (0,0)):=by rw[hW1];exact a0i _ _
 have HB1:=Lib.hid hb1;have HK1:=Lib.hid hk1;have HR:=Lib.hid hr;have HX:=Lib.hid (And.intro hb (And.intro hl h0));have hZ:=a4r b;obtain⟨zr,hzr⟩:∃ zr,zr=zeroR b:=⟨_,rfl⟩;rw[<- hzr] at hZ;have HZ:=Lib.hid (And.intro hzr hZ);clear hb1 hk1 hr hb hl h0 hZ hzr;go_enter Tryz.func180,Tryz.ntmps180;go_wp2_with fail;rw[<- hW1];clear hW1;refine(b5r A cp b W1 (Kd.C_below HR.out HB1.out) HX.out.2.1 HX.out.1).mono ?_;rintro e w2 ⟨v,rfl,hv,hb2⟩;obtain⟨Ah,ch,rfl⟩:=Kd.R_slice hv;have hhl:(histL b).length=256:=a1I _;have hrd:=(Kd.R_reads' hv).2.2;have hmany:=a5S Ah ch (histL b) (w2.alloc (.cells #[.slice Ah 256 ch] 84)) (Kd.C_alloc hrd _) (a5M b HX.out.1 HX.out.2.1);rw[hhl] at hrd hmany ⊢;have HV:=Lib.hid (Kd.C_alloc hrd (.cells #[.slice Ah 256 ch] 84));have HMa:=Lib.hid hmany;have HB2:Hid (Below w.heap.size w w2):=HB1.out.trans (hb2.mono HB1.out.size);have HK2:=Lib.hid (a0h HK1.out hb2);clear hv hb2 hrd hmany hhl;go_wp2_with fail;have HP3:=Lib.hid (a0i w2 (.cells #[.slice Ah 256 ch] 84));have HB3:Hid (Below w.heap.size w (w2.alloc (.cells #[.slice Ah 256 ch] 84))):=HB2.out.alloc HB2.out.size _;have HK3:=Lib.hid (a0o HK2.out (.cells #[.slice Ah 256 ch] 84));obtain⟨w3,hw3⟩:∃ w3,w3=w2.alloc (.cells #[.slice Ah 256 ch] 84):=⟨_,rfl⟩;rw[<- hw3] at HP3 HB3 HK3 HV HMa ⊢;obtain⟨p0,hp0⟩:∃ p0,p0=w2.heap.size:=⟨_,rfl⟩;rw[<- hp0] at HP3 ⊢;clear hw3 hp0;refine HMa.out.mono ?_;rintro e w4 ⟨rfl,rfl⟩;go_wp2_with fail;refine(b5R b.length (manyC (histL b)) 11 _ HX.out.2.1 (by have:=a4V (histL b);omega)).mono ?_
 rw[HZ.out.2.1];rintro e w4 ⟨rfl,hb4⟩;have HB4:Hid (Below w.heap.size w w4):=HB3.out.trans (hb4.mono HB3.out.size);have HK4:=Lib.hid (a0h HK3.out hb4);have HP4:=Lib.hid (a0h HP3.out hb4);have HV4:=Lib.hid (Kd.C_below HV.out hb4);clear hb4;go_wp2_with fail;refine(c5D p0 ch zr Ah (histL b) w4 HP4.out HV4.out (by rw[HZ.out.1];exact a5N HX.out.1 HX.out.2.1 HX.out.2.2) (b5V HX.out.1 HX.out.2.1 HX.out.2.2)).mono ?_;rintro e w5 ⟨v,rfl,hv,hb5⟩;obtain⟨Av,cv,rfl⟩:=Kd.R_slice hv;obtain⟨⟨m0,m1,m2⟩,⟨f0,f1,f2⟩⟩:=cell3 (a0h HK4.out hb5);have HE:=Lib.hid (c4u (lg:=(zr:Nat)) (one:=true) HB4.out (a0g HK4.out) HK4.out hv hb5);clear hv hb5;go_wp2_with fail;refine bodyPost_ret (a2h (fn:=Tryz.f180) (p:=2) (u:=3) (ty:=26) rfl _ _ _ _ rfl (a1h HE.out.1)) rfl ?_;obtain⟨v2,h1,h2,h3⟩:=HE.out.2;injection h1 with h1
 injection h1 with h1
 have h1':Value.slice Av [normL (histL b) zr].length cv=v2:=by
  have:=congrArg (λ a:Array Value=>a.getD 2 Go.undef) h1;simpa using this
 refine .inr ⟨HX.out.2.2,Value.slice Av [normL (histL b) zr].length cv,?_,?_,h3⟩
 · rw[<- HZ.out.1];rfl
 · rw[<- h1'] at h2;unfold zeroQ;rw[<- HZ.out.1];exact h2
theorem c5E (A:Option Addr) (cp:Nat) (w:World):Calls Tryz.prog 180 #[.slice A 0 cp] w (b0i [] w):=by
 have hk1:(w.alloc (.cells #[.int .i64 0,.bool false,.slice none 0 0] 26)).heap[w.heap.size]?=some (.cells #[.int .i64 0,.bool false,.slice none 0 0] 26 (0,0)):=a0i _ _;have HB:Hid (Below w.heap.size w (w.alloc (.cells #[.int .i64 0,.bool false,.slice none 0 0] 26))):=(Below.refl _ _).alloc (Nat.le_refl _) _;have HK:=Lib.hid hk1;clear hk1;go_enter Tryz.func180,Tryz.ntmps180;go_wp2_with fail;refine bodyPost_ret (a2h (fn:=Tryz.f180) (p:=2) (u:=3) (ty:=26) rfl _ _ _ _ rfl (a1h HK.out)) rfl ?_;exact .inl ⟨rfl,rfl,HB.out⟩
theorem a1y {fn:Func} {p u v:Tmp} {ty:TypeId} (h:fn.results = #[.cell p ty,.tmp u,.tmp v]) (tmps:Array Value) (w:World) (g:Nat) (cs:Array Value)
    (hp:tmps.getD p undef=.pointer (some ⟨g,0,none⟩)) (hl:(loadVar ty ⟨g,0,none⟩).run Tryz.prog w=.ok (.agg cs) w) :
    (results fn tmps).run Tryz.prog w=.ok (.tuple #[.agg cs,tmps.getD u undef,tmps.getD v undef]) w:=by
 have hp':tmps[p]?.getD undef=.pointer (some ⟨g,0,none⟩):=by simpa using hp
 simp[results,h,hp',asAddr,hl]
theorem b5X (v:Nat) (w:World) (hv:v<256):Calls Tryz.prog 224 #[.int .u8 v] w λ e w'=>e=.returned (.bool (decide (5<=v/\v<=11)))/\w=w':=by
 by_cases h:5<=v
 · have e:decide (5<=v/\v<=11)=decide (v<=11):=by simp[h]
   rw[e];go_enter Tryz.func224,Tryz.ntmps224;go_wp2_with fail;go_ret;exact⟨a0W (by simp;omega),rfl⟩
 · have e:decide (5<=v/\v<=11)=false:=by simp[h]
   rw[e];go_enter Tryz.func224,Tryz.ntmps224;go_wp2_with fail;go_ret;exact⟨rfl,rfl⟩
theorem c5F (ps:List Int) (hps:∀ x∈ps,0<=x/\x<256) (h:0<ps.length):takeF ps 0 8=(ps.getD 0 0).toNat/\(ps.getD 0 0).toNat<256:=by
 have hx:=hps _ (a1G h);obtain⟨y,hy⟩:∃ y:Nat,ps.getD 0 0=y:=⟨(ps.getD 0 0).toNat,by omega⟩
 have hb:BitsAt ps 0 (a0k y 8):=λ i hi=>by
  rw[a0J] at hi;unfold bitI;rw[show(0+i)/8=0 by omega,show(0+i)%8=i by omega,hy,Int.toNat_natCast,a9s _ _ _ hi,a9t]
 have:=a7j hb (by omega);rw[this,hy];omega
def a5e (ps:List Int) (w:World) (e:Ending) (w':World):Prop:=
 ((a0w ps).1=0->∃ vm vp,e=.returned (.tuple #[.agg #[.int .i64 (a0w ps).2.1,.bool true,vm],vp,.int .i64 0])/\kq.R 84 w' w.heap.size (λ _=>True) vm [(a0w ps).2.2.1]/\(Kd.int .u8).R 5 w' w.heap.size (λ _=>True) vp (a0w ps).2.2.2) /\
 ((a0w ps).1≠0->e=.returned (.tuple #[.agg #[.int .i64 0,.bool false,.slice none 0 0],.slice none 0 0,.int .i64 (a0w ps).1]))/\Below w.heap.size w w'
theorem b5Y (A:Option Addr) (c:Nat) (ps:List Int) (w:World) (hr:(Kd.int .u8).C w A ps.length ps) (hps:∀ x∈ps,0<=x/\x<256) (hl:ps.length<=1000000) (hc:ps.length<=c) (hnil:A=none->c=0) :
    Calls Tryz.prog 182 #[.slice A ps.length c] w (a5e ps w):=by
 obtain⟨W,hW⟩:∃ W,W=w.alloc (.cells #[.int .i64 0,.bool false,.slice none 0 0] 26):=⟨_,rfl⟩;have hb1:Below w.heap.size w W:=by rw[hW];exact(Below.refl _ _).alloc (Nat.le_refl _) _
 have hk1:W.heap[w.heap.size]?=some (.cells #[.int .i64 0,.bool false,.slice none 0 0] 26 (0,0)):=by rw[hW];exact a0i _ _
 have HB1:=Lib.hid hb1;have HK1:=Lib.hid hk1;have HR:=Lib.hid (And.intro (Kd.C_below hr hb1) (And.intro hps (And.intro hl (And.intro hc hnil))));clear hr hps hl hc hnil hb1 hk1;go_enter Tryz.func182,Tryz.ntmps182;go_wp2_with fail;rw[<- hW];clear hW;refine(a9X A c ps W HR.out.1 HR.out.2.2.1 HR.out.2.2.2.1 HR.out.2.2.2.2).mono ?_;rintro e w1 ⟨p,rfl,hp,hrd,hb⟩;have H1:=Lib.hid (And.intro hp (And.intro hrd hb));have HK2:=Lib.hid (a0h HK1.out hb);clear hp hrd hb;go_wp2_with fail;refine(a7K W.heap.size p ps 0 8 w1 H1.out.2.1 HR.out.2.1 HR.out.2.2.1 (by omega) (by decide)).mono ?_;rintro e w2 ⟨t1,t2,t3⟩;have HO2:=Lib.hid t3;have hnp:w.heap.size≠p:=by have:=H1.out.1;have:=a0g HK1.out;omega
 have hk3:w2.heap[w.heap.size]?=some (.cells #[.int .i64 0,.bool false,.slice none 0 0] 26 (0,0)):=by rw[t3.block _ (a0g HK2.out) hnp];exact HK2.out
 have HK3:=Lib.hid hk3;have hbW:Below w.heap.size w w2:=(HB1.out.trans (H1.out.2.2.mono HB1.out.size)).trans (t3.below (Nat.le_trans HB1.out.size H1.out.2.2.size) (λ k hk=>by have:=H1.out.1;have:=HB1.out.size;omega));have HBW:=Lib.hid hbW
 by_cases h0:ps.length=0
 · obtain⟨rfl,hrd⟩:=t2 (by omega);have HE:Hid (a0w ps=(3,0,[],[])):=by show _=_;unfold a0w;rw[if_pos h0]
   obtain⟨⟨ca,cb,cc⟩,fa,fb,fc⟩:=cell3 hk3;clear t1 t2 t3 hrd hk3 hbW;go_wp2_with fail;refine bodyPost_ret (a1y (fn:=Tryz.f182) (p:=2) (u:=3) (v:=4) (ty:=26) rfl _ _ _ _ rfl (a1h (a1x HK3.out _ _ _))) rfl ?_;refine⟨(λ h=>by rw[HE.out] at h;cases h),(λ _=>by rw[HE.out];rfl),?_⟩;exact((HBW.out.setCell (Nat.le_refl _) _).setCell (Nat.le_refl _) _).setCell (Nat.le_refl _) _
 · obtain⟨rfl,hrd⟩:=t1 (by omega);obtain⟨f1,f2⟩:=c5F ps HR.out.2.1 (by omega);rw[f1];obtain⟨v,hv⟩:∃ v,v=(ps.getD 0 0).toNat:=⟨_,rfl⟩;rw[<- hv] at f2 ⊢;have HV:=Lib.hid hv;have HRD:=Lib.hid hrd;clear t1 t2 t3 hrd f1 hv
   by_cases hlog:5<=v/\v<=11
   · have hd:=Lib.hid (decide_eq_true hlog);obtain⟨H,hH⟩:∃ H,H=hdrT ps (8*ps.length) 257 a0y 0 (2^v) false 8:=⟨_,rfl⟩
     have hpl:p<w2.heap.size:=by
      obtain⟨A2,c2,hb2,-⟩:=HRD.out.ex;exact a0g hb2
     have HTk:=Lib.hid (b5t W.heap.size p v ps 8 w2 HRD.out HR.out.2.1 HR.out.2.2.1 (by omega) (by omega) (by omega) hpl);rw[<- hH] at HTk
     have hSM:a0w ps=if H.1≠0 then (H.1,0,[],[]) else if H.2.2%8≠0/\(ps.getD (H.2.2/8) 0).toNat/2^(H.2.2%8)≠0 then (4,0,[],[]) else (0,v,H.2.1,ps.drop ((H.2.2+7)/8)):=by
      unfold a0w;rw[if_neg h0,<- HV.out,if_neg (by omega),<- hH]
     have hHe:H.1=0->H.2.2<=8*ps.length:=λ h=>by rw[hH] at h ⊢;exact a5b _ _ _ _ _ _ (by omega) h
     have HS:=Lib.hid (And.intro hSM hHe);clear hk3 hbW hpl hH hSM hHe;go_wp2_with fail;refine(b5X v w2 f2).mono ?_;rw[hd.out];rintro e w' ⟨rfl,rfl⟩;go_wp2_with fail;refine HTk.out.mono ?_;rintro e w3 ⟨c1,c2,c3⟩;have hk4:w3.heap[w.heap.size]?=some (.cells #[.int .i64 0,.bool false,.slice none 0 0] 26 (0,0)):=by rw[c3.block _ (a0g HK3.out) hnp];exact HK3.out
     have HK4:=Lib.hid hk4;have HB4:Hid (Below w.heap.size w w3):=HBW.out.trans (c3.below HBW.out.size (λ k hk=>by have:=H1.out.1;have:=HB1.out.size;omega))
     by_cases hz:H.1=0
     · obtain⟨g,rfl,d1,d2,d3⟩:=c1 hz;have HD:=Lib.hid (And.intro d1 (And.intro d2 d3));have hPd:=b5u W.heap.size p ps H.2.2 w3 d3 HR.out.2.1 HR.out.2.2.1 (HS.out.2 hz);have HPd:=Lib.hid hPd;have HS23:=Lib.hid c3.size;clear c1 c2 c3 d1 d2 d3 hk4 hPd;go_wp2_with fail;refine HPd.out.mono ?_;rintro e w4 ⟨rfl,p2,p3⟩;have hk5:w4.heap[w.heap.size]?=some (.cells #[.int .i64 0,.bool false,.slice none 0 0] 26 (0,0)):=by rw[p3.block _ (a0g HK4.out) hnp];exact HK4.out
       have HK5:=Lib.hid hk5;have HB5:Hid (Below w.heap.size w w4):=HB4.out.trans (p3.below HB4.out.size (λ k hk=>by have:=H1.out.1;have:=HB1.out.size;omega))
       cases hpd:padOk ps H.2.2 with
       | false=>
        have HE:Hid (a0w ps=(4,0,[],[])):=by
         have:=HS.out.1;rw[if_neg (λ h=>h hz)] at this;unfold padOk at hpd;rw[if_pos (by have h:=of_decide_eq_false hpd;exact Classical.not_not.1 h)] at this;exact this
        obtain⟨⟨ca,cb,cc⟩,fa,fb,fc⟩:=cell3 hk5;clear p2 p3 hk5 hpd;go_wp2_with fail;refine bodyPost_ret (a1y (fn:=Tryz.f182) (p:=2) (u:=3) (v:=4) (ty:=26) rfl _ _ _ _ rfl (a1h (a1x HK5.out _ _ _))) rfl ?_;refine⟨(λ h=>by rw[HE.out] at h;cases h),(λ _=>by rw[HE.out];rfl),?_⟩;exact((HB5.out.setCell (Nat.le_refl _) _).setCell (Nat.le_refl _) _).setCell (Nat.le_refl _) _
       | true=>
        have HE:Hid (a0w ps=(0,v,H.2.1,ps.drop ((H.2.2+7)/8))):=by
         have:=HS.out.1;rw[if_neg (λ h=>h hz)] at this;unfold padOk at hpd;rw[if_neg (of_decide_eq_true hpd)] at this;exact this
        have hpl:p<w2.heap.size:=by
         obtain⟨A2,c2,hb2,-⟩:=HRD.out.ex;exact a0g hb2
        have hq4:(Kd.int .i64).R 3 w4 w2.heap.size (λ _=>True) (.slice (some ⟨g,0,none⟩) 256 256) H.2.1:=Kd.R_mono (Kd.R_step (Kd.R_bound HD.out.1) (λ k hk hlt=>p3.block k hlt (by have:=hk.2.1;omega))) (λ _ _=>trivial);have hs24:w2.heap.size<=w4.heap.size:=Nat.le_trans HS23.out p3.size;obtain⟨w5,hw5⟩:∃ w5,w5=w4.alloc (.cells #[.slice (some ⟨g,0,none⟩) 256 256] 84):=⟨_,rfl⟩;have hb45:Below w4.heap.size w4 w5:=by rw[hw5];exact(Below.refl _ _).alloc (Nat.le_refl _) _
        have HQ5:Hid (kq.R 84 w5 w2.heap.size (λ _=>True) (.slice (some ⟨w4.heap.size,0,none⟩) 1 1) [H.2.1]):=by show kq.R _ _ _ _ _ _;rw[hw5];exact Kd.R_mono (a7G hq4 hs24) (λ _ _=>trivial)
        have HR5:=Lib.hid ((p2 hpd).below hb45);have HK6:=Lib.hid (a0h hk5 hb45);have HB6:=Lib.hid (HB5.out.trans (hb45.mono HB5.out.size));have HSz:Hid (w.heap.size<w2.heap.size):=by show _<_;have:=a0g HK3.out;omega
        have hat:=HS.out.2 hz;have HAT:Hid (8*((H.2.2+7)/8)<=8*ps.length):=by show _<=_;omega
        obtain⟨s4,hs4⟩:∃ s4,s4=w4.heap.size:=⟨_,rfl⟩;rw[<- hs4] at HQ5;clear p2 p3 hk5 hpd hq4 hs24 hb45 hpl hat;go_wp2_with fail;rw[<- hw5,<- hs4];clear hw5 hs4;refine(b5w W.heap.size p ps _ w5 HR5.out HR.out.2.2.1 HAT.out).mono ?_;rintro e w6 ⟨vp,rfl,hvp,hb6⟩;have hk7:=a0h HK6.out hb6;have HK7:=Lib.hid hk7;have HP6:=Lib.hid hvp;have HQ6:=Lib.hid (Kd.R_below HQ5.out hb6);have HB7:=Lib.hid (HB6.out.trans (hb6.mono HB6.out.size));have HS5:=Lib.hid (HB6.out.size);obtain⟨⟨ca,cb,cc⟩,fa,fb,fc⟩:=cell3 hk7;clear hk7 hvp hb6;go_wp2_with fail;refine bodyPost_ret (a1y (fn:=Tryz.f182) (p:=2) (u:=3) (v:=4) (ty:=26) rfl _ _ _ _ rfl (a1h (a1x HK7.out _ _ _))) rfl ?_;refine⟨(λ _=>?_),(λ h=>by rw[HE.out] at h;exact absurd rfl h),((HB7.out.setCell (Nat.le_refl _) _).setCell (Nat.le_refl _) _).setCell (Nat.le_refl _) _⟩;rw[HE.out];have e8:(8*((H.2.2+7)/8)+7)/8=(H.2.2+7)/8:=by omega
        have hp6:=HP6.out;rw[e8] at hp6;have h5:=a0g HK6.out;refine⟨_,_,rfl,?_,?_⟩
        · have h4:kq.R 84 w6 w.heap.size (λ k=>k≠w.heap.size) (.slice (some ⟨s4,0,none⟩) 1 1) [H.2.1]:=Kd.R_mono (Kd.R_lower (Kd.R_bound HQ6.out) (by have:=HSz.out;omega)) (λ k hk=>by have:=hk.2.1;have:=HSz.out;omega);exact Kd.R_mono (a2g h4 _ _ _) (λ _ _=>trivial)
        · have h4:(Kd.int .u8).R 5 w6 w.heap.size (λ k=>k≠w.heap.size) vp (ps.drop ((H.2.2+7)/8)):=Kd.R_mono (Kd.R_lower (Kd.R_bound hp6) (by omega)) (λ k hk=>by have:=hk.2.1;omega);exact Kd.R_mono (a2g h4 _ _ _) (λ _ _=>trivial)
     · obtain rfl:=c2 hz;have HE:Hid (a0w ps=(H.1,0,[],[])):=by have:=HS.out.1;rw[if_pos hz] at this;exact this
       obtain⟨⟨ca,cb,cc⟩,fa,fb,fc⟩:=cell3 hk4;have hzb:(H.1==0)=false:=beq_eq_false_iff_ne.2 hz;have hzn:(H.1 != 0)=true:=by simp[hz]
       clear c1 c2 c3 hk4;go_wp2_with fail;refine bodyPost_ret (a1y (fn:=Tryz.f182) (p:=2) (u:=3) (v:=4) (ty:=26) rfl _ _ _ _ rfl (a1h (a1x HK4.out _ _ _))) rfl ?_;refine⟨(λ h=>by rw[HE.out] at h;exact absurd h hz),(λ _=>by rw[HE.out];rfl),?_⟩;exact((HB4.out.setCell (Nat.le_refl _) _).setCell (Nat.le_refl _) _).setCell (Nat.le_refl _) _
   · have HE:Hid (a0w ps=(13,0,[],[])):=by show _=_;unfold a0w;rw[if_neg h0,<- HV.out,if_pos (by omega)]
     have hd:=Lib.hid (decide_eq_false hlog);obtain⟨⟨ca,cb,cc⟩,fa,fb,fc⟩:=cell3 hk3;clear hk3 hbW hlog;go_wp2_with fail;refine(b5X v w2 f2).mono ?_;rw[hd.out];rintro e w' ⟨rfl,rfl⟩;go_wp2_with fail;refine bodyPost_ret (a1y (fn:=Tryz.f182) (p:=2) (u:=3) (v:=4) (ty:=26) rfl _ _ _ _ rfl (a1h (a1x HK3.out _ _ _))) rfl ?_;refine⟨(λ h=>by rw[HE.out] at h;cases h),(λ _=>by rw[HE.out];rfl),?_⟩;exact((HBW.out.setCell (Nat.le_refl _) _).setCell (Nat.le_refl _) _).setCell (Nat.le_refl _) _
theorem b0j (w:World):WrVal (w.alloc (.cells #[.slice none 0 0,.int .i64 0] 229)) w.heap.size w.heap.size (.slice none 0 0) []:=⟨a0i _ _,Kd.R_nil _ _ _ _ _⟩
theorem PutRel.bel {base p:Nat} {v0:Value} {bs:List Bool} {w0 w w':World} (h:PutRel base p v0 bs w w') (hb:Below w0.heap.size w0 w) (hp:w0.heap.size<=p) (hv:∀ k,v0.ownBlock=some k->w0.heap.size<=k):Below w0.heap.size w0 w':=by
 obtain⟨_,_,_,ho⟩:=h
 exact hb.trans (ho.below hb.size (λ k hk=>by
  rcases hk with hk | hk
  · exact hk ▸ hp
  · exact hv k hk))
def c5H (r:Nat) (q:List Int) (w:World) (e:Ending) (w':World):Prop:=∃ v,e=.returned v/\(Kd.int .u8).R 5 w' w.heap.size (λ _=>True) v (packB (headB r q))/\Below w.heap.size w w'
theorem c5I (r c:Nat) (A:Option Addr) (q:List Int) (w:World) (hr:kq.C w A 1 [q]) (hn:Nrm q r) :
    Calls Tryz.prog 181 #[.agg #[.int .i64 r,.bool true,.slice A 1 c]] w (c5H r q w):=by
 obtain⟨W,hW⟩:∃ W,W=(w.alloc (.cells #[.int .i64 r,.bool true,.slice A 1 c] 26)).alloc (.cells #[.slice none 0 0,.int .i64 0] 229):=⟨_,rfl⟩;have HI:=Lib.hid (b0j (w.alloc (.cells #[.int .i64 r,.bool true,.slice A 1 c] 26)));have HB:Hid (Below w.heap.size w W):=by show Below _ _ _;rw[hW];exact((Below.refl _ _).alloc (Nat.le_refl _) _).alloc (by simp) _
 have HK:Hid (W.heap[w.heap.size]?=some (.cells #[.int .i64 r,.bool true,.slice A 1 c] 26 (0,0))):=by show _=_;rw[hW];exact a0o (a0i _ _) _
 have hs:(w.alloc (.cells #[.int .i64 r,.bool true,.slice A 1 c] 26)).heap.size=w.heap.size+1:=by simp
 have HR:=Lib.hid (And.intro hr hn);have hr12:=hn.r12;rw[hs] at HI;rw[<- hW] at HI;clear hr hn;obtain⟨P,hP⟩:∃ P,P=w.heap.size+1:=⟨_,rfl⟩;rw[<- hP] at HI hs;have HP:=Lib.hid hP;have HPW:Hid (P<=W.heap.size):=by show _<=_;rw[hW,hP];simp
 clear hP;go_enter Tryz.func181,Tryz.ntmps181;go_wp2_with fail;refine(a6R _).mono ?_;rw[<- hW,hs];clear hW hs;rintro e w1 ⟨rfl,rfl⟩;have hk0:=(cell3 HK.out).1;obtain⟨ka,kb,kc⟩:=hk0;go_wp2_with fail;refine(a2q P P (.slice none 0 0) [] r 8 w1 HI.out HPW.out (by simp) (by omega) (by decide)).mono ?_;rintro e w2 ⟨rfl,hp⟩;have HB2:Hid (Below w.heap.size w w2):=hp.bel HB.out (by have:=HP.out;omega) (λ k hk=>by simp[Value.ownBlock] at hk);obtain⟨v1,m1,m2,m3⟩:=hp;have HM:=Lib.hid (And.intro m1 (And.intro m2 m3))
 have hk2:w2.heap[w.heap.size]?=some (.cells #[.int .i64 r,.bool true,.slice A 1 c] 26 (0,0)):=by
  rw[m3.block _ (a0g HK.out) (λ h=>by rcases h with h | h;have:=HP.out;omega;simp[Value.ownBlock] at h)];exact HK.out
 clear m1 m2 m3 ka kb kc;obtain⟨⟨ka,kb,kc⟩,-⟩:=cell3 hk2;obtain⟨ad,Bq,cq,rfl,hcq',-,hCq⟩:=kq_at HR.out.1 0 (by omega);have hcq:=a0p HB2.out hcq';clear hcq';have e0:([q]:List (List Int)).getD 0 []=q:=rfl;rw[e0,HR.out.2.len] at hcq hCq;have hadd:ad.add 0=ad:=rfl;rw[hadd] at hcq;have HQ:=Lib.hid hCq;clear hCq hk2 e0 hadd;go_wp2_with fail;refine(b5Z P P cq r Bq v1 ([]++a0k r 8) q w w2 HM.out.1 (Nat.le_trans HPW.out HM.out.2.2.size) (by simp[a0J]) HQ.out HB2.out (by have:=HP.out;omega) (by have:=HP.out;omega) HR.out.2).mono ?_;rintro e w3 ⟨rfl,hp⟩;have HB3:Hid (Below w.heap.size w w3):=hp.bel HB2.out (by have:=HP.out;omega) (λ k hk=>by have:=Kd.R_base HM.out.1.row k hk;have:=HP.out;omega);obtain⟨v2,m1,_,_⟩:=hp;have HM3:=Lib.hid m1;clear m1
 have HLn:Hid (([]++a0k r 8++hdrB q 257 0 (2^r)).length<=900000):=by
  show _<=_
  have e2:(2:Int)^r=((2^r:Nat):Int):=by simp
  have h1:=a3S HR.out.2.r12 HR.out.2.len HR.out.2.nn 257 0 (2^r) (by omega) (by rw[List.drop_zero,HR.out.2.sum,e2]) (by rw[Nat.pow_succ];have:=Nat.two_pow_pos r;omega);have h2:(256-0)*(r+3)<=256*15:=Nat.mul_le_mul (by omega) (by omega);rw[List.nil_append,List.length_append,a0J];omega
 go_wp2_with fail;refine(a7J _ _ _ _ _ HM3.out HLn.out).mono ?_;rintro e w4 ⟨v4,rfl,hv4,hb4⟩
 have H4:Hid ((Kd.int .u8).R 5 w4 w.heap.size (λ _=>True) v4 (packB (headB r q))/\Below w.heap.size w w4):=by
  refine⟨?_,HB3.out.trans (hb4.mono HB3.out.size)⟩;have:=Kd.R_lower hv4 HB3.out.size;rw[List.nil_append] at this;exact this
 clear hv4 hb4;go_wp2_with fail;go_ret;exact⟨v4,rfl,H4.out.1,H4.out.2⟩
def a1m (b:List Int):List Int:=packB (headB (zeroR b) (zeroQ b))++packB (a0R (zeroR b:Nat) true [zeroQ b] b++[true])
theorem a5T {b:List Int} (hb:Bytes b) (hl:b.length<=1000000) (h0:0<b.length):Nrm (zeroQ b) (zeroR b):=by
 have h:=a4Z (a5N hb hl h0);have hz:=a4r b;exact⟨h.1.len,h.1.nonneg,h.2.1,by omega,by omega⟩
def b6a (b:List Int) (w:World) (e:Ending) (w':World):Prop:=
 (b.length=0/\e=.returned (.tuple #[.slice none 0 0,.int .i64 1])/\Below w.heap.size w w') \/
 (0<b.length/\∃ v,e=.returned (.tuple #[v,.int .i64 0])/\(Kd.int .u8).R 5 w' w.heap.size (λ _=>True) v (a1m b)/\Below w.heap.size w w')
theorem c5J {w w':World} {e:Ending} (h:b0i [] w e w'):e=.returned (.tuple #[.agg #[.int .i64 0,.bool false,.slice none 0 0],.int .i64 1])/\Below w.heap.size w w':=by
 rcases h with ⟨_,h1,h2⟩ | ⟨h,_⟩
 · exact⟨h1,h2⟩
 · cases h
theorem c5K (A:Option Addr) (cp:Nat) (w:World):Calls Tryz.prog 130 #[.slice A 0 cp] w (b6a [] w):=by
 have HZ:=Lib.hid ((c5E A cp w).mono (λ e w' h=>c5J h));go_enter Tryz.func130,Tryz.ntmps130;go_wp2_with fail;refine HZ.out.mono ?_;rintro e w1 ⟨rfl,hb1⟩;have HB1:=Lib.hid hb1;clear hb1;go_wp2_with fail;go_ret2;exact .inl ⟨rfl,rfl,HB1.out.alloc HB1.out.size _⟩
theorem b6b (A:Option Addr) (cp:Nat) (b:List Int) (w:World) (hr:(Kd.int .u8).C w A b.length b) (hb:Bytes b) (hl:b.length<=40000) :
    Calls Tryz.prog 130 #[.slice A b.length cp] w (b6a b w):=by
 by_cases h0:0<b.length
 · have HR:=Lib.hid (And.intro hr (And.intro hb (And.intro hl h0)));have HN:=Lib.hid (a5T hb (by omega) h0);have HCan:Hid (canM (zeroR b:Nat) true [zeroQ b] b=true):=a3R (one:=true) hb (by omega) h0;have hzero:=b5W A cp b w hr hb (by omega) h0;have HZ:=Lib.hid hzero;obtain⟨r,hr'⟩:∃ r,r=zeroR b:=⟨_,rfl⟩;obtain⟨q,hq'⟩:∃ q,q=zeroQ b:=⟨_,rfl⟩;have HRQ:=Lib.hid (And.intro hr' hq');clear hr hb hl h0 hzero;go_enter Tryz.func130,Tryz.ntmps130;go_wp2_with fail;refine HZ.out.mono ?_;rintro e w1 (⟨h,_⟩ | ⟨_,v,rfl,hv,hb1⟩)
   · have:=HR.out.2.2.2;omega
   obtain⟨Av,cv,rfl⟩:=Kd.R_slice hv;rw[<- hr'];rw[<- hq'] at hv;have HV:Hid (kq.C w1 Av 1 [q]):=(Kd.R_reads' hv).2.2;have HB1:=Lib.hid hb1;have e1:([zeroQ b]:List (List Int)).length=1:=rfl;rw[e1];clear hv hb1 e1 hr' hq';obtain⟨w2,hw2⟩:∃ w2,w2=w1.alloc (.cells #[.int .i64 r,.bool true,.slice Av 1 cv] 26):=⟨_,rfl⟩;have HB2:Hid (Below w.heap.size w w2):=by show Below _ _ _;rw[hw2];exact HB1.out.alloc HB1.out.size _
   have HV2:Hid (kq.C w2 Av 1 [q]):=by show kq.C _ _ _ _;rw[hw2];exact Kd.C_alloc HV.out _
   have hk2:w2.heap[w1.heap.size]?=some (.cells #[.int .i64 r,.bool true,.slice Av 1 cv] 26 (0,0)):=by rw[hw2];exact a0i _ _
   have HK2:=Lib.hid hk2;obtain⟨mb,hmb⟩:∃ mb,mb=w1.heap.size:=⟨_,rfl⟩;rw[<- hmb] at HK2;clear hk2;go_wp2_with fail;rw[<- hw2,<- hmb];clear hw2 hmb;refine(b4a (r:Nat) true Av cv [q] A cp b w2 HV2.out (by simp) (Kd.C_below HR.out.1 HB2.out) HR.out.2.1 HR.out.2.2.1).mono ?_;rintro e w3 ⟨_,h2,hb3⟩;obtain⟨vp,rfl,hvp⟩:=h2 (by rw[HRQ.out.1,HRQ.out.2];exact HCan.out);obtain⟨Ap,cpp,rfl⟩:=Kd.R_slice hvp;have HB3:Hid (Below w.heap.size w w3):=HB2.out.trans (hb3.mono HB2.out.size);have hk3:=a0h HK2.out hb3;have HV3:Hid (kq.C w3 Av 1 [q]):=Kd.C_below HV2.out hb3;have HP3:=Lib.hid (Kd.R_reads' hvp).2.2;have HFit:=Lib.hid (a3O (a3P (by rw[HRQ.out.1,HRQ.out.2];exact HCan.out:canM (r:Nat) true [q] b=true)).1 HR.out.2.1);obtain⟨Pl,hPl⟩:∃ Pl,Pl=packB (a0R (r:Nat) true [q] b++[true]):=⟨_,rfl⟩;have HPl:=Lib.hid hPl;rw[<- hPl] at HP3 ⊢;obtain⟨⟨ka,kb,kc⟩,-⟩:=cell3 hk3
   have HPlen:Hid (Pl.length<=700000):=by
    show _<=_
    rw[hPl,a0B,List.length_append];have:=HFit.out;have:=HR.out.2.2.1;simp only[List.length_singleton];omega
   clear h2 hb3 hvp hk3 hPl;have HKK:=Lib.hid (And.intro ka (And.intro kb kc));clear ka kb kc;obtain⟨ka,kb,kc⟩:=HKK.out;go_wp2_with fail;refine(c5I r cv Av q w3 HV3.out (by rw[HRQ.out.1,HRQ.out.2];exact HN.out)).mono ?_;rintro e w4 ⟨vh,rfl,hvh,hb4⟩;obtain⟨Ah,ch,rfl⟩:=Kd.R_slice hvh;have HB4:Hid (Below w.heap.size w w4):=HB3.out.trans (hb4.mono HB3.out.size);have HP4:Hid ((Kd.int .u8).C w4 Ap Pl.length Pl):=Kd.C_below HP3.out hb4;have HH4:Hid ((Kd.int .u8).R 5 w4 w.heap.size (λ _=>True) (.slice Ah (packB (headB r q)).length ch) (packB (headB r q))):=Kd.R_lower hvh HB3.out.size
   have HHl:Hid ((packB (headB r q)).length<=10000):=by
    show _<=_
    have hn:=HN.out;rw[<- HRQ.out.1,<- HRQ.out.2] at hn;have e2:(2:Int)^r=((2^r:Nat):Int):=by simp
    have h1:=a3S hn.r12 hn.len hn.nn 257 0 (2^r) (by omega) (by rw[List.drop_zero,hn.sum,e2]) (by rw[Nat.pow_succ];have:=Nat.two_pow_pos r;omega);have h2:(256-0)*(r+3)<=256*15:=Nat.mul_le_mul (by omega) (by have:=hn.r12;omega);rw[a0B];unfold headB;rw[List.length_append,a0J];omega
   obtain⟨Hl,hHl⟩:∃ Hl,Hl=packB (headB r q):=⟨_,rfl⟩;have HHd:=Lib.hid hHl;rw[<- hHl] at HH4 HHl ⊢;have HL:Hid ((Hl.length+Pl.length)*1<=140737488355328):=by show _<=_;have:=HHl.out;have:=HPlen.out;omega
   have HS4:Hid (w.heap.size<=w4.heap.size):=HB4.out.size;clear hvh hb4 hHl ka kb kc;go_wp2_with (at_builtin;refine Kd.R_append_rows (Kd.int .u8) (Rr:=(Kd.int .u8).K w4) (w0:=w) (W:=w4) w.heap.size rfl (.tmp 25) (.tmp 26) 22 5 (.int .u8 0) 1 rfl Tryz.underlying22 a0I rfl (by decide) (by decide) (.slice Ah Hl.length ch) Hl Pl Ap Pl.length cpp (λ _=>True) (λ _=>False) rfl rfl HH4.out HP4.out (λ _ _ h=>h) (λ _ h=>h.elim) (λ _ _=>trivial) HB4.out HS4.out HL.out ?_;intro vi w5 hr5 hb5 hg5 hat5;have HR5:=Lib.hid hr5;have HB5:=Lib.hid hb5;clear hr5 hb5 hg5 hat5);go_ret2;refine .inr ⟨HR.out.2.2.2,_,rfl,?_,HB5.out⟩;unfold a1m;rw[<- HRQ.out.1,<- HRQ.out.2,<- HPl.out,<- HHd.out];exact HR5.out
 · have hbe:b=[]:=List.eq_nil_of_length_eq_zero (by omega);subst hbe;exact c5K A cp w
theorem a7P (ps:List Int):(∃ k,k≠0/\a0w ps=(k,0,[],[]))\/∃ r q m,5<=r/\r<=11/\a0w ps=(0,r,q,ps.drop m):=by
 unfold a0w
 by_cases h0:ps.length=0
 · rw[if_pos h0];exact .inl ⟨3,by decide,rfl⟩
 · rw[if_neg h0]
   by_cases h1:(ps.getD 0 0).toNat<5\/11<(ps.getD 0 0).toNat
   · rw[if_pos h1];exact .inl ⟨13,by decide,rfl⟩
   · rw[if_neg h1];dsimp only;obtain⟨H,hH⟩:∃ H,H=hdrT ps (8*ps.length) 257 a0y 0 (2^(ps.getD 0 0).toNat) false 8:=⟨_,rfl⟩;rw[<- hH]
     by_cases h2:H.1≠0
     · rw[if_pos h2];exact .inl ⟨_,h2,rfl⟩
     · rw[if_neg h2]
       by_cases h3:H.2.2%8≠0/\(ps.getD (H.2.2/8) 0).toNat/2^(H.2.2%8)≠0
       · rw[if_pos h3];exact .inl ⟨4,by decide,rfl⟩
       · rw[if_neg h3];exact .inr ⟨_,_,_,by omega,by omega,rfl⟩
theorem a7Q {ps:List Int} (h:Bytes ps):Bytes (a0w ps).2.2.2:=by
 rcases a7P ps with ⟨k,_,e⟩ | ⟨r,q,m,_,_,e⟩
 · rw[e];intro x hx;cases hx
 · rw[e];exact λ x hx=>h x (List.mem_of_mem_drop hx)
theorem b6c (ps:List Int):(a0w ps).2.2.2.length<=ps.length:=by
 rcases a7P ps with ⟨k,_,e⟩ | ⟨r,q,m,_,_,e⟩
 · rw[e];simp
 · rw[e];simp
def b6d (r:Nat) (q p:List Int) (w:World) (e:Ending) (w':World):Prop:=
 ∃ Am cm Ap cp,e=.returned (.tuple #[.agg #[.int .i64 r,.bool true,.slice Am 1 cm],.slice Ap p.length cp,.int .i64 0])/\kq.R 84 w' w.heap.size (λ _=>True) (.slice Am 1 cm) [q]/\(Kd.int .u8).R 5 w' w.heap.size (λ _=>True) (.slice Ap p.length cp) p/\Below w.heap.size w w'
theorem c5L (A:Option Addr) (c:Nat) (ps:List Int) {r:Nat} {q p:List Int} (w:World) (hr:(Kd.int .u8).C w A ps.length ps) (hps:Bytes ps) (hl:ps.length<=1000000) (hc:ps.length<=c) (hnil:A=none->c=0) (h:a0w ps=(0,r,q,p)) :
    Calls Tryz.prog 182 #[.slice A ps.length c] w (b6d r q p w):=by
 refine(b5Y A c ps w hr hps hl hc hnil).mono ?_;intro e w' hp;unfold a5e at hp;rw[h] at hp;obtain⟨vm,vp,rfl,hm,hv⟩:=hp.1 rfl;obtain⟨Am,cm,rfl⟩:=Kd.R_slice hm;obtain⟨Ap,cp,rfl⟩:=Kd.R_slice hv;exact⟨Am,cm,Ap,cp,rfl,hm,hv,hp.2.2⟩
theorem c5M (A:Option Addr) (c:Nat) (ps:List Int) {k:Int} (w:World) (hr:(Kd.int .u8).C w A ps.length ps) (hps:Bytes ps) (hl:ps.length<=1000000) (hc:ps.length<=c) (hnil:A=none->c=0) (h:(a0w ps).1=k) (hk:k≠0) :
    Calls Tryz.prog 182 #[.slice A ps.length c] w (λ e w'=>e=.returned (.tuple #[.agg #[.int .i64 0,.bool false,.slice none 0 0],.slice none 0 0,.int .i64 k])/\Below w.heap.size w w'):=by
 refine(b5Y A c ps w hr hps hl hc hnil).mono ?_;intro e w' hp;unfold a5e at hp;rw[h] at hp;exact⟨hp.2.1 hk,hp.2.2⟩
def dec0M (ps:List Int) (n:Int):Int×List Int:=if (a0w ps).1≠0 then ((a0w ps).1,[]) else decM ((a0w ps).2.1:Nat) true [(a0w ps).2.2.1] (a0w ps).2.2.2 n
theorem c5N (A:Option Addr) (c:Nat) (ps:List Int) (n:Int) (w:World) (hr:(Kd.int .u8).C w A ps.length ps) (hps:Bytes ps) (hl:ps.length<=1000000) (hc:ps.length<=c) (hnil:A=none->c=0) :
    Calls Tryz.prog 131 #[.slice A ps.length c,.int .i64 n] w (ReadPost (dec0M ps n) w):=by
 obtain⟨k,r,q,p,hS⟩:∃ k r q p,a0w ps=(k,r,q,p):=⟨_,_,_,_,rfl⟩;have hpb:=a7Q hps;have hpl:=b6c ps;rw[hS] at hpb hpl
 by_cases hk:k=0
 · subst hk;have HD:Hid (dec0M ps n=decM (r:Nat) true [q] p n):=by show _=_;unfold dec0M;rw[hS,if_neg (λ h=>h rfl)]
   have HS:=Lib.hid (c5L A c ps w hr hps hl hc hnil hS);have HP:=Lib.hid (And.intro hpb (Nat.le_trans hpl hl));rw[HD.out];clear hr hps hl hc hnil hS hpb hpl;go_enter Tryz.func131,Tryz.ntmps131;go_wp2_with fail;refine HS.out.mono ?_;rintro e w1 ⟨Am,cm,Ap,cp,rfl,hm,hv,hb1⟩;obtain⟨w2,hw2⟩:∃ w2,w2=w1.alloc (.cells #[.int .i64 r,.bool true,.slice Am 1 cm] 26):=⟨_,rfl⟩;have hb2:Below w1.heap.size w1 w2:=by rw[hw2];exact(Below.refl _ _).alloc (Nat.le_refl _) _
   have HB2:=Lib.hid (hb1.trans (hb2.mono hb1.size));have HM:=Lib.hid (Kd.C_below (Kd.R_reads' hm).2.2 hb2);have HV:=Lib.hid (Kd.C_below (Kd.R_reads' hv).2.2 hb2);clear hm hv hb1 hb2;go_wp2_with fail;rw[<- hw2];clear hw2;refine(b3Y r true Am cm [q] Ap cp p n w2 HM.out (by simp) HV.out HP.out.1 HP.out.2).mono ?_;rintro e w3 ⟨⟨v,rfl,hv⟩,hb3⟩;have H3:=Lib.hid (And.intro hv hb3);clear hv hb3;go_wp2_with fail;go_ret2;exact⟨⟨v,rfl,Kd.R_lower H3.out.1 HB2.out.size⟩,HB2.out.trans (H3.out.2.mono HB2.out.size)⟩
 · have HD:Hid (dec0M ps n=(k,[])):=by show _=_;unfold dec0M;rw[hS,if_pos hk]
   have HS:=Lib.hid (c5M A c ps w hr hps hl hc hnil (by rw[hS]) hk);have hkb:(k==0)=false:=beq_eq_false_iff_ne.2 hk;have hkn:(k != 0)=true:=by simp[hk]
   rw[HD.out];clear hr hps hl hc hnil hS hpb hpl;go_enter Tryz.func131,Tryz.ntmps131;go_wp2_with fail;refine HS.out.mono ?_;rintro e w1 ⟨rfl,hb1⟩;have HB1:=Lib.hid hb1;clear hb1;go_wp2_with fail;go_ret2;exact⟨⟨_,rfl,Kd.R_nil _ _ _ _ _⟩,HB1.out.alloc HB1.out.size _⟩
def Told (k:Int) (y:List Int) (w:World) (e:Ending) (w':World):Prop:=
 ∃ A c,e=.returned (.tuple #[.slice A y.length c,.int .i64 k])/\(Kd.int .u8).R 5 w' w.heap.size (λ _=>True) (.slice A y.length c) y/\Below w.heap.size w w'
theorem ReadPost.told {k:Int} {y:List Int} {w:World} {e:Ending} {w':World} (h:ReadPost (k,y) w e w'):Told k y w e w':=by
 obtain⟨⟨v,rfl,hv⟩,hb⟩:=h;obtain⟨A,c,rfl⟩:=Kd.R_slice hv;exact⟨A,c,rfl,hv,hb⟩
theorem c5O (A:Option Addr) (c:Nat) (ps:List Int) (n:Int) {k:Int} {y:List Int} (w:World) (hr:(Kd.int .u8).C w A ps.length ps) (hps:Bytes ps) (hl:ps.length<=1000000) (hc:ps.length<=c) (hnil:A=none->c=0) (h:dec0M ps n=(k,y)) :
    Calls Tryz.prog 131 #[.slice A ps.length c,.int .i64 n] w (Told k y w):=by
 have:=c5N A c ps n w hr hps hl hc hnil;rw[h] at this;exact this.mono λ e w' hp=>hp.told
theorem c5P (A:Option Addr) (cp:Nat) (b:List Int) (w:World) (hr:(Kd.int .u8).C w A b.length b) (hb:Bytes b) (hl:b.length<=40000) (h0:0<b.length) :
    Calls Tryz.prog 130 #[.slice A b.length cp] w (Told 0 (a1m b) w):=by
 refine(b6b A cp b w hr hb hl).mono ?_;rintro e w' (⟨h,_⟩ | ⟨_,v,rfl,hv,hbl⟩)
 · omega
 · obtain⟨A1,c1,rfl⟩:=Kd.R_slice hv;exact⟨A1,c1,rfl,hv,hbl⟩
theorem c5S (b:List Int):Bytes (a1m b):=λ x hx=>by
 unfold a1m at hx;rcases List.mem_append.1 hx with h | h
 · exact a4n _ x h
 · exact a4n _ x h
theorem b6e {b:List Int} (hb:Bytes b) (hl:b.length<=40000) (h0:0<b.length):0<(a1m b).length/\(a1m b).length<=710000:=by
 have hn:=a5T hb (by omega) h0;have HCan:canM (zeroR b:Nat) true [zeroQ b] b=true:=a3R (one:=true) hb (by omega) h0;have hF:=a3O (a3P HCan).1 hb;have e2:(2:Int)^zeroR b=((2^zeroR b:Nat):Int):=by simp
 have h1:=a3S hn.r12 hn.len hn.nn 257 0 (2^zeroR b) (by omega) (by rw[List.drop_zero,hn.sum,e2]) (by rw[Nat.pow_succ];have:=Nat.two_pow_pos (zeroR b);omega);have h2:(256-0)*(zeroR b+3)<=256*15:=Nat.mul_le_mul (by omega) (by have:=hn.r12;omega);unfold a1m;rw[List.length_append,a0B,a0B];unfold headB;rw[List.length_append,a0J,List.length_append,List.length_singleton];omega
theorem b6f (A B:Option Addr) (ca cb:Nat) (a b:List Int) (w:World) (ha:(Kd.int .u8).C w A a.length a) (hb:(Kd.int .u8).C w B b.length b) (hya:Bytes a) (hyb:Bytes b) :
    Calls Tryz.prog 26 #[.slice A a.length ca,.slice B b.length cb] w λ e w'=>e=.returned (.bool (decide (a=b)))/\w=w':=by
 have h1:=Kd.C_string (P:=Tryz.prog) (c:=ca) Tryz.underlying22 Tryz.underlying5 Tryz.underlying9 ha;have h2:=Kd.C_string (P:=Tryz.prog) (c:=cb) Tryz.underlying22 Tryz.underlying5 Tryz.underlying9 hb;rw[<- c4v hya hyb];obtain⟨x,hx⟩:∃ x,x=strOfNums a:=⟨_,rfl⟩;obtain⟨y,hy⟩:∃ y,y=strOfNums b:=⟨_,rfl⟩;rw[<- hx] at h1 ⊢;rw[<- hy] at h2 ⊢;clear hx hy ha hb hya hyb;go_enter Tryz.func26,Tryz.ntmps26;go_wp2_with fail;go_ret;exact⟨rfl,rfl⟩
theorem b0k (A B:Option Addr) (ca cb:Nat) (p:List Int) (w:World) (ha:(Kd.int .u8).C w A p.length p) (hb:(Kd.int .u8).C w B p.length p) (hp:Bytes p):Calls Tryz.prog 26 #[.slice A p.length ca,.slice B p.length cb] w (λ e w'=>e=.returned (.bool true)/\w=w'):=by
 have:=b6f A B ca cb p p w ha hb hp hp;rw[decide_eq_true rfl] at this;exact this
theorem b6g {one:Bool} {qs:List (List Int)} {ps:List Int}:∀ (n i:Nat) (la x0 x1:Int) (left:Nat) (out:List Int),(decGo one qs ps n i la x0 x1 left out).1≠0->(decGo one qs ps n i la x0 x1 left out).2=[]
 | 0,i,la,x0,x1,left,out=>by
  simp only[decGo];split
  · intro h;exact absurd rfl h
  · intro _;rfl
 | n+1,i,la,x0,x1,left,out=>by
  simp only[decGo];split
  · intro _;rfl
  · split
    · intro _;rfl
    · exact b6g n (i+1) _ _ _ _ _
theorem b0l {lg:Int} {one:Bool} {qs:List (List Int)} {ps:List Int} {n:Int} (h:(decM lg one qs ps n).1≠0):(decM lg one qs ps n).2=[]:=by
 revert h
 unfold decM
 split
 · intro _;rfl
 · split
   · intro _;rfl
   · split
     · intro _;rfl
     · exact b6g _ _ _ _ _ _ _
structure BSl (w:World) (A:Option Addr) (c:Nat) (p:List Int):Prop where
 row:(Kd.int .u8).C w A p.length p
 cap:p.length<=c
 nil:A=none->c=0
 by':Bytes p
theorem BSl.below {w w':World} {A:Option Addr} {c:Nat} {p:List Int} (h:BSl w A c p) (hb:Below w.heap.size w w'):BSl w' A c p:=⟨Kd.C_below h.row hb,h.cap,h.nil,h.by'⟩
theorem BSl.of {w:World} {A:Option Addr} {c n base:Nat} {p:List Int} {ok:Nat->Prop} (h:(Kd.int .u8).R 5 w base ok (.slice A n c) p) (hp:Bytes p):BSl w A c p:=by
 obtain⟨e,h2,h3⟩:=Kd.R_reads' h;refine⟨h3,by omega,λ ha=>?_,hp⟩;obtain⟨_,inner,⟨_,ho⟩,_⟩:=h;rcases ho with ⟨h4,_⟩ | ⟨g,cap,cur,h4,_⟩
 · cases h4;rfl
 · rw[ha] at h4;cases h4
theorem Told.out {k:Int} {y:List Int} {w:World} {e:Ending} {w':World} (h:Told k y w e w') (hy:Bytes y):∃ A c,e=.returned (.tuple #[.slice A y.length c,.int .i64 k])/\BSl w' A c y/\Below w.heap.size w w':=by
 obtain⟨A,c,he,hr,hb⟩:=h;exact⟨A,c,he,BSl.of hr hy,hb⟩
theorem a7R {w:World} (xs:List Int) (hx:Bytes xs) (hl:xs.length<=1000000):BSl (w.alloc (.cells (xs.map (Value.int .u8)).toArray 5)) (some ⟨w.heap.size,0,none⟩) xs.length xs:=
 BSl.of (a2W .u8 5 w w.heap.size (λ _=>True) trivial (Nat.le_refl _) xs hl) hx
theorem BSl.str {w:World} {A:Option Addr} {c:Nat} {p:List Int} (h:BSl w A c p):(convert 22 9 (.slice A p.length c)).run Tryz.prog w=.ok (.string (strOfNums p)) w:=
 Kd.C_string Tryz.underlying22 Tryz.underlying5 Tryz.underlying9 h.row
end Go.Proofs.YtflfjpkmjnnodaaGreat
namespace Go.Proofs.YtflfjpkmjnnodaaGreat
open Go.RowKit
def dirB (l:List Int):List Bool:=(List.range 256).map (λ (c:Nat)=>decide ((c:Int)∈l))
def dirL (l:List Int):List Int:=packB (dirB l)
theorem a2L (l:List Int):(dirB l).length=256:=by simp[dirB]
theorem a2Y (l:List Int):(dirL l).length=32:=by unfold dirL;rw[a0B,a2L]
def onesN (ps:List Int) (k:Nat):List Int:=((List.range k).filter (λ (c:Nat)=>decide (bitI ps c=1))).map (λ (c:Nat)=>(c:Int))
theorem a4s (ps:List Int) (k:Nat):onesN ps (k+1)=if bitI ps k=1 then onesN ps k++[(k:Int)] else onesN ps k:=by
 unfold onesN;rw[List.range_succ,List.filter_append,List.map_append]
 by_cases h:bitI ps k=1
 · rw[if_pos h];congr 1;simp only[List.filter_cons,List.filter_nil,h,decide_true];rfl
 · rw[if_neg h];simp only[List.filter_cons,List.filter_nil,h,decide_false];simp
theorem a7T (ps:List Int) (k:Nat):(onesN ps k).length<=k:=by
 unfold onesN;rw[List.length_map];exact Nat.le_trans (List.length_filter_le _ _) (by simp)
theorem a7U {ps:List Int} {k:Nat} {x:Int} (h:x∈onesN ps k):∃ c:Nat,x=c/\c<k/\bitI ps c=1:=by
 unfold onesN at h;obtain⟨c,hc,rfl⟩:=List.mem_map.1 h;obtain⟨h1,h2⟩:=List.mem_filter.1 hc;exact⟨c,rfl,List.mem_range.1 h1,of_decide_eq_true h2⟩
def dirT (ps:List Int):Int×List Int:=if ps.length<32 then (3,[]) else if (onesN ps 256).getD 0 1≠0 then (13,[]) else (0,onesN ps 256)
def hdrsB (r:Nat) (qs:List (List Int)):List Int->List Bool
 | []=>[]
 | c :: l=>hdrB (qs.getD c.toNat []) 257 0 (2^r)++hdrsB r qs l
def hdrsT (ps:List Int) (r:Nat):List Int->List (List Int)->Nat->Int×List (List Int)×Nat
 | [],qs,at_=>(0,qs,at_)
 | c :: l,qs,at_=>if (hdrT ps (8*ps.length) 257 a0y 0 (2^r) false at_).1≠0 then ((hdrT ps (8*ps.length) 257 a0y 0 (2^r) false at_).1,qs,at_) else
  hdrsT ps r l (qs.set c.toNat (hdrT ps (8*ps.length) 257 a0y 0 (2^r) false at_).2.1) (hdrT ps (8*ps.length) 257 a0y 0 (2^r) false at_).2.2
def a2t:List (List Int):=List.replicate 256 []
def a0z (ps:List Int):Int×Nat×List (List Int)×List Int:=
 if ps.length=0 then (3,0,[],[]) else if (ps.getD 0 0).toNat<5\/9<(ps.getD 0 0).toNat then (13,0,[],[]) else
 if (dirT (ps.drop 1)).1≠0 then ((dirT (ps.drop 1)).1,0,[],[]) else
 if (hdrsT (ps.drop 33) (ps.getD 0 0).toNat (dirT (ps.drop 1)).2 a2t 0).1≠0 then ((hdrsT (ps.drop 33) (ps.getD 0 0).toNat (dirT (ps.drop 1)).2 a2t 0).1,0,[],[]) else
 if (hdrsT (ps.drop 33) (ps.getD 0 0).toNat (dirT (ps.drop 1)).2 a2t 0).2.2%8≠0/\((ps.drop 33).getD ((hdrsT (ps.drop 33) (ps.getD 0 0).toNat (dirT (ps.drop 1)).2 a2t 0).2.2/8) 0).toNat/2^((hdrsT (ps.drop 33) (ps.getD 0 0).toNat (dirT (ps.drop 1)).2 a2t 0).2.2%8)≠0 then (4,0,[],[]) else
 (0,(ps.getD 0 0).toNat,(hdrsT (ps.drop 33) (ps.getD 0 0).toNat (dirT (ps.drop 1)).2 a2t 0).2.1,(ps.drop 33).drop (((hdrsT (ps.drop 33) (ps.getD 0 0).toNat (dirT (ps.drop 1)).2 a2t 0).2.2+7)/8))
def a1i (b:List Int):List Int:=[(a0r b:Int)]++dirL (presN b 256)++packB (hdrsB (a0r b) (a0C b) (presN b 256))++packB (a0R (a0r b:Nat) false (a0C b) b++[true])
theorem b0n (b:List Int) (c:Nat) (hc:c<256):(c:Int)∈presN b 256↔0<(a0q b (c:Int)).length:=by
 unfold presN
 constructor
 · intro h;obtain⟨d,hd,e⟩:=List.mem_map.1 h;obtain⟨_,h2⟩:=List.mem_filter.1 hd;have:d=c:=by omega
   subst this;exact of_decide_eq_true h2
 · intro h;exact List.mem_map.2 ⟨c,List.mem_filter.2 ⟨List.mem_range.2 hc,by simpa using h⟩,rfl⟩
theorem b6i {b:List Int} (h0:0<b.length):(presN b 256).getD 0 1=0:=by
 have h1:(0:Int)∈presN b 256:=(b0n b 0 (by omega)).2 (by
  refine List.length_pos_iff_exists_mem.2 ⟨b.getD 0 0,?_⟩;unfold a0q pkL;exact List.mem_map.2 ⟨0,List.mem_filter.2 ⟨List.mem_range.2 h0,decide_eq_true (a5F b h0)⟩,rfl⟩)
 have h2:presN b 256=((List.range 256).filter (λ (c:Nat)=>decide (0<(a0q b (c:Int)).length))).map (λ (c:Nat)=>(c:Int)):=rfl;have h3:0<(a0q b ((0:Nat):Int)).length:=(b0n b 0 (by omega)).1 h1;have h4:List.range 256=0 :: (List.range 255).map Nat.succ:=List.range_succ_eq_map;rw[h2,h4,List.filter_cons,if_pos (by simpa using h3)];rfl
theorem a7V {b:List Int} (hb:Bytes b) (hl:b.length<=1000000) {c:Nat} (hc:c<256) (h0:0<(a0q b (c:Int)).length):(a1l b c).length=256/\(∀ x∈a1l b c,0<=x)/\(a1l b c).sum=2^a0r b:=by
 have h:=a4Z (a5O hb hl hc h0);unfold a1l;rw[if_pos h0];exact⟨h.1.len,h.1.nonneg,h.2.1⟩
def dec1M (ps:List Int) (n:Int):Int×List Int:=if (a0z ps).1≠0 then ((a0z ps).1,[]) else decM ((a0z ps).2.1:Nat) false (a0z ps).2.2.1 (a0z ps).2.2.2 n
def putN (l:List Int):Nat->Nat
 | 0=>0
 | i+1=>(l.getD i 0).toNat+1
structure Asc (l:List Int):Prop where
 first:l.getD 0 1=0
 asc:∀ i,i+1<l.length->l.getD i 0<l.getD (i+1) 0
 lo:∀ x∈l,0<=x
 hi:∀ x∈l,x<256
theorem Asc.pos {l:List Int} (h:Asc l):0<l.length:=by
 rcases Nat.eq_zero_or_pos l.length with e | e
 · have:=h.first
   rw[List.eq_nil_of_length_eq_zero e] at this;cases this
 · exact e
theorem Asc.zero {l:List Int} (h:Asc l):l.getD 0 0=0:=by
 have h1:=h.first
 have h2:=h.pos;rw[List.getD_eq_getElem?_getD,List.getElem?_eq_getElem h2,Option.getD_some] at h1 ⊢;exact h1
theorem Asc.lt {l:List Int} (h:Asc l):∀ (d i:Nat),i+d+1<l.length->l.getD i 0<l.getD (i+d+1) 0:=by
 intro d
 induction d with
 | zero=>intro i hi;exact h.asc i hi
 | succ d ih=>
  intro i hi;have h1:=ih i (by omega);have h2:=h.asc (i+d+1) (by omega);rw[show i+(d+1)+1=i+d+1+1 by omega];omega
theorem Asc.lt' {l:List Int} (h:Asc l) {i j:Nat} (hij:i<j) (hj:j<l.length):l.getD i 0<l.getD j 0:=by
 have:=h.lt (j-i-1) i (by omega)
 rwa [show i+(j-i-1)+1=j by omega] at this
theorem Asc.get {l:List Int} (h:Asc l) {i:Nat} (hi:i<l.length):∃ c:Nat,l.getD i 0=c/\c<256:=by
 have hm:=a1G hi;have h1:=h.lo _ hm;have h2:=h.hi _ hm;exact⟨(l.getD i 0).toNat,by omega,by omega⟩
theorem Asc.put_le {l:List Int} (h:Asc l) {i c:Nat} (hi:i<l.length) (hc:l.getD i 0=c):putN l i<=c:=by
 cases i with
 | zero=>exact Nat.zero_le _
 | succ i=>
  have h1:=h.asc i hi;have h2:=h.lo _ (a1G (show i<l.length by omega))
  show(l.getD i 0).toNat+1<=c
  omega
theorem a5V {l:List Int} {x:Int} (h:x∈l):∃ j,j<l.length/\l.getD j 0=x:=by
 obtain⟨j,hj,rfl⟩:=List.getElem_of_mem h;exact⟨j,hj,by rw[List.getD_eq_getElem?_getD,List.getElem?_eq_getElem hj,Option.getD_some]⟩
theorem a7W (l:List Int) {n:Nat} (hn:n<256):(dirB l).getD n false=decide ((n:Int)∈l):=by
 rw[List.getD_eq_getElem?_getD,List.getElem?_eq_getElem (by rw[a2L];omega),Option.getD_some];simp[dirB]
theorem Asc.gap {l:List Int} (h:Asc l) {i n c:Nat} (hi:i<l.length) (hc:l.getD i 0=c) (h1:putN l i<=n) (h2:n<c):(n:Int)∉l:=by
 intro hm;obtain⟨j,hj,e⟩:=a5V hm;rcases Nat.lt_trichotomy j i with hlt | heq | hgt
 · cases i with
   | zero=>omega
   | succ i=>
    have h3:(l.getD i 0).toNat+1<=n:=h1
    by_cases hji:j=i
    · subst hji;omega
    · have:=h.lt' (show j<i by omega) (by omega);omega
 · subst heq;omega
 · have:=h.lt' hgt hj;omega
theorem Asc.behind {l:List Int} (h:Asc l) {n:Nat} (h1:putN l l.length<=n):(n:Int)∉l:=by
 intro hm;obtain⟨j,hj,e⟩:=a5V hm;obtain⟨m,hm2⟩:∃ m,l.length=m+1:=⟨l.length-1,by omega⟩;rw[hm2] at h1;have h3:(l.getD m 0).toNat+1<=n:=h1
 by_cases hjm:j=m
 · subst hjm;omega
 · have:=h.lt' (show j<m by omega) (by omega);omega
theorem c6j {l:List Int} (h:Asc l) {i n c:Nat} (hi:i<l.length) (hc:l.getD i 0=c) (hc2:c<256) (h1:putN l i<=n) (h2:n<c):(dirB l).take (n+1)=(dirB l).take n++[false]:=by
 have hl:=a2L l;rw[List.take_succ_eq_append_getElem (by omega)]
 congr 2
 have h3:=a7W l (n:=n) (by omega);rw[decide_eq_false (h.gap hi hc h1 h2),List.getD_eq_getElem?_getD,List.getElem?_eq_getElem (by omega),Option.getD_some] at h3;exact h3
theorem c6k {l:List Int} {i c:Nat} (hi:i<l.length) (hc:l.getD i 0=c) (hc2:c<256):(dirB l).take (putN l (i+1))=(dirB l).take c++[true]:=by
 have hl:=a2L l;have e:putN l (i+1)=c+1:=by show(l.getD i 0).toNat+1=_;omega
 rw[e,List.take_succ_eq_append_getElem (by omega)]
 congr 2
 have h3:=a7W l (n:=c) hc2;rw[decide_eq_true (by rw[<- hc];exact a1G hi),List.getD_eq_getElem?_getD,List.getElem?_eq_getElem (by omega),Option.getD_some] at h3;exact h3
theorem c6l (bs:List Bool) (n:Nat) (hn:n<=bs.length) (h:∀ k,n<=k->bs.getD k false=false):packB bs=packB (bs.take n)++List.replicate ((bs.length+7)/8-(n+7)/8) 0:=by
 apply List.ext_getElem
 · rw[a0B,List.length_append,a0B,List.length_replicate,List.length_take];omega
 · intro j h1 h2;rw[a1S];rw[a0B] at h1
   have hb:∀ (a b:List Bool),(∀ k,a.getD k false=b.getD k false)->a.length<=b.length->byteL a=byteL b:=by
    intro a b hab hle
    have e:b=a++List.replicate (b.length-a.length) false:=by
     apply List.ext_getElem
     · rw[List.length_append,List.length_replicate];omega
     · intro k k1 k2;have:=hab k;rw[List.getD_eq_getElem?_getD,List.getD_eq_getElem?_getD,List.getElem?_eq_getElem k1,Option.getD_some] at this
       by_cases hk:k<a.length
       · rw[List.getElem?_eq_getElem hk,Option.getD_some] at this;rw[List.getElem_append_left hk];exact this.symm
       · rw[List.getElem?_eq_none (by omega)] at this;rw[List.getElem_append_right (by omega),List.getElem_replicate];exact this.symm
    have z:∀ m,byteL (a++List.replicate m false)=byteL a:=by
     intro m
     induction m with
     | zero=>simp
     | succ m ih=>rw[List.replicate_succ',<- List.append_assoc,a3o,ih];simp
    rw[e,z]
   by_cases hj:j<(packB (bs.take n)).length
   · rw[List.getElem_append_left hj,a1S]
     congr 1
     symm
     refine hb _ _ (λ k=>?_) ?_
     · simp only[List.getD_eq_getElem?_getD,List.getElem?_take,List.getElem?_drop]
       by_cases hk:k<8
       · rw[if_pos hk,if_pos hk]
         by_cases hk2:8*j+k<n
         · rw[if_pos hk2]
         · rw[if_neg hk2];have:=h (8*j+k) (by omega);rw[List.getD_eq_getElem?_getD] at this;rw[this];rfl
       · rw[if_neg hk,if_neg hk]
     · simp only[List.length_take,List.length_drop];omega
   · rw[List.getElem_append_right (by omega),List.getElem_replicate];rw[a0B,List.length_take,Nat.min_eq_left hn] at hj
     have:byteL ((bs.drop (8*j)).take 8)=byteL []:=by
      symm
      refine hb _ _ (λ k=>?_) (by simp);simp only[List.getD_eq_getElem?_getD,List.getElem?_take,List.getElem?_drop,List.getElem?_nil]
      by_cases hk:k<8
      · rw[if_pos hk];have:=h (8*j+k) (by omega);rw[List.getD_eq_getElem?_getD] at this;rw[this];rfl
      · rw[if_neg hk]
     rw[this];rfl
theorem c6m {l:List Int} (h:Asc l):dirL l=packB ((dirB l).take (putN l l.length))++List.replicate (32-((putN l l.length)+7)/8) 0:=by
 have hl:=a2L l
 have hn:putN l l.length<=256:=by
  have hp:=h.pos;obtain⟨m,hm2⟩:∃ m,l.length=m+1:=⟨l.length-1,by omega⟩;rw[hm2]
  show(l.getD m 0).toNat+1<=256
  have:=h.hi _ (a1G (show m<l.length by omega));omega
 have:=c6l (dirB l) (putN l l.length) (by omega) (λ k hk=>by
  by_cases hk2:k<256
  · rw[a7W l hk2,decide_eq_false (h.behind hk)]
  · rw[List.getD_eq_getElem?_getD,List.getElem?_eq_none (by omega)];rfl)
 rw[hl] at this;exact this
theorem b6j {b:List Int} (h0:0<b.length):Asc (presN b 256):=by
 refine⟨b6i h0,λ i hi=>?_,λ x hx=>?_,λ x hx=>?_⟩
 · have hp:(presN b 256).Pairwise (· < ·):=by
     unfold presN;rw[List.pairwise_map];refine List.Pairwise.filter _ (List.Pairwise.imp (λ h=>?_) List.pairwise_lt_range);omega
   have:=List.pairwise_iff_getElem.1 hp i (i+1) (by omega) hi (by omega);rw[List.getD_eq_getElem?_getD,List.getElem?_eq_getElem (by omega),List.getD_eq_getElem?_getD,List.getElem?_eq_getElem hi];exact this
 · unfold presN at hx;obtain⟨c,_,rfl⟩:=List.mem_map.1 hx;omega
 · unfold presN at hx;obtain⟨c,hc,rfl⟩:=List.mem_map.1 hx;have:=List.mem_range.1 (List.mem_filter.1 hc).1;omega
open Go.IntWalk Go.Proofs.YtflfjpkmjnnodaaGreatW.PrintWords
theorem b6k {κ:IntKind} {w:World} {A:Option Addr} {xs:List Int} (h:(Kd.int κ).C w A xs.length xs) (k:Nat) (hk:k<=xs.length):(Kd.int κ).C w A k (xs.take k):=by
 obtain⟨h1,h2,h3⟩:=h;refine⟨by rw[List.length_take];omega,by omega,λ h0=>?_⟩;obtain⟨ad,e,hc⟩:=h3 (by omega);refine⟨ad,e,λ j p hj=>hc j p ?_⟩;rw[List.getElem?_take] at hj
 split at hj
 · exact hj
 · cases hj
theorem b6l {lg:Int} {one:Bool} {qs:List (List Int)} {ps:List Int} {n:Int} (hps:∀ x∈ps,0<=x/\x<256):Bytes (decM lg one qs ps n).2:=by
 by_cases h:(decM lg one qs ps n).1=0
 · exact(a7i (z:=(decM lg one qs ps n).2) hps (by rw[<- h])).2.1
 · rw[b0l h];intro x hx;cases hx
theorem c6o {ps:List Int} {n:Int} (hps:Bytes ps):Bytes (dec0M ps n).2:=by
 unfold dec0M
 split
 · intro x hx;cases hx
 · exact b6l (a7Q hps)
theorem BSl.cut {w:World} {A:Option Addr} {c:Nat} {p:List Int} (h:BSl w A c p) {k:Nat} (hk:k<=p.length):BSl w A c (p.take k):=
 ⟨by have:=b6k h.row k hk;rwa [List.length_take,Nat.min_eq_left hk],by rw[List.length_take];have:=h.cap;omega,h.nil,λ x hx=>h.by' x (List.mem_of_mem_take hx)⟩
end Go.Proofs.YtflfjpkmjnnodaaGreat
namespace Go.Proofs.YtflfjpkmjnnodaaGreat
open Go.RowKit
theorem b6m (ps:List Int) (r:Nat):∀ (l:List Int) (qs:List (List Int)) (at_:Nat),(hdrsT ps r l qs at_).2.1.length=qs.length
 | [],_,_=>rfl
 | c :: l,qs,at_=>by
  unfold hdrsT
  split
  · rfl
  · rw[b6m ps r l,List.length_set]
theorem b6n (ps:List Int) (r:Nat):∀ (l:List Int) (qs:List (List Int)) (at_:Nat),at_<=8*ps.length->(hdrsT ps r l qs at_).1=0->(hdrsT ps r l qs at_).2.2<=8*ps.length
 | [],_,_,h,_=>h
 | c :: l,qs,at_,h,h0=>by
  unfold hdrsT at h0 ⊢
  by_cases h1:(hdrT ps (8*ps.length) 257 a0y 0 (2^r) false at_).1≠0
  · rw[if_pos h1] at h0;exact absurd h0 h1
  · rw[if_neg h1] at h0 ⊢;exact b6n ps r l _ _ (a5b _ _ _ _ _ _ h (Classical.not_not.1 h1)) h0
theorem b6o (ps:List Int):(∃ k,k≠0/\a0z ps=(k,0,[],[]))\/∃ r qs m,5<=r/\r<=9/\(qs:List (List Int)).length=256/\a0z ps=(0,r,qs,(ps.drop 33).drop m):=by
 unfold a0z
 by_cases h0:ps.length=0
 · rw[if_pos h0];exact .inl ⟨3,by decide,rfl⟩
 · rw[if_neg h0]
   by_cases h1:(ps.getD 0 0).toNat<5\/9<(ps.getD 0 0).toNat
   · rw[if_pos h1];exact .inl ⟨13,by decide,rfl⟩
   · rw[if_neg h1]
     by_cases hd:(dirT (ps.drop 1)).1≠0
     · rw[if_pos hd];exact .inl ⟨_,hd,rfl⟩
     · rw[if_neg hd];have hl:=b6m (ps.drop 33) (ps.getD 0 0).toNat (dirT (ps.drop 1)).2 a2t 0;obtain⟨H,hH⟩:∃ H,H=hdrsT (ps.drop 33) (ps.getD 0 0).toNat (dirT (ps.drop 1)).2 a2t 0:=⟨_,rfl⟩;rw[<- hH] at hl ⊢
       by_cases h2:H.1≠0
       · rw[if_pos h2];exact .inl ⟨_,h2,rfl⟩
       · rw[if_neg h2]
         by_cases h3:H.2.2%8≠0/\((ps.drop 33).getD (H.2.2/8) 0).toNat/2^(H.2.2%8)≠0
         · rw[if_pos h3];exact .inl ⟨4,by decide,rfl⟩
         · rw[if_neg h3];exact .inr ⟨_,_,_,by omega,by omega,by rw[hl];exact List.length_replicate,rfl⟩
theorem a7X {ps:List Int} (h:Bytes ps):Bytes (a0z ps).2.2.2:=by
 rcases b6o ps with ⟨k,_,e⟩ | ⟨r,q,m,_,_,_,e⟩
 · rw[e];intro x hx;cases hx
 · rw[e];exact λ x hx=>h x (List.mem_of_mem_drop (List.mem_of_mem_drop hx))
theorem a7Y (ps:List Int):(a0z ps).2.2.2.length<=ps.length/\(a0z ps).2.2.1.length<=256:=by
 rcases b6o ps with ⟨k,_,e⟩ | ⟨r,q,m,_,_,h,e⟩
 · rw[e];simp
 · rw[e];exact⟨by simp,by rw[h];exact Nat.le_refl _⟩
theorem c6p {ps:List Int} {n:Int} (hps:Bytes ps):Bytes (dec1M ps n).2:=by
 unfold dec1M
 split
 · intro x hx;cases hx
 · exact b6l (a7X hps)
theorem b0o {x:Int} {l:List Int} (hx:0<=x/\x<256) (hl:Bytes l):Bytes (x :: l):=λ y hy=>by
 rcases List.mem_cons.1 hy with h | h
 · rw[h];exact hx
 · exact hl y h
theorem a5f {a b:List Int} (ha:Bytes a) (hb:Bytes b):Bytes (a++b):=λ y hy=>by
 rcases List.mem_append.1 hy with h | h
 · exact ha y h
 · exact hb y h
theorem b0p (b:List Int):Bytes (a1i b):=by
 unfold a1i;have hr:=a2K b;exact a5f (a5f (a5f (b0o (by omega) (λ x hx=>by cases hx)) (a4n _)) (a4n _)) (a4n _)
theorem c6q {b:List Int} (hb:Bytes b) (hl:b.length<=1000000):∀ (d i:Nat),i+d=(presN b 256).length->(hdrsB (a0r b) (a0C b) ((presN b 256).drop i)).length<=d*3840:=by
 intro d
 induction d with
 | zero=>intro i hi;rw[List.drop_of_length_le (by omega)];simp[hdrsB]
 | succ d ih=>
  intro i hi;have hlt:i<(presN b 256).length:=by omega
  obtain⟨c,hc,hc256,hpk⟩:=a7I b hlt;have hr:=a2K b;have hd:(presN b 256).drop i=(c:Int) :: (presN b 256).drop (i+1):=by rw[a4P _ _ hlt,hc]
  have hq:(a0C b).getD c []=a1l b c:=a7F b hc256;obtain⟨n1,n2,n3⟩:=a7V hb hl hc256 hpk;have e2:(2:Int)^a0r b=((2^a0r b:Nat):Int):=by simp
  have h1:=a3S (r:=a0r b) (by omega) n1 n2 257 0 (2^a0r b) (by omega) (by rw[List.drop_zero,n3,e2]) (by rw[Nat.pow_succ];have:=Nat.two_pow_pos (a0r b);omega);have h2:(256-0)*(a0r b+3)<=256*15:=Nat.mul_le_mul (by omega) (by omega);rw[hd];simp only[hdrsB,Int.toNat_natCast,hq,List.length_append];have:=ih (i+1) (by omega);omega
theorem b6q {b:List Int} (hb:Bytes b) (hl:b.length<=40000) (h0:0<b.length):33<(a1i b).length/\(a1i b).length<=900000:=by
 have HCan:canM (a0r b:Nat) false (a0C b) b=true:=a3R (one:=false) hb (by omega) h0;have hF:=a3O (a3P HCan).1 hb;have h1:=c6q hb (by omega) (presN b 256).length 0 (by omega);have h2:=a4q b 256;rw[List.drop_zero] at h1;unfold a1i;simp only[List.length_append,List.length_singleton,a2Y,a0B];omega
def a1u (b:List Int):Bool:=decide (1<b.length)&&b.all (λ x=>decide (x=b.getD 0 0))
def a1z (kind:Int) (b:List Int):Int×List Int:=
 if ¬ (kind=0\/kind=1)\/131072<b.length\/(kind=1/\a1u b=false) then (1,[]) else if kind=0 then (0,b) else (0,[b.getD 0 0])
def a2m (kind:Int) (body:List Int) (n:Int):Int×List Int:=
 if ¬ (kind=0\/kind=1)\/n<0\/131072<n then (1,[]) else
 if kind=0/\(body.length:Int)≠n\/kind=1/\(body.length≠1\/n<2) then (11,[]) else
 (0,if kind=0 then body else List.replicate n.toNat (body.getD 0 0))
def pickE (kind:Int) (b:List Int):Int×List Int:=
 if kind<0\/3<kind then (10,[]) else if kind<=1 then a1z kind b else
 if b.length=0 then (1,[]) else if kind=2 then (0,a1m b) else (0,a1i b)
def a1f (k:Int) (b:List Int) (x:Int×List Int):Int×List Int:=if (pickE k b).1=0/\(pickE k b).2.length<x.2.length then (k,(pickE k b).2) else x
def bestP (b:List Int):Int×List Int:=a1f 3 b (a1f 2 b (a1f 1 b (0,b)))
def mayB (kind n length:Int):Bool:=if kind=0 then decide (n=length) else if kind=1 then decide (1<n/\length=1) else decide (1<=length/\length<n)
def a0E (kind n length:Int):Int:=if kind<0\/3<kind then 10 else if n<0\/131072<n\/mayB kind n length=false then 11 else 0
def pickD (kind:Int) (body:List Int) (n:Int):Int×List Int:=
 if a0E kind n body.length≠0 then (a0E kind n body.length,[]) else if kind<=1 then a2m kind body n else if kind=2 then dec0M body n else dec1M body n
theorem c6r {k:Int} {b:List Int} (hb:Bytes b):Bytes (a1z k b).2:=by
 unfold a1z
 split
 · intro x hx;cases hx
 · split
   · exact hb
   · exact b0o (hb.get 0) (λ x hx=>by cases hx)
theorem c6s {k:Int} {b:List Int} (hb:Bytes b):Bytes (pickE k b).2:=by
 unfold pickE
 repeat' split
 · intro x hx;cases hx
 · exact c6r hb
 · intro x hx;cases hx
 · exact c5S b
 · exact b0p b
theorem b0q {k:Int} {b:List Int} {x:Int×List Int} (hb:Bytes b) (hx:Bytes x.2):Bytes (a1f k b x).2:=by
 unfold a1f;split
 · exact c6s hb
 · exact hx
theorem a5W {b:List Int} (hb:Bytes b):Bytes (bestP b).2:=b0q hb (b0q hb (b0q hb hb))
theorem a7Z (k:Int) (b:List Int) (x:Int×List Int):(a1f k b x).2.length<=x.2.length/\((pickE k b).1=0->(a1f k b x).2.length<=(pickE k b).2.length):=by
 unfold a1f
 by_cases h:(pickE k b).1=0/\(pickE k b).2.length<x.2.length
 · rw[if_pos h];exact⟨by show(pickE k b).2.length<=_;omega,λ _=>Nat.le_refl _⟩
 · rw[if_neg h];exact⟨Nat.le_refl _,λ h0=>by omega⟩
theorem b0t {b:List Int} (h:a1u b=true):b=List.replicate b.length (b.getD 0 0)/\1<b.length:=by
 unfold a1u at h;simp only[Bool.and_eq_true,decide_eq_true_eq,List.all_eq_true] at h;exact⟨List.eq_replicate_iff.2 ⟨rfl,h.2⟩,h.1⟩
end Go.Proofs.YtflfjpkmjnnodaaGreat
namespace Go.Proofs.YtflfjpkmjnnodaaGreat
open Go.RowKit Go.IntWalk Go.Proofs.YtflfjpkmjnnodaaGreatW.PrintWords
attribute [local go_sem] Oper.semAt_some
def a5g : Code := (Code.region 5 #[{ dst := some 5, op := Op.assign (Operand.tmp 12), type := 3, pos := "dir.go:52", after := #[], guard := none }] false)
def a5h : Code := (Code.block 1 (((Code.region 6 #[{ dst := some 13, op := Op.load 84 (Operand.tmp 4), type := 84, pos := "dir.go:53", after := #[], guard := none }, { dst := some 14, op := Op.call { callee := Callee.builtin Builtin.len, args := #[Operand.tmp 13], argTypes := #[84] }, type := 3, pos := "dir.go:53", after := #[{ on := 0, ground := Ground.data }], guard := none }, { dst := some 15, op := Op.binOp BinOp.eql 3 (Operand.tmp 14) (Operand.const (Value.int IntKind.i64 0)) 3, type := 4, pos := "dir.go:53", after := #[{ on := 1, ground := Ground.data }], guard := none }, { dst := some 16, op := Op.move (Operand.tmp 15), type := 4, pos := "dir.go:53", after := #[{ on := 2, ground := Ground.data }], guard := none }, { dst := some 17, op := Op.move (Operand.tmp 5), type := 3, pos := "dir.go:53", after := #[{ on := 3, ground := Ground.guard }], guard := some (3, true) }, { dst := some 18, op := Op.binOp BinOp.neq 3 (Operand.tmp 17) (Operand.const (Value.int IntKind.i64 0)) 3, type := 4, pos := "dir.go:53", after := #[{ on := 4, ground := Ground.data }, { on := 3, ground := Ground.guard }], guard := some (3, true) }, { dst := some 19, op := Op.pick (Operand.tmp 16) (Operand.tmp 18) (Operand.const (Value.bool false)), type := 4, pos := "dir.go:53", after := #[{ on := 3, ground := Ground.data }, { on := 5, ground := Ground.data }], guard := none }] false).seq (Code.cond (Operand.tmp 19) ((Code.region 7 #[{ dst := none, op := Op.store 84 (Operand.tmp 2) (Operand.const (Value.slice none 0 0)), type := 0, pos := "dir.go:54", after := #[], guard := none }, { dst := none, op := Op.store 27 (Operand.tmp 3) (Operand.const (Value.int IntKind.i64 13)), type := 0, pos := "dir.go:54", after := #[{ on := 0, ground := Ground.chain }, { on := 0, ground := Ground.phase }], guard := none }] false).seq Code.ret) Code.skip)).seq (Code.region 8 #[{ dst := some 20, op := Op.load 84 (Operand.tmp 4), type := 84, pos := "dir.go:56", after := #[], guard := none }, { dst := some 21, op := Op.move (Operand.tmp 5), type := 3, pos := "dir.go:56", after := #[], guard := none }, { dst := some 22, op := Op.buildSlice 84 1 #[(0, Operand.tmp 21)], type := 84, pos := "dir.go:56", after := #[{ on := 1, ground := Ground.data }], guard := none }, { dst := some 23, op := Op.call { callee := Callee.builtin Builtin.append, args := #[Operand.tmp 20, Operand.tmp 22], argTypes := #[84, 84] }, type := 84, pos := "dir.go:56", after := #[{ on := 0, ground := Ground.data }, { on := 2, ground := Ground.data }], guard := none }, { dst := none, op := Op.store 84 (Operand.tmp 4) (Operand.tmp 23), type := 0, pos := "dir.go:56", after := #[{ on := 3, ground := Ground.data }, { on := 3, ground := Ground.chain }, { on := 0, ground := Ground.phase }, { on := 1, ground := Ground.phase }, { on := 2, ground := Ground.phase }, { on := 3, ground := Ground.phase }], guard := none }] false)))
def tkRec (fn:FuncId) (tm:Array Value) (D:Nat) (st:LoopState) (pend:Option Code):Loop:={ state:=st,pending:=pend,fn,tmps:=tm,params:=#[12],assign:=a5g,body:=a5h,defers:=D }
structure Tk (fn:FuncId) (tm:Array Value) (ob D l B0 p:Nat) (W1:World) (ps out:List Int) (at_:Nat) (W:World):Prop where
 rd:RfAt W B0 p ps at_
 v:∃ v,W.heap[ob]?=some (.cells #[v] 84 (0,0))/\W.ownsRow B0 3 1 v out.length (out.map (Value.int .i64))/\(∀ k,v.ownBlock=some k->p<k)
 lp:W.heap[l]?=some (.loop (tkRec fn tm D .ready none))
 on:Only (λ k=>k=ob\/k=l\/B0<=k) W1 W
theorem a3W {W:World} {B:Nat} {e:TypeId} {v:Value} {n:Nat} {xs:List Value} (h:W.ownsRow B e 1 v n xs):∃ A c,v=.slice A n c:=by
 rcases h.2 with ⟨rfl,rfl⟩ | ⟨g,cap,cur,rfl,_⟩
 · exact⟨_,_,rfl⟩
 · exact⟨_,_,rfl⟩
theorem a5i {W W':World} {B:Nat} {e:TypeId} {v:Value} {n:Nat} {xs:List Value} (h:W.ownsRow B e 1 v n xs) (hs:∀ k,v.ownBlock=some k->W'.heap[k]?=W.heap[k]?):W'.ownsRow B e 1 v n xs:=by
 refine⟨h.1,?_⟩;rcases h.2 with h | ⟨g,cap,cur,rfl,hb,hg,rest⟩
 · exact .inl h
 · exact .inr ⟨g,cap,cur,rfl,hb,(hs g rfl).trans hg,rest⟩
theorem RfAt.only {w w':World} {base p:Nat} {ps:List Int} {at_:Nat} {S:Nat->Prop} (h:RfAt w base p ps at_) (ho:Only S w w') (hp:¬ S p) (hs:∀ k,base<=k->k<p->¬ S k):RfAt w' base p ps at_:=by
 obtain⟨A,c,h1,h2⟩:=h.ex;have hb:=λ k hk=>(Kd.R_bound h2).1 k hk;refine⟨A,c,(ho.block p (a0g h1) hp).trans h1,Kd.R_mono (Kd.R_step (Kd.R_tight (d:=Kd.int .u8) rfl h2) (λ k hk hlt=>ho.block k hlt ?_)) (λ k hk=>(hb k hk.symm).1)⟩;have:=hb k hk.symm;exact hs k this.2.1 this.1
def tkTm (A:Option Addr) (n c rb eb ob:Nat) (f v6 v7 v8 v9 v10:Value):Array Value:=#[.slice A n c,undef,.pointer (some ⟨rb,0,none⟩),.pointer (some ⟨eb,0,none⟩),.pointer (some ⟨ob,0,none⟩),undef,v6,v7,v8,v9,v10,f,undef,undef,undef,undef,undef,undef,undef,undef,undef,undef,undef,undef,undef,undef,undef,undef]
theorem Only.putObj {S:Nat->Prop} {a b:World} {l:Nat} (h:Only S a b) (hl:S l) (o:Obj):Only S a (b.putObj l o):=
 h.trans ⟨rfl,rfl,rfl,by simp,λ k _ hn=>World.putObj_heap_other (λ e=>hn (e ▸ hl))⟩
theorem Only.grown {S:Nat->Prop} {a b c:World} {row:Option Nat} (h:Only S a b) (hg:b.grownBy c row) (hs:∀ k,row=some k->S k):Only S a c:=h.trans (Only.of_grown hg hs)
theorem tkEnd {fn:FuncId} {A:Option Addr} {n c rb eb ob D l B0 p:Nat} {f v6 v7 v8 v9 v10:Value} {W1 W W2 w1:World} {ps out:List Int} {at_ k:Nat} {lit:Obj} {Av:Option Addr} {cv g' cap':Nat}
    (hp:B0<=p) (hob:(Value.slice Av out.length cv).ownBlock=some ob->False) (ho:ob<l) (hl:l<B0) (hs2:p<W2.heap.size) (h:Tk fn (tkTm A n c rb eb ob f v6 v7 v8 v9 v10) ob D l B0 p W1 ps out at_ W)
    (hlp2:W2.heap[l]?=some (.loop { tkRec fn (tkTm A n c rb eb ob f v6 v7 v8 v9 v10) D .ready none with state:=.busy })) (hon2:Only (λ k=>k=ob\/k=l\/p<k) W W2)
    (hok:∀ k,(Value.slice Av out.length cv).ownBlock=some k->p<k) (hv2:W2.heap[ob]?=some (.cells #[.slice Av out.length cv] 84 (0,0)))
    (hown':w1.ownsRow B0 3 1 (.slice (some ⟨g',0,none⟩) (out.length+1) cap') (out.length+1) (out.map (Value.int .i64)++[.int .i64 k])) (hgrow:(W2.alloc lit).grownBy w1 (Value.slice Av out.length cv).ownBlock)
    (hat:(Value.slice (some ⟨g',0,none⟩) (out.length+1) cap').ownBlock=(Value.slice Av out.length cv).ownBlock\/(Value.slice (some ⟨g',0,none⟩) (out.length+1) cap').ownBlock=some (W2.alloc lit).heap.size) :
    ∃ v w',(Instr.endRound l none).run Tryz.prog (w1.setCell ⟨ob,0,none⟩ (.slice (some ⟨g',0,none⟩) (out.length+1) cap'))=.ok v w'/\(Ending.returned v=.returned (.bool true)/\Tk fn (tkTm A n c rb eb ob f v6 v7 v8 v9 v10) ob D l B0 p W1 ps (out++[(k:Int)]) at_ w'/\p<w'.heap.size):=by
 have hg:p<g':=by
  rcases hat with e | e
  · exact hok g' (by rw[<- e];rfl)
  · have:g'=(W2.alloc lit).heap.size:=by injection e
    rw[this];simp;omega
 obtain⟨W3,hW3⟩:∃ W3,W3=w1.setCell ⟨ob,0,none⟩ (.slice (some ⟨g',0,none⟩) (out.length+1) cap'):=⟨_,rfl⟩;have hon1:Only (λ k=>k=ob\/k=l\/p<k) W w1:=(hon2.alloc lit).grown hgrow (λ k hk=>.inr (.inr (hok k hk)));have hon3:Only (λ k=>k=ob\/k=l\/p<k) W W3:=by rw[hW3];exact hon1.setCell (p:=⟨ob,0,none⟩) (.inl rfl) _
 have hv1:w1.heap[ob]?=some (.cells #[.slice Av out.length cv] 84 (0,0)):=a1g (a0o hv2 _) hgrow (λ e=>hob e.symm);have hv3:W3.heap[ob]?=some (.cells #[.slice (some ⟨g',0,none⟩) (out.length+1) cap'] 84 (0,0)):=by rw[hW3];exact(a0x hv1 0 _).trans rfl
 have hl1:w1.heap[l]?=some (.loop { tkRec fn (tkTm A n c rb eb ob f v6 v7 v8 v9 v10) D .ready none with state:=.busy }):=a1g (a0o hlp2 _) hgrow (λ e=>by have:=hok l e.symm;omega);have hl3:W3.heap[l]?=some (.loop { tkRec fn (tkTm A n c rb eb ob f v6 v7 v8 v9 v10) D .ready none with state:=.busy }):=by rw[hW3];exact(Below.heap_setCell _ ⟨ob,0,none⟩ _ l (by show l≠ob;omega)).trans hl1
 have hown3:W3.ownsRow B0 3 1 (.slice (some ⟨g',0,none⟩) (out.length+1) cap') (out.length+1) (out.map (Value.int .i64)++[.int .i64 k]):=a5i hown' (λ j hj=>by
  have:j=g':=by injection hj with e;exact e.symm
  rw[hW3];exact Below.heap_setCell _ ⟨ob,0,none⟩ _ j (by show j≠ob;omega))
 have hs3:p<W3.heap.size:=by
  have h1:=hgrow.size;have h2:W3.heap.size=w1.heap.size:=by rw[hW3];simp[World.setCell]
  simp at h1;omega
 have hsl:=a0g hl3;rw[<- hW3];clear hW3;refine⟨_,_,run_endRound none hl3,rfl,?_,by simpa using hs3⟩;have hon4:Only (λ k=>k=ob\/k=l\/p<k) W (W3.putObj l (.loop { tkRec fn (tkTm A n c rb eb ob f v6 v7 v8 v9 v10) D .ready none with state:=if (none:Option Code).isNone then .ready else .done,pending:=none })):=hon3.putObj (.inr (.inl rfl)) _;refine⟨h.rd.only hon4 (λ h=>by omega) (λ k hB hk h=>by omega),⟨_,(World.putObj_heap_other (by omega)).trans hv3,?_,λ j hj=>?_⟩,World.putObj_heap_same hsl,h.on.trans2 hon4 (λ k _ h=>by omega)⟩
 · rw[List.length_append,List.map_append]
   exact a5i hown3 (λ j hj=>by
    have:j=g':=by injection hj with e;exact e.symm
    exact World.putObj_heap_other (by omega))
 · have:j=g':=by injection hj with e;exact e.symm
   omega
theorem c6y (m:Nat) (fn:FuncId) (A:Option Addr) (n c rb eb ob D l B0 p:Nat) (f v6 v7 v8 v9 v10:Value) (W1:World) (ps out:List Int) (at_:Nat) (W:World) (h:Tk fn (tkTm A n c rb eb ob f v6 v7 v8 v9 v10) ob D l B0 p W1 ps out at_ W) (k:Nat) (hol:out.length<=256) (hgo:((out.length:Int)==0)=false\/(k=0/\out=[]))
    (ho:ob<l) (hl:l<B0) (hp:B0<=p) (hW:p<W.heap.size) :
    RoundIn Fence.wide m Tryz.prog l fn #[.slice A n c,undef,.pointer (some ⟨rb,0,none⟩),.pointer (some ⟨eb,0,none⟩),.pointer (some ⟨ob,0,none⟩),undef,v6,v7,v8,v9,v10,f,.int .i64 k,undef,undef,undef,undef,undef,undef,undef,undef,undef,undef,undef,undef,undef,undef,undef] a5g a5h W
     λ e W'=>e=.returned (.bool true)/\Tk fn (tkTm A n c rb eb ob f v6 v7 v8 v9 v10) ob D l B0 p W1 ps (out++[(k:Int)]) at_ W'/\p<W'.heap.size:=by
 refine roundIn_of_wpIn trivial ?_;have hll:l<W.heap.size:=a0g h.lp;have hbr:=run_beginRound (P:=Tryz.prog) h.lp rfl;have hlp2:(W.putObj l (.loop { tkRec fn (tkTm A n c rb eb ob f v6 v7 v8 v9 v10) D .ready none with state:=.busy })).heap[l]?=some (.loop { tkRec fn (tkTm A n c rb eb ob f v6 v7 v8 v9 v10) D .ready none with state:=.busy }):=World.putObj_heap_same hll;have hon2:Only (λ k=>k=ob\/k=l\/p<k) W (W.putObj l (.loop { tkRec fn (tkTm A n c rb eb ob f v6 v7 v8 v9 v10) D .ready none with state:=.busy })):=(Only.refl _ W).putObj (.inr (.inl rfl)) _;obtain⟨W2,hW2⟩:∃ W2,W.putObj l (.loop { tkRec fn (tkTm A n c rb eb ob f v6 v7 v8 v9 v10) D .ready none with state:=.busy })=W2:=⟨_,rfl⟩;rw[hW2] at hbr hlp2 hon2;obtain⟨v,hv,hown,hok⟩:=h.v;obtain⟨Av,cv,rfl⟩:=a3W hown;have hv2:W2.heap[ob]?=some (.cells #[.slice Av out.length cv] 84 (0,0)):=by rw[<- hW2];exact(World.putObj_heap_other (by omega)).trans hv
 have hown2:W2.ownsRow B0 3 1 (.slice Av out.length cv) out.length (out.map (Value.int .i64)):=a5i hown (λ k hk=>by rw[<- hW2];exact World.putObj_heap_other (by have:=hok k hk;omega));have hs2:p<W2.heap.size:=by rw[<- hW2];simpa using hW
 have hc2:W2.cell? ⟨ob,0,none⟩=some (.slice Av out.length cv):=(a0a hv2 0).trans rfl;have hf2:W2.frozen? ⟨ob,0,none⟩=false:=a0e hv2 0;have HT:=Lib.hid h;have HF:=Lib.hid (And.intro hv2 (And.intro hok (And.intro hlp2 hon2)));obtain⟨i0,hi,hz0,hz1,hz2⟩:=info_parts a4h;clear hW2 h hv hown hlp2 hon2 hv2 hok;unfold a5g
 gi_wp2
 clear hbr;unfold a5h;rcases hgo with hgo | ⟨hgo,hgo2⟩
 · gi_wp2_with (gi_at_builtin;refine wpListIn_append_own_at _ rfl (.tmp 20) (.tmp 22) 84 rfl B0 3 i0 (.int .i64 0) 1 8 Tryz.underlying84 hi hz0 hz1 hz2 rfl (by decide) (.slice Av out.length cv) out.length (out.map (Value.int .i64)) rfl (hown2.alloc _) ⟨W2.heap.size,0,none⟩ 1 1 [.int .i64 k] rfl rfl (cell_one_new _ _ _) (by simp[Value.oneCell']) (by unfold maxLen;omega) (by omega) (by simp;omega) ?_;intro v' w1 hown' hgrow _ hat;obtain⟨g',cap',rfl⟩:=ownsRow_succ hown';have HA:=Lib.hid (And.intro hown' (And.intro hgrow hat));have hv3:=a1g (a0o HF.out.1 _) hgrow (λ e=>by have:=HF.out.2.1 _ e.symm;omega);have hc3:=(a0a hv3 0).trans rfl;have hf3:=a0e hv3 0;clear hown' hgrow hat hv3)
   exact tkEnd hp (λ e=>by have:=HF.out.2.1 _ e;omega) ho hl hs2 HT.out HF.out.2.2.1 HF.out.2.2.2 (λ k hk=>HF.out.2.1 k hk) HF.out.1 HA.out.1 HA.out.2.1 HA.out.2.2
 · subst hgo hgo2;have hown2:W2.ownsRow B0 3 1 (.slice Av 0 cv) 0 []:=hown2
   gi_wp2_with (gi_at_builtin;refine wpListIn_append_own_at _ rfl (.tmp 20) (.tmp 22) 84 rfl B0 3 i0 (.int .i64 0) 1 8 Tryz.underlying84 hi hz0 hz1 hz2 rfl (by decide) (.slice Av 0 cv) 0 [] rfl (hown2.alloc _) ⟨W2.heap.size,0,none⟩ 1 1 [.int .i64 0] rfl rfl (cell_one_new _ _ _) (by simp[Value.oneCell']) (by unfold maxLen;omega) (by omega) (by simp;omega) ?_;intro v' w1 hown' hgrow _ hat;obtain⟨g',cap',rfl⟩:=ownsRow_succ hown';have HA:=Lib.hid (And.intro hown' (And.intro hgrow hat));have hv3:=a1g (a0o HF.out.1 _) hgrow (λ e=>by have:=HF.out.2.1 _ e.symm;omega);have hc3:=(a0a hv3 0).trans rfl;have hf3:=a0e hv3 0;clear hown' hgrow hat hv3)
   exact tkEnd hp (λ e=>by have:=HF.out.2.1 _ e;omega) ho hl hs2 HT.out HF.out.2.2.1 HF.out.2.2.2 (λ k hk=>HF.out.2.1 k hk) HF.out.1 HA.out.1 HA.out.2.1 HA.out.2.2
structure TkX (fn:FuncId) (tm:Array Value) (rb eb ob D l B0:Nat) (W1:World) (W:World):Prop where
 lp:W.heap[l]?=some (.loop (tkRec fn tm D .done (some .ret)))
 r0:W.heap[rb]?=some (.cells #[.slice none 0 0] 84 (0,0))
 r1:W.heap[eb]?=some (.cells #[.int .i64 13] 27 (0,0))
 on:Only (λ k=>k=ob\/k=l\/k=rb\/k=eb\/B0<=k) W1 W
theorem c6z (m:Nat) (fn:FuncId) (A:Option Addr) (n c rb eb ob D l B0 p:Nat) (f v6 v7 v8 v9 v10:Value) (W1:World) (ps:List Int) (at_:Nat) (W:World) (h:Tk fn (tkTm A n c rb eb ob f v6 v7 v8 v9 v10) ob D l B0 p W1 ps [] at_ W) (k:Nat) (hk:k≠0)
    (hr:W1.heap[rb]?=some (.cells #[.slice none 0 0] 84 (0,0))) (he:W1.heap[eb]?=some (.cells #[.int .i64 0] 27 (0,0)))
    (h1:rb<eb) (h2:eb<ob) (ho:ob<l) (hl:l<B0) :
    RoundIn Fence.wide m Tryz.prog l fn #[.slice A n c,undef,.pointer (some ⟨rb,0,none⟩),.pointer (some ⟨eb,0,none⟩),.pointer (some ⟨ob,0,none⟩),undef,v6,v7,v8,v9,v10,f,.int .i64 k,undef,undef,undef,undef,undef,undef,undef,undef,undef,undef,undef,undef,undef,undef,undef] a5g a5h W
     λ e W'=>e=.returned (.bool false)/\TkX fn (tkTm A n c rb eb ob f v6 v7 v8 v9 v10) rb eb ob D l B0 W1 W':=by
 refine roundIn_of_wpIn trivial ?_;have hll:l<W.heap.size:=a0g h.lp;have hbr:=run_beginRound (P:=Tryz.prog) h.lp rfl;have hlp2:(W.putObj l (.loop { tkRec fn (tkTm A n c rb eb ob f v6 v7 v8 v9 v10) D .ready none with state:=.busy })).heap[l]?=some (.loop { tkRec fn (tkTm A n c rb eb ob f v6 v7 v8 v9 v10) D .ready none with state:=.busy }):=World.putObj_heap_same hll;have hon2:Only (λ k=>k=ob\/k=l\/k=rb\/k=eb\/B0<=k) W1 (W.putObj l (.loop { tkRec fn (tkTm A n c rb eb ob f v6 v7 v8 v9 v10) D .ready none with state:=.busy })):=(h.on.mono (λ k _ hk=>by omega)).putObj (.inr (.inl rfl)) _;have hr0:W.heap[rb]?=some (.cells #[.slice none 0 0] 84 (0,0)):=(h.on.block rb (a0g hr) (by omega)).trans hr;have he0:W.heap[eb]?=some (.cells #[.int .i64 0] 27 (0,0)):=(h.on.block eb (a0g he) (by omega)).trans he;obtain⟨W2,hW2⟩:∃ W2,W.putObj l (.loop { tkRec fn (tkTm A n c rb eb ob f v6 v7 v8 v9 v10) D .ready none with state:=.busy })=W2:=⟨_,rfl⟩;rw[hW2] at hbr hlp2 hon2;obtain⟨v,hv,hown,hok⟩:=h.v;obtain⟨Av,cv,rfl⟩:=a3W hown;have hv2:W2.heap[ob]?=some (.cells #[.slice Av 0 cv] 84 (0,0)):=by rw[<- hW2];exact(World.putObj_heap_other (by omega)).trans hv
 have hr2:W2.heap[rb]?=some (.cells #[.slice none 0 0] 84 (0,0)):=by rw[<- hW2];exact(World.putObj_heap_other (by omega)).trans hr0
 have he2:W2.heap[eb]?=some (.cells #[.int .i64 0] 27 (0,0)):=by rw[<- hW2];exact(World.putObj_heap_other (by omega)).trans he0
 have hc2:W2.cell? ⟨ob,0,none⟩=some (.slice Av 0 cv):=(a0a hv2 0).trans rfl;have hcr:W2.cell? ⟨rb,0,none⟩=some (.slice none 0 0):=(a0a hr2 0).trans rfl;have hce:W2.cell? ⟨eb,0,none⟩=some (.int .i64 0):=(a0a he2 0).trans rfl;have hfr:W2.frozen? ⟨rb,0,none⟩=false:=a0e hr2 0;have hfe:W2.frozen? ⟨eb,0,none⟩=false:=a0e he2 0;have HF:=Lib.hid (And.intro hr2 (And.intro he2 (And.intro hlp2 hon2)));have hkz:((k:Int)!=0)=true:=by simpa using hk
 have hre:rb≠eb:=by omega
 clear hW2 h hv hown hlp2 hon2 hv2 hok hr2 he2 hr0 he0 hr he;unfold a5g
 gi_wp2
 clear hbr;unfold a5h
 gi_wp2
 have H3:((W2.setCell ⟨rb,0,none⟩ (.slice none 0 0)).setCell ⟨eb,0,none⟩ (.int .i64 13)).heap[l]?=some (.loop { tkRec fn (tkTm A n c rb eb ob f v6 v7 v8 v9 v10) D .ready none with state:=.busy }):=
  (Below.heap_setCell _ ⟨eb,0,none⟩ _ l (by show l≠eb;omega)).trans ((Below.heap_setCell _ ⟨rb,0,none⟩ _ l (by show l≠rb;omega)).trans HF.out.2.2.1)
 have H4:((W2.setCell ⟨rb,0,none⟩ (.slice none 0 0)).setCell ⟨eb,0,none⟩ (.int .i64 13)).heap[rb]?=some (.cells #[.slice none 0 0] 84 (0,0)):=
  (Below.heap_setCell _ ⟨eb,0,none⟩ _ rb (by show rb≠eb;omega)).trans ((a0x HF.out.1 0 _).trans rfl)
 have H5:((W2.setCell ⟨rb,0,none⟩ (.slice none 0 0)).setCell ⟨eb,0,none⟩ (.int .i64 13)).heap[eb]?=some (.cells #[.int .i64 13] 27 (0,0)):=
  (a0x ((Below.heap_setCell _ ⟨rb,0,none⟩ _ eb (by show eb≠rb;omega)).trans HF.out.2.1) 0 _).trans rfl
 exact⟨_,_,run_endRound (some .ret) H3,rfl,World.putObj_heap_same (a0g H3),(World.putObj_heap_other (by omega)).trans H4,(World.putObj_heap_other (by omega)).trans H5,
  ((HF.out.2.2.2.setCell (p:=⟨rb,0,none⟩) (.inr (.inr (.inl rfl))) _).setCell (p:=⟨eb,0,none⟩) (.inr (.inr (.inr (.inl rfl)))) _).putObj (.inr (.inl rfl)) _⟩
end Go.Proofs.YtflfjpkmjnnodaaGreat
namespace Go.Proofs.YtflfjpkmjnnodaaGreat
open Go.RowKit Go.IntWalk Go.Proofs.YtflfjpkmjnnodaaGreatW.PrintWords
attribute [local go_sem] Oper.semAt_some
theorem c6A (ps:List Int) (c:Nat):takeF ps c 1=bitI ps c:=by
 rw[a2X];have:takeF ps c 0=0:=rfl;rw[this];simp
theorem c6B (ps:List Int) (c:Nat):bitI ps c<2:=by unfold bitI;omega
theorem b0z (ps:List Int) (k:Nat):∀ m,k<=m->onesN ps k≠[]->(onesN ps m).getD 0 1=(onesN ps k).getD 0 1
 | 0,h,_=>by have:k=0:=by omega
             rw[this]
 | m+1,h,hne=>by
  by_cases e:k=m+1
  · rw[e]
  · have ih:=b0z ps k m (by omega) hne;rw[a4s]
    split
    · rw[<- ih]
      cases hm:onesN ps m with
      | nil=>
       rw[hm] at ih
       cases hk:onesN ps k with
       | nil=>exact absurd hk hne
       | cons x l=>
        exfalso;have hx:x∈onesN ps k:=by rw[hk];exact List.mem_cons_self
        obtain⟨c,rfl,h1,h2⟩:=a7U hx
        have:(c:Int)∈onesN ps m:=by
         unfold onesN;exact List.mem_map.2 ⟨c,List.mem_filter.2 ⟨List.mem_range.2 (by omega),decide_eq_true h2⟩,rfl⟩
        rw[hm] at this;cases this
      | cons x l=>rfl
    · exact ih
theorem Tk.taken {fn:FuncId} {tm:Array Value} {ob D l B0 p:Nat} {W1 W W':World} {ps out:List Int} {at_ at':Nat} (h:Tk fn tm ob D l B0 p W1 ps out at_ W) (hr:RfAt W' B0 p ps at') (ho:Only (λ k=>k=p) W W') (h1:ob<B0) (h2:l<B0) (hp:B0<=p):Tk fn tm ob D l B0 p W1 ps out at' W':=by
 obtain⟨v,hv,hown,hok⟩:=h.v;refine⟨hr,⟨v,(ho.block ob (a0g hv) (by omega)).trans hv,a5i hown (λ k hk=>?_),hok⟩,(ho.block l (a0g h.lp) (by omega)).trans h.lp,h.on.trans2 ho (λ k _ hk=>by omega)⟩;have:=hok k hk
 by_cases hlt:k<W.heap.size
 · exact ho.block k hlt (by omega)
 · rcases hown.2 with ⟨rfl,_⟩ | ⟨g,cap,cur,rfl,_,hg,_⟩
   · cases hk
   · have:g=k:=by injection hk
     subst this;exact absurd (a0g hg) hlt
def b6v (fn:FuncId) (tm:Array Value) (rb eb ob D l B0:Nat) (W1:World) (ps:List Int) (e:Ending) (W':World):Prop:=
 (∃ v,e=.returned v)/\((∃ p at_,B0<=p/\Tk fn tm ob D l B0 p W1 ps (onesN ps 256) at_ W'/\(onesN ps 256=[]\/(onesN ps 256).getD 0 1=0))\/(TkX fn tm rb eb ob D l B0 W1 W'/\onesN ps 256≠[]/\(onesN ps 256).getD 0 1≠0))
theorem c6C (m:Nat) (fn:FuncId) (A:Option Addr) (n c rb eb ob D l pb:Nat) (f v6 v7 v8 v9 v10:Value) (W1:World) (ad:Addr) (cs:Nat) (ps:List Int) (hlen:ps.length=32) (hps:Bytes ps) (hcs:32<=cs)
    (hpb:W1.heap[pb]?=some (.cells #[.slice (some ad) 32 cs] 22 (0,0))) (hC:(Kd.int .u8).C W1 (some ad) ps.length ps)
    (hlp:W1.heap[l]?=some (.loop (tkRec fn (tkTm A n c rb eb ob f v6 v7 v8 v9 v10) D .ready none))) (hv:W1.heap[ob]?=some (.cells #[.slice none 0 0] 84 (0,0)))
    (hr:W1.heap[rb]?=some (.cells #[.slice none 0 0] 84 (0,0))) (he:W1.heap[eb]?=some (.cells #[.int .i64 0] 27 (0,0)))
    (h1:rb<eb) (h2:eb<ob) (ho:ob<l) :
    CallsIn Fence.wide m Tryz.prog 156 #[.func (.yield l) #[] #[],.pointer (some ⟨pb,0,none⟩)] W1 (b6v fn (tkTm A n c rb eb ob f v6 v7 v8 v9 v10) rb eb ob D l W1.heap.size W1 ps):=by
 have hl:=a0g hlp;have hcell:W1.cell? ⟨pb,0,none⟩=some (.slice (some ad) 32 cs):=(a0a hpb 0).trans rfl;have HNew:=Lib.hid (a9X (some ad) cs ps W1 hC (by omega) (by omega) (λ h=>by cases h));rw[hlen] at HNew;have H0:=Lib.hid (And.intro hlp (And.intro hv (And.intro hr (And.intro he (And.intro hlen hps)))));clear hC hlp hv hr he hpb hlen hps;refine callsIn_of_wp Tryz.func156 rfl trivial ?_ rfl;simp only[Tryz.ntmps156,List.size_toArray,List.length_cons,List.length_nil,Nat.reduceAdd,Nat.reduceSub,Array.replicate_succ,Array.replicate_zero,List.push_toArray,List.append_toArray,List.nil_append,List.cons_append]
 gi_wp2
 refine⟨trivial,λ h=>(by cases h),(callsIn_wide.2 HNew.out).mono ?_⟩;rintro e w2 ⟨p,rfl,hp,hrd,hb⟩
 have HT:Hid (Tk fn (tkTm A n c rb eb ob f v6 v7 v8 v9 v10) ob D l W1.heap.size p W1 ps (onesN ps 0) 0 w2):=Lib.hid
  ⟨hrd,⟨_,a0h H0.out.2.1 hb,⟨rfl,.inl ⟨rfl,rfl⟩⟩,λ k hk=>by cases hk⟩,a0h H0.out.1 hb,Only.of_below hb⟩
 have HP:Hid (W1.heap.size<=p/\p<w2.heap.size):=by
  obtain⟨_,_,hx,_⟩:=hrd.ex;exact Lib.hid ⟨hp,a0g hx⟩
 clear hb hrd hp hcell
 gi_wp2
 gi_loopw [4,5,6,9] (λ _ _ _ kv wr=>∃ k:Nat,k<=256/\kv=.int .i64 k/\Hid (Tk fn (tkTm A n c rb eb ob f v6 v7 v8 v9 v10) ob D l W1.heap.size p W1 ps (onesN ps k) k wr/\p<wr.heap.size/\(onesN ps k=[]\/(onesN ps k).getD 0 1=0))) (λ _ _ _ kv _=>256-(intOf kv).toNat)
 case atStart=>exact⟨0,by omega,rfl,Lib.hid ⟨HT.out,HP.out.2,.inl rfl⟩⟩
 case round=>
  obtain⟨k,hk,rfl,H⟩:=hrel
  by_cases hlt:k<256
  · have hI:(k:Int)<256:=by omega
    have HTk:=a7K W1.heap.size p ps k 1 wr H.out.1.rd H0.out.2.2.2.2.2 (by have:=H0.out.2.2.2.2.1;omega) (by have:=H0.out.2.2.2.2.1;omega) (by decide);rw[show((1:Nat):Int)=1 from rfl] at HTk;have HTk:=Lib.hid HTk
    gi_wp2
    refine⟨trivial,λ h=>(by cases h),(callsIn_wide.2 HTk.out).mono ?_⟩;rintro e w3 ⟨ht,_,hon⟩;obtain⟨rfl,hrd⟩:=ht (by have:=H0.out.2.2.2.2.1;omega);have HT3:=Lib.hid (H.out.1.taken hrd hon (by have:=a0g H0.out.2.1;omega) hl HP.out.1);have HS3:=Lib.hid (Nat.lt_of_lt_of_le H.out.2.1 hon.size);rw[c6A];clear hon hrd ht HTk;have hb2:=c6B ps k
    by_cases hbit:bitI ps k=1
    · rw[hbit]
      have hy:(Instr.yield l #[.int .i64 k]).run Tryz.prog w3=.ok (.round l fn #[.slice A n c,undef,.pointer (some ⟨rb,0,none⟩),.pointer (some ⟨eb,0,none⟩),.pointer (some ⟨ob,0,none⟩),undef,v6,v7,v8,v9,v10,f,.int .i64 k,undef,undef,undef,undef,undef,undef,undef,undef,undef,undef,undef,undef,undef,undef,undef] a5g a5h) w3:=by
       simpa [tkRec,tkTm] using run_yield (P:=Tryz.prog) (args:=#[.int .i64 k]) HT3.out.lp rfl
      gi_wp2
      have hol:=a7T ps k;have hob:=a0g H0.out.2.1
      by_cases hst:onesN ps k=[]/\k≠0
      · have hT3:=HT3.out;rw[hst.1] at hT3;refine⟨λ h=>(by cases h),(c6z (m-1) fn A n c rb eb ob D l W1.heap.size p f v6 v7 v8 v9 v10 W1 ps (k+1) w3 hT3 k hst.2 H0.out.2.2.1 H0.out.2.2.2.1 h1 h2 ho hl).mono ?_⟩;rintro e w4 ⟨rfl,hx⟩;have HX:=Lib.hid hx
        have HE:Hid (onesN ps 256≠[]/\(onesN ps 256).getD 0 1≠0):=by
         have e1:onesN ps (k+1)=[(k:Int)]:=by rw[a4s,if_pos hbit,hst.1];rfl
         have e2:=b0z ps (k+1) 256 (by omega) (by rw[e1];simp);rw[e1] at e2;refine Lib.hid ⟨λ e=>?_,?_⟩
         · rw[e] at e2;have e3:(1:Int)=(k:Int):=e2
           have:(k:Int)∈onesN ps 256:=by
            unfold onesN;exact List.mem_map.2 ⟨k,List.mem_filter.2 ⟨List.mem_range.2 hlt,decide_eq_true hbit⟩,rfl⟩
           rw[e] at this;cases this
         · rw[e2];show((k:Int))≠0;have:=hst.2;omega
        clear hx hst hy hT3
        gi_wp2
        go_end0;exact⟨⟨_,rfl⟩,.inr ⟨HX.out,HE.out⟩⟩
      · have hgo:(((onesN ps k).length:Int)==0)=false\/(k=0/\onesN ps k=[]):=by
          by_cases e:onesN ps k=[]
          · exact .inr ⟨by
              by_cases e0:k=0
              · exact e0
              · exact absurd ⟨e,e0⟩ hst,e⟩
          · refine .inl ?_;simp;exact e
        have HE:Hid ((onesN ps (k+1)).getD 0 1=0):=by
         rcases H.out.2.2 with e | e
         · have k0:k=0:=by
             by_cases e0:k=0
             · exact e0
             · exact absurd ⟨e,e0⟩ hst
           rw[a4s,if_pos hbit,e,k0];exact Lib.hid rfl
         · have hne:onesN ps k≠[]:=λ h=>by rw[h] at e;exact absurd e (by decide)
           rw[b0z ps k (k+1) (by omega) hne];exact Lib.hid e
        refine⟨λ h=>(by cases h),(c6y (m-1) fn A n c rb eb ob D l W1.heap.size p f v6 v7 v8 v9 v10 W1 ps (onesN ps k) (k+1) w3 HT3.out k (by omega) hgo ho hl HP.out.1 HS3.out).mono ?_⟩;rintro e w4 ⟨rfl,hx,hs4⟩
        have HX:Hid (Tk fn (tkTm A n c rb eb ob f v6 v7 v8 v9 v10) ob D l W1.heap.size p W1 ps (onesN ps (k+1)) (k+1) w4/\p<w4.heap.size):=by
         rw[a4s,if_pos hbit];exact Lib.hid ⟨hx,hs4⟩
        clear hx hs4 hst hgo hy
        gi_wp2
        go_roundw
        case rel=>exact⟨k+1,by omega,by go_num,Lib.hid ⟨HX.out.1,HX.out.2,.inr HE.out⟩⟩
        case measure=>simp[intOf];omega
    · have h0:bitI ps k=0:=by omega
      rw[h0];have HN:=Lib.hid (show onesN ps (k+1)=onesN ps k from by rw[a4s,if_neg hbit]);clear hbit h0 hb2
      gi_wp2
      refine⟨λ _ h=>(by cases h),?_⟩
      gi_wp2
      go_roundw
      case rel=>exact⟨k+1,by omega,by go_num,Lib.hid (by rw[HN.out];exact⟨by have:=HT3.out;exact this,HS3.out,H.out.2.2⟩)⟩
      case measure=>simp[intOf];omega
  · obtain rfl:k=256:=by omega
    gi_wp2
    go_end0;exact⟨⟨_,rfl⟩,.inl ⟨p,256,HP.out.1,H.out.1,H.out.2.2⟩⟩
end Go.Proofs.YtflfjpkmjnnodaaGreat
namespace Go.Proofs.YtflfjpkmjnnodaaGreat
open Go.RowKit Go.IntWalk Go.Proofs.YtflfjpkmjnnodaaGreatW.PrintWords
attribute [local go_sem] Oper.semAt_some
theorem b6w {fn:Func} {p q:Tmp} {t u:TypeId} (h:fn.results = #[.cell p t,.cell q u]) (tmps:Array Value) (w:World) (g k:Nat) (v x:Value)
    (hp:tmps.getD p undef=.pointer (some ⟨g,0,none⟩)) (hq:tmps.getD q undef=.pointer (some ⟨k,0,none⟩)) (hl:(loadVar t ⟨g,0,none⟩).run Tryz.prog w=.ok v w) (hm:(loadVar u ⟨k,0,none⟩).run Tryz.prog w=.ok x w) :
    (results fn tmps).run Tryz.prog w=.ok (.tuple #[v,x]) w:=by
 have hp':tmps[p]?.getD undef=.pointer (some ⟨g,0,none⟩):=by simpa using hp
 have hq':tmps[q]?.getD undef=.pointer (some ⟨k,0,none⟩):=by simpa using hq
 simp[results,h,hp',hq',asAddr,hl,hm]
theorem b6x {w:World} {g:Nat} {v:Value} (h:w.heap[g]?=some (.cells #[v] 84 (0,0))):(loadVar 84 ⟨g,0,none⟩).run Tryz.prog w=.ok v w:=by
 have hc:w.cell? ⟨g,0,none⟩=some v:=(a0a h 0).trans rfl;simp[go_sem,hc]
theorem b6y {w:World} {g:Nat} {v:Value} (h:w.heap[g]?=some (.cells #[v] 27 (0,0))):(loadVar 27 ⟨g,0,none⟩).run Tryz.prog w=.ok v w:=by
 have hc:w.cell? ⟨g,0,none⟩=some v:=(a0a h 0).trans rfl;simp[go_sem,hc]
def a2u (b:List Int) (w:World) (e:Ending) (w':World):Prop:=
 ∃ v,e=.returned (.tuple #[v,.int .i64 (dirT b).1])/\(Kd.int .i64).R 3 w' w.heap.size (λ _=>True) v (dirT b).2/\Below w.heap.size w w'
theorem c6D (A:Option Addr) (c:Nat) (b:List Int) (w:World) (hl:b.length<32) :
    Calls Tryz.prog 64 #[.slice A b.length c] w (a2u b w):=by
 have hI:(b.length:Int)<32:=by omega
 have HL:=Lib.hid hl;clear hl;go_enter Tryz.func64,Tryz.ntmps64;go_wp2_with fail;refine bodyPost_ret (b6w (fn:=Tryz.f64) (p:=2) (q:=3) (t:=84) (u:=27) rfl _ _ _ _ _ _ rfl rfl (b6x (a0o (a0i _ _) _)) (b6y (a2l _ _ _))) rfl ?_;have e:dirT b=(3,[]):=by unfold dirT;rw[if_pos HL.out]
 unfold a2u;rw[e];exact⟨_,rfl,Kd.R_nil _ _ _ _ _,((Below.refl w.heap.size w).alloc (Nat.le_refl _) _).alloc (by simp) _⟩
theorem c6E (A:Option Addr) (n c:Nat) (w:World) :
    Calls Tryz.prog 105 #[.slice A n c] w λ e w'=>e=.returned (.func (.func 156) #[] #[.pointer (some ⟨w.heap.size,0,none⟩)])/\w'=w.alloc (.cells #[.slice A n c] 22):=by
 have hmf:∀ (fn:Fn) (first cap:Array Value) (w:World),(Instr.makeFunc fn first cap).run Tryz.prog w=.ok (.func fn first cap) w:=λ _ _ _ _=>rfl;go_enter Tryz.func105,Tryz.ntmps105;go_wp2_with fail;go_ret;exact⟨rfl,rfl⟩
theorem c6F {b:List Int} {i:Nat} (hi:i<256):bitI (b.take 32) i=bitI b i:=by
 have h:(b.take 32).getD (i/8) 0=b.getD (i/8) 0:=by
  rw[List.getD_eq_getElem?_getD,List.getElem?_take,if_pos (by omega),List.getD_eq_getElem?_getD]
 unfold bitI;rw[h]
theorem c6G (b:List Int):onesN (b.take 32) 256=onesN b 256:=by
 unfold onesN
 congr 1
 refine List.filter_congr (λ c hc=>?_);rw[c6F (List.mem_range.1 hc)]
theorem b6z {b:List Int} (h:32<=b.length) (h0:(onesN b 256).getD 0 1=0):dirT b=(0,onesN b 256):=by
 unfold dirT;rw[if_neg (by omega),if_neg (λ e=>e h0)]
theorem b0A {b:List Int} (h:32<=b.length) (h0:(onesN b 256).getD 0 1≠0):dirT b=(13,[]):=by
 unfold dirT;rw[if_neg (by omega),if_pos h0]
theorem c6H {W:World} {B B':Nat} {e:TypeId} {v:Value} {n:Nat} {xs:List Value} (h:W.ownsRow B e 1 v n xs) (hB:B'<=B):W.ownsRow B' e 1 v n xs:=by
 refine⟨h.1,?_⟩;rcases h.2 with h | ⟨g,cap,cur,rfl,hb,rest⟩
 · exact .inl h
 · exact .inr ⟨g,cap,cur,rfl,by omega,rest⟩
theorem dtEnd {w W:World} {b L:List Int} {v:Value} {x:Int} {D:Nat} {tmps:Array Value} (hD:w.heap.size+1<D) (hO:Only (λ k=>w.heap.size<=k) w W) (kr:W.heap[w.heap.size]?=some (.cells #[v] 84 (0,0))) (ke:W.heap[w.heap.size+1]?=some (.cells #[.int .i64 x] 27 (0,0)))
    (kd:W.heap[D]?=some (.deferred (some []))) (hR:∀ W':World,(∀ k,k≠D->W'.heap[k]?=W.heap[k]?)->(Kd.int .i64).R 3 W' w.heap.size (λ _=>True) v L) (hd:dirT b=(x,L))
    (h2:tmps.getD 2 undef=.pointer (some ⟨w.heap.size,0,none⟩)) (h3:tmps.getD 3 undef=.pointer (some ⟨w.heap.size+1,0,none⟩)) :
    LeavesInM Fence.wide 3 Tryz.prog Tryz.f64 tmps (a2u b w) [{ target:=.collected D,args:=#[] }] .returning W:=by
 refine⟨by simp,.inl ⟨_,_,rfl,run_takeDeferred kd,?_⟩⟩;refine⟨_,b6w (fn:=Tryz.f64) (p:=2) (q:=3) (t:=84) (u:=27) rfl _ _ _ _ _ _ h2 h3 (b6x ((World.putObj_heap_other (by omega)).trans kr)) (b6y ((World.putObj_heap_other (by omega)).trans ke)),?_⟩;unfold a2u;rw[hd];exact⟨v,rfl,hR _ (λ k hk=>World.putObj_heap_other hk),(hO.putObj (by show w.heap.size<=D;omega) _).below (Nat.le_refl _) (λ _ h=>h)⟩
theorem c6I {W W':World} {B B':Nat} {v:Value} {L:List Int} (h:W.ownsRow B 3 1 v L.length (L.map (Value.int .i64))) (hB:B'<=B) (hs:∀ k,B<=k->W'.heap[k]?=W.heap[k]?):(Kd.int .i64).R 3 W' B' (λ _=>True) v L:=by
 refine Kd.R_of_own (h1:=λ _=>rfl) (a5i (c6H h hB) (λ k hk=>hs k ?_)) (λ _ _=>trivial);rcases h.2 with ⟨rfl,_⟩ | ⟨g,cap,cur,rfl,hb,_⟩
 · cases hk
 · have:g=k:=by injection hk
   omega
theorem c6J (A:Option Addr) (c:Nat) (b:List Int) (w:World) (hr:(Kd.int .u8).C w A b.length b) (hb:Bytes b) (hl:b.length<=1000000) (hc:b.length<=c) (h32:32<=b.length) :
    Calls Tryz.prog 64 #[.slice A b.length c] w (a2u b w):=by
 obtain⟨ad,hA,-⟩:=a0v hr 0 (by omega);subst hA;refine(callsIn_wide (n:=3)).1 ?_;refine callsIn_of_wp_marks Tryz.func64 rfl trivial ?_ rfl;simp only[Tryz.ntmps64,List.size_toArray,List.length_cons,List.length_nil,Nat.reduceAdd,Nat.reduceSub,Array.replicate_succ,Array.replicate_zero,List.push_toArray,List.append_toArray,List.nil_append,List.cons_append];have hI:decide ((b.length:Int)<32)=false:=decide_eq_false (by omega);have hI2:(32:Int)<=(c:Int):=by omega
 obtain⟨W0,hW0⟩:∃ W0,W0=((w.alloc (.cells #[.slice none 0 0] 84)).alloc (.cells #[.int .i64 0] 27)).alloc (.cells #[.slice none 0 0] 84):=⟨_,rfl⟩;have HX:=Lib.hid (And.intro hr (And.intro hb (And.intro hl (And.intro hc h32))));clear hr hb hl hc h32
 gi_wp2
 rw[<- hW0];have hs0:W0.heap.size=w.heap.size+1+1+1:=by rw[hW0];simp
 have hB0:Below w.heap.size w W0:=by rw[hW0];exact(((Below.refl w.heap.size w).alloc (Nat.le_refl _) _).alloc (by simp) _).alloc (by simp;omega) _
 have kr0:W0.heap[w.heap.size]?=some (.cells #[.slice none 0 0] 84 (0,0)):=by rw[hW0];exact a0o (a0o (a0i _ _) _) _
 have ke0:W0.heap[w.heap.size+1]?=some (.cells #[.int .i64 0] 27 (0,0)):=by rw[hW0];exact a0o (a2l _ _ _) _
 have ko0:W0.heap[w.heap.size+1+1]?=some (.cells #[.slice none 0 0] 84 (0,0)):=by
  have:=a0i ((w.alloc (.cells #[.slice none 0 0] 84)).alloc (.cells #[.int .i64 0] 27)) (.cells #[.slice none 0 0] 84);simp only[World.size_alloc] at this;rw[hW0];exact this
 have H0:=Lib.hid (And.intro hs0 (And.intro hB0 (And.intro kr0 (And.intro ke0 ko0))));clear hW0 hs0 hB0 kr0 ke0 ko0;refine⟨trivial,(callsIn_wide.2 (c6E (some ad) 32 c W0)).mono ?_⟩;rintro e w1 ⟨rfl,rfl⟩;obtain⟨Wb,hWb⟩:∃ Wb,Wb=W0.alloc (.cells #[.slice (some ad) 32 c] 22):=⟨_,rfl⟩;obtain⟨pb,hpb⟩:∃ pb,pb=W0.heap.size:=⟨_,rfl⟩;rw[<- hWb,<- hpb];have hsb:Wb.heap.size=w.heap.size+1+1+1+1:=by rw[hWb];simp[H0.out.1]
 have hBb:Below w.heap.size w Wb:=by rw[hWb];exact H0.out.2.1.alloc (by have:=H0.out.1;omega) _
 have kr:Wb.heap[w.heap.size]?=some (.cells #[.slice none 0 0] 84 (0,0)):=by rw[hWb];exact a0o H0.out.2.2.1 _
 have ke:Wb.heap[w.heap.size+1]?=some (.cells #[.int .i64 0] 27 (0,0)):=by rw[hWb];exact a0o H0.out.2.2.2.1 _
 have ko:Wb.heap[w.heap.size+1+1]?=some (.cells #[.slice none 0 0] 84 (0,0)):=by rw[hWb];exact a0o H0.out.2.2.2.2 _
 have kb:Wb.heap[pb]?=some (.cells #[.slice (some ad) 32 c] 22 (0,0)):=by rw[hWb,hpb];exact a0i W0 _
 have hlb:pb<Wb.heap.size:=a0g kb;have HWb:=Lib.hid (And.intro hsb (And.intro hBb (And.intro kr (And.intro ke (And.intro ko (And.intro kb hlb))))));clear hWb hpb hsb hBb kr ke ko kb hlb
 gi_wp2
 refine wpIn_rangeFunc ?_;intro fn hfn;obtain⟨hsb,hBb,kr,ke,ko,kb,hlb⟩:=HWb.out;obtain⟨tm,htm⟩:∃ tm,tm=tkTm (some ad) b.length c w.heap.size (w.heap.size+1) (w.heap.size+1+1) (.func (.func 156) #[] #[.pointer (some ⟨pb,0,none⟩)]) (.slice (some ad) b.length c) (.int .i64 b.length) (.bool false) (.slice (some ad) b.length c) (.slice (some ad) 32 c):=⟨_,rfl⟩;obtain⟨W1,hW1⟩:∃ W1,(Wb.alloc (.deferred (some []))).alloc (.loop (tkRec fn tm Wb.heap.size .ready none))=W1:=⟨_,rfl⟩;have hs1:W1.heap.size=Wb.heap.size+1+1:=by rw[<- hW1];simp
 have hold:∀ k,k<Wb.heap.size->W1.heap[k]?=Wb.heap[k]?:=λ k hk=>by
  rw[<- hW1];exact(Below.heap_alloc _ _ k (by simp;omega)).trans (Below.heap_alloc _ _ k hk)
 have kl:W1.heap[Wb.heap.size+1]?=some (.loop (tkRec fn tm Wb.heap.size .ready none)):=by
  rw[<- hW1];have:=World.alloc_heap_new (Wb.alloc (.deferred (some []))) (.loop (tkRec fn tm Wb.heap.size .ready none));rwa [World.size_alloc] at this
 have kd:W1.heap[Wb.heap.size]?=some (.deferred (some [])):=by
  rw[<- hW1];exact(Below.heap_alloc _ _ _ (by simp)).trans (World.alloc_heap_new Wb _)
 have hB1:Below w.heap.size w W1:=by rw[<- hW1];exact(hBb.alloc (by omega) _).alloc (by simp;omega) _
 have hp32:(b.take 32).length=32:=by rw[List.length_take];have:=HX.out.2.2.2.2;omega
 have hC1:(Kd.int .u8).C W1 (some ad) (b.take 32).length (b.take 32):=by
  have:=b6k (Kd.C_below HX.out.1 hB1) 32 HX.out.2.2.2.2;rw[hp32];exact this
 have hIt:=c6C 2 fn (some ad) b.length c w.heap.size (w.heap.size+1) (w.heap.size+1+1) Wb.heap.size (Wb.heap.size+1) pb (.func (.func 156) #[] #[.pointer (some ⟨pb,0,none⟩)]) (.slice (some ad) b.length c) (.int .i64 b.length) (.bool false) (.slice (some ad) b.length c) (.slice (some ad) 32 c) W1 ad c (b.take 32) hp32 (λ x hx=>HX.out.2.1 x (List.mem_of_mem_take hx)) (by have:=HX.out.2.2.2.1;have:=HX.out.2.2.2.2;omega)
  ((hold _ (by omega)).trans kb) hC1 (by rw[<- htm];exact kl) ((hold _ (by omega)).trans ko) ((hold _ (by omega)).trans kr) ((hold _ (by omega)).trans ke) (by omega) (by omega) (by omega)
 rw[<- htm] at hIt;unfold b6v at hIt;rw[c6G] at hIt;have HIt:=Lib.hid hIt;have HT:=Lib.hid htm;have HK:=Lib.hid (And.intro kd (And.intro hs1 (And.intro hsb (And.intro hB1 (And.intro ((hold _ (by omega)).trans kr) ((hold _ (by omega)).trans ke))))));clear hIt hC1 hp32 kr ke ko kb kl kd hBb hold hlb
 refine⟨Wb.heap.size+1,[{ target:=.collected Wb.heap.size,args:=#[] }],W1,{ target:=.fn (.func 156) #[.pointer (some ⟨pb,0,none⟩)],args:=#[.func (.yield (Wb.heap.size+1)) #[] #[]] },W1,156,
  #[.func (.yield (Wb.heap.size+1)) #[] #[],.pointer (some ⟨pb,0,none⟩)],W1,?_,?_,?_,?_,λ h=>(by cases h),?_⟩
 · rw[<- hW1,htm];exact run_enterLoop_outer _ _ _ _ _
 · simp[resolve,go_sem]
 · intro f' hf';exact trivial
 · simp[invoke,go_sem]
 · clear hW1 htm;refine HIt.out.mono ?_;rintro e W2 ⟨⟨v,rfl⟩,h⟩;obtain⟨kd,hs1,hsb,hB1,kr,ke⟩:=HK.out;rcases h with ⟨p,at_,hp,hT,h0⟩ | ⟨hX,hne,h0⟩
   · obtain⟨vo,ko,hown,hok⟩:=hT.v;obtain⟨Av,cv,rfl⟩:=a3W hown;have hend:=run_endLoop (P:=Tryz.prog) hT.lp (by simp[tkRec]);have hend2:(Instr.endLoop (Wb.heap.size+1)).run Tryz.prog W2=.ok none (W2.putObj (Wb.heap.size+1) (.loop { tkRec fn tm Wb.heap.size .ready none with state:=.exhausted })):=hend;have hO:Only (λ k=>w.heap.size<=k) w W2:=(Only.of_below (S:=λ k=>w.heap.size<=k) hB1).trans2 hT.on (λ k hk h=>by omega);obtain⟨W3,hW3⟩:∃ W3,W2.putObj (Wb.heap.size+1) (.loop { tkRec fn tm Wb.heap.size .ready none with state:=.exhausted })=W3:=⟨_,rfl⟩;rw[hW3] at hend2;have hO3:Only (λ k=>w.heap.size<=k) w W3:=by rw[<- hW3];exact hO.putObj (by show w.heap.size<=_;omega) _
     have ko3:W3.heap[w.heap.size+1+1]?=some (.cells #[.slice Av (onesN b 256).length cv] 84 (0,0)):=by rw[<- hW3];exact(World.putObj_heap_other (by omega)).trans ko
     have kd3:W3.heap[Wb.heap.size]?=some (.deferred (some [])):=by rw[<- hW3];exact(World.putObj_heap_other (by omega)).trans ((hT.on.block _ (a0g kd) (by omega)).trans kd)
     have kr3:W3.heap[w.heap.size]?=some (.cells #[.slice none 0 0] 84 (0,0)):=by rw[<- hW3];exact(World.putObj_heap_other (by omega)).trans ((hT.on.block _ (a0g kr) (by omega)).trans kr)
     have ke3:W3.heap[w.heap.size+1]?=some (.cells #[.int .i64 0] 27 (0,0)):=by rw[<- hW3];exact(World.putObj_heap_other (by omega)).trans ((hT.on.block _ (a0g ke) (by omega)).trans ke)
     have hw3:W3.ownsRow W1.heap.size 3 1 (.slice Av (onesN b 256).length cv) (onesN b 256).length ((onesN b 256).map (Value.int .i64)):=a5i hown (λ k hk=>by have:=hok k hk;rw[<- hW3];exact World.putObj_heap_other (by omega));have HW3:=Lib.hid (And.intro hO3 (And.intro ko3 (And.intro kd3 (And.intro kr3 (And.intro ke3 (And.intro hw3 (And.intro hok hp)))))));have co:W3.cell? ⟨w.heap.size+1+1,0,none⟩=some (.slice Av (onesN b 256).length cv):=(a0a ko3 0).trans rfl;have cr:W3.cell? ⟨w.heap.size,0,none⟩=some (.slice none 0 0):=(a0a kr3 0).trans rfl;have ce:W3.cell? ⟨w.heap.size+1,0,none⟩=some (.int .i64 0):=(a0a ke3 0).trans rfl;have fr:W3.frozen? ⟨w.heap.size,0,none⟩=false:=a0e kr3 0;have fe:W3.frozen? ⟨w.heap.size+1,0,none⟩=false:=a0e ke3 0;refine⟨none,W3,hend2,?_⟩;have HH:=Lib.hid (And.intro hsb hs1);clear hW3 hend hend2 hO hown hok ko kd hs1 hsb hB1 kr ke hT ko3 kd3 kr3 ke3 hw3 hO3 hp HIt HT HK;rcases h0 with h0 | h0
     · have HE:Hid (dirT b=(13,[])):=Lib.hid (b0A HX.out.2.2.2.2 (by rw[h0];decide));rw[h0] at co
       gi_wp2
       have hO4:=(HW3.out.1.setCell (p:=⟨w.heap.size,0,none⟩) (Nat.le_refl _) (.slice none 0 0)).setCell (p:=⟨w.heap.size+1,0,none⟩) (by show w.heap.size<=w.heap.size+1;omega) (.int .i64 13)
       exact dtEnd (by omega) hO4
        ((Below.heap_setCell _ ⟨w.heap.size+1,0,none⟩ _ w.heap.size (by show w.heap.size≠w.heap.size+1;omega)).trans ((a0x HW3.out.2.2.2.1 0 _).trans rfl))
        ((a0x ((Below.heap_setCell _ ⟨w.heap.size,0,none⟩ _ (w.heap.size+1) (by show w.heap.size+1≠w.heap.size;omega)).trans HW3.out.2.2.2.2.1) 0 _).trans rfl)
        ((Below.heap_setCell _ ⟨w.heap.size+1,0,none⟩ _ _ (by show w.heap.size+1+1+1+1≠w.heap.size+1;omega)).trans ((Below.heap_setCell _ ⟨w.heap.size,0,none⟩ _ _ (by show w.heap.size+1+1+1+1≠w.heap.size;omega)).trans (by rw[<- HH.out.1];exact HW3.out.2.2.1)))
        (λ W' _=>Kd.R_nil _ _ _ _ _) HE.out rfl rfl
     · have HE:Hid (dirT b=(0,onesN b 256)):=Lib.hid (b6z HX.out.2.2.2.2 h0)
       have hn0:(((onesN b 256).length:Int)==0)=false:=by
        simp;intro e;rw[e] at h0;exact absurd h0 (by decide)
       obtain⟨L,hL⟩:∃ L,L=onesN b 256:=⟨_,rfl⟩;rw[<- hL] at co hn0 HE HW3;clear hL h0
       gi_wp2
       have hO4:=(HW3.out.1.setCell (p:=⟨w.heap.size,0,none⟩) (Nat.le_refl _) (.slice Av L.length cv)).setCell (p:=⟨w.heap.size+1,0,none⟩) (by show w.heap.size<=w.heap.size+1;omega) (.int .i64 0)
       exact dtEnd (by omega) hO4
        ((Below.heap_setCell _ ⟨w.heap.size+1,0,none⟩ _ w.heap.size (by show w.heap.size≠w.heap.size+1;omega)).trans ((a0x HW3.out.2.2.2.1 0 _).trans rfl))
        ((a0x ((Below.heap_setCell _ ⟨w.heap.size,0,none⟩ _ (w.heap.size+1) (by show w.heap.size+1≠w.heap.size;omega)).trans HW3.out.2.2.2.2.1) 0 _).trans rfl)
        ((Below.heap_setCell _ ⟨w.heap.size+1,0,none⟩ _ _ (by show w.heap.size+1+1+1+1≠w.heap.size+1;omega)).trans ((Below.heap_setCell _ ⟨w.heap.size,0,none⟩ _ _ (by show w.heap.size+1+1+1+1≠w.heap.size;omega)).trans (by rw[<- HH.out.1];exact HW3.out.2.2.1)))
        (λ W' hW'=>c6I HW3.out.2.2.2.2.2.1 (by have:=HH.out.1;have:=HH.out.2;omega) (λ k hk=>by
         have h1:=HH.out.1;have h2:=HH.out.2;exact(hW' k (by omega)).trans ((Below.heap_setCell _ ⟨w.heap.size+1,0,none⟩ _ k (by show k≠w.heap.size+1;omega)).trans (Below.heap_setCell _ ⟨w.heap.size,0,none⟩ _ k (by show k≠w.heap.size;omega))))) HE.out rfl rfl
   · have hend:=run_endLoop (P:=Tryz.prog) hX.lp (by simp[tkRec]);have hend2:(Instr.endLoop (Wb.heap.size+1)).run Tryz.prog W2=.ok (some .ret) (W2.putObj (Wb.heap.size+1) (.loop { tkRec fn tm Wb.heap.size .done (some .ret) with state:=.exhausted })):=hend;have hO:Only (λ k=>w.heap.size<=k) w W2:=(Only.of_below (S:=λ k=>w.heap.size<=k) hB1).trans2 hX.on (λ k hk h=>by omega);obtain⟨W3,hW3⟩:∃ W3,W2.putObj (Wb.heap.size+1) (.loop { tkRec fn tm Wb.heap.size .done (some .ret) with state:=.exhausted })=W3:=⟨_,rfl⟩;rw[hW3] at hend2;have hO3:Only (λ k=>w.heap.size<=k) w W3:=by rw[<- hW3];exact hO.putObj (by show w.heap.size<=_;omega) _
     have kd3:W3.heap[w.heap.size+1+1+1+1]?=some (.deferred (some [])):=by rw[<- hW3,<- hsb];exact(World.putObj_heap_other (by omega)).trans ((hX.on.block _ (a0g kd) (by omega)).trans kd)
     have kr3:W3.heap[w.heap.size]?=some (.cells #[.slice none 0 0] 84 (0,0)):=by rw[<- hW3];exact(World.putObj_heap_other (by omega)).trans hX.r0
     have ke3:W3.heap[w.heap.size+1]?=some (.cells #[.int .i64 13] 27 (0,0)):=by rw[<- hW3];exact(World.putObj_heap_other (by omega)).trans hX.r1
     have HE:Hid (dirT b=(13,[])):=Lib.hid (b0A HX.out.2.2.2.2 h0);refine⟨some .ret,W3,hend2,?_⟩;have HZ:=Lib.hid (And.intro hO3 (And.intro kd3 (And.intro kr3 ke3)));clear hW3 hend hend2 hO kd hs1 hB1 kr ke hX kd3 kr3 ke3 hO3 HIt HT HK h0 hne
     gi_wp2
     exact dtEnd (by omega) HZ.out.1 HZ.out.2.2.1 HZ.out.2.2.2 HZ.out.2.1 (λ W' _=>Kd.R_nil _ _ _ _ _) HE.out rfl rfl
theorem c6K (A:Option Addr) (c:Nat) (b:List Int) (w:World) (hr:(Kd.int .u8).C w A b.length b) (hb:Bytes b) (hl:b.length<=1000000) (hc:b.length<=c) :
    Calls Tryz.prog 64 #[.slice A b.length c] w (a2u b w):=by
 by_cases h:b.length<32
 · exact c6D A c b w h
 · exact c6J A c b w hr hb hl hc (by omega)
end Go.Proofs.YtflfjpkmjnnodaaGreat
