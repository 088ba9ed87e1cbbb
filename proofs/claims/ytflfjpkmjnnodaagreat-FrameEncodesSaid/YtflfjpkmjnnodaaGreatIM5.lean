/- The walk of dir.ones' function. -/
import Derived.Test.YtflfjpkmjnnodaaGreatIM1
import Derived.Test.YtflfjpkmjnnodaaGreatIM2
import Derived.Test.YtflfjpkmjnnodaaGreatIS1
import Derived.Test.YtflfjpkmjnnodaaGreatIM4
import Derived.Test.YtflfjpkmjnnodaaGreatIM0
import Derived.RangeFuncLeaves
import Derived.Deep.QuietTactic
import Derived.BigQuiet
import Derived.Deep.MidRow
import Derived.Deep.RegionHeld3
import Derived.Deep.RegionLaw
import Derived.WalkMore
import Derived.Laws.EntriesVeiled
import Derived.OwnWalk
namespace Go.Proofs.YtflfjpkmjnnodaaGreat
open Go.RowKit Go.IntWalk Go.Proofs.YtflfjpkmjnnodaaGreatW.PrintWords
attribute [local go_sem] Oper.semAt_some
theorem c7e (ps : List Int) (c : Nat) : takeF ps c 1 = bitI ps c:=by
 rw [b5r]
 have : takeF ps c 0 = 0:=rfl
 rw [this]; simp
theorem c7f (ps : List Int) (c : Nat) : bitI ps c < 2:=by unfold bitI; omega
theorem b0A (ps : List Int) (k : Nat) : ∀ m,k <= m -> onesN ps k ≠ [] -> (onesN ps m).getD 0 1 = (onesN ps k).getD 0 1
 | 0,h,_=>by have : k = 0:=by omega
             rw [this]
 | m + 1,h,hne=>by
  by_cases e : k = m + 1
  · rw [e]
  · have ih:=b0A ps k m (by omega) hne
    rw [a6b]
    split
    · rw [<- ih]
      cases hm : onesN ps m with
      | nil=>
       rw [hm] at ih
       cases hk : onesN ps k with
       | nil=>exact absurd hk hne
       | cons x l=>
        exfalso
        have hx : x ∈ onesN ps k:=by rw [hk]; exact List.mem_cons_self
        obtain ⟨c,rfl,h1,h2⟩:=b6l hx
        have : (c : Int) ∈ onesN ps m:=by
         unfold onesN
         exact List.mem_map.2 ⟨c,List.mem_filter.2 ⟨List.mem_range.2 (by omega),decide_eq_true h2⟩,rfl⟩
        rw [hm] at this; cases this
      | cons x l=>rfl
    · exact ih
theorem Tk.taken {fn : FuncId} {tm : Array Value} {ob D l B0 p : Nat} {W1 W W' : World} {ps out : List Int} {at_ at' : Nat} (h : Tk fn tm ob D l B0 p W1 ps out at_ W) (hr : RfAt W' B0 p ps at') (ho : Only (λ k=>k = p) W W') (h1 : ob < B0) (h2 : l < B0) (hp : B0 <= p) : Tk fn tm ob D l B0 p W1 ps out at' W':=by
 obtain ⟨v,hv,hown,hok⟩:=h.v
 refine ⟨hr,⟨v,(ho.block ob (a0f hv) (by omega)).trans hv,a5p hown (λ k hk=>?_),hok⟩,(ho.block l (a0f h.lp) (by omega)).trans h.lp,h.on.trans2 ho (λ k _ hk=>by omega)⟩
 have:=hok k hk
 by_cases hlt : k < W.heap.size
 · exact ho.block k hlt (by omega)
 · rcases hown.2 with ⟨rfl,_⟩ | ⟨g,cap,cur,rfl,_,hg,_⟩
   · cases hk
   · have : g = k:=by injection hk
     subst this
     exact absurd (a0f hg) hlt
def b6B (fn : FuncId) (tm : Array Value) (rb eb ob D l B0 : Nat) (W1 : World) (ps : List Int) (e : Ending) (W' : World) : Prop:=
 (∃ v,e = .returned v) /\ ((∃ p at_,B0 <= p /\ Tk fn tm ob D l B0 p W1 ps (onesN ps 256) at_ W' /\ (onesN ps 256 = [] \/ (onesN ps 256).getD 0 1 = 0)) \/ (TkX fn tm rb eb ob D l B0 W1 W' /\ onesN ps 256 ≠ [] /\ (onesN ps 256).getD 0 1 ≠ 0))
set_option maxRecDepth 100000 in
set_option maxHeartbeats 2000000 in
theorem c7g (m : Nat) (fn : FuncId) (A : Option Addr) (n c rb eb ob D l pb : Nat) (f v6 v7 v8 v9 v10 : Value) (W1 : World) (ad : Addr) (cs : Nat) (ps : List Int) (hlen : ps.length = 32) (hps : Bytes ps) (hcs : 32 <= cs)
    (hpb : W1.heap[pb]? = some (.cells #[.slice (some ad) 32 cs] 22 (0,0))) (hC : (Kd.int .u8).C W1 (some ad) ps.length ps)
    (hlp : W1.heap[l]? = some (.loop (tkRec fn (tkTm A n c rb eb ob f v6 v7 v8 v9 v10) D .ready none))) (hv : W1.heap[ob]? = some (.cells #[.slice none 0 0] 84 (0,0)))
    (hr : W1.heap[rb]? = some (.cells #[.slice none 0 0] 84 (0,0))) (he : W1.heap[eb]? = some (.cells #[.int .i64 0] 27 (0,0)))
    (h1 : rb < eb) (h2 : eb < ob) (ho : ob < l) :
    CallsIn Fence.wide m Tryz.prog 156 #[.func (.yield l) #[] #[],.pointer (some ⟨pb,0,none⟩)] W1 (b6B fn (tkTm A n c rb eb ob f v6 v7 v8 v9 v10) rb eb ob D l W1.heap.size W1 ps):=by
 have hl:=a0f hlp
 have hcell : W1.cell? ⟨pb,0,none⟩ = some (.slice (some ad) 32 cs):=(a0a hpb 0).trans rfl
 have HNew:=Lib.hid (a9V (some ad) cs ps W1 hC (by omega) (by omega) (λ h=>by cases h))
 rw [hlen] at HNew
 have H0:=Lib.hid (And.intro hlp (And.intro hv (And.intro hr (And.intro he (And.intro hlen hps)))))
 clear hC hlp hv hr he hpb hlen hps
 refine callsIn_of_wp Tryz.func156 rfl trivial ?_ rfl
 simp only [Tryz.ntmps156,List.size_toArray,List.length_cons,List.length_nil,Nat.reduceAdd,Nat.reduceSub,Array.replicate_succ,Array.replicate_zero,List.push_toArray,List.append_toArray,List.nil_append,List.cons_append]
 gi_wp2
 refine ⟨trivial,λ h=>(by cases h),(callsIn_wide.2 HNew.out).mono ?_⟩
 rintro e w2 ⟨p,rfl,hp,hrd,hb⟩
 have HT : Hid (Tk fn (tkTm A n c rb eb ob f v6 v7 v8 v9 v10) ob D l W1.heap.size p W1 ps (onesN ps 0) 0 w2):=Lib.hid
  ⟨hrd,⟨_,a0g H0.out.2.1 hb,⟨rfl,.inl ⟨rfl,rfl⟩⟩,λ k hk=>by cases hk⟩,a0g H0.out.1 hb,Only.of_below hb⟩
 have HP : Hid (W1.heap.size <= p /\ p < w2.heap.size):=by
  obtain ⟨_,_,hx,_⟩:=hrd.ex
  exact Lib.hid ⟨hp,a0f hx⟩
 clear hb hrd hp hcell
 gi_wp2
 gi_loopw [4,5,6,9] (λ _ _ _ kv wr=>∃ k : Nat,k <= 256 /\ kv = .int .i64 k /\ Hid (Tk fn (tkTm A n c rb eb ob f v6 v7 v8 v9 v10) ob D l W1.heap.size p W1 ps (onesN ps k) k wr /\ p < wr.heap.size /\ (onesN ps k = [] \/ (onesN ps k).getD 0 1 = 0))) (λ _ _ _ kv _=>256 - (intOf kv).toNat)
 case atStart=>exact ⟨0,by omega,rfl,Lib.hid ⟨HT.out,HP.out.2,.inl rfl⟩⟩
 case round=>
  obtain ⟨k,hk,rfl,H⟩:=hrel
  by_cases hlt : k < 256
  · have hI : (k : Int) < 256:=by omega
    have HTk:=a7J W1.heap.size p ps k 1 wr H.out.1.rd H0.out.2.2.2.2.2 (by have:=H0.out.2.2.2.2.1; omega) (by have:=H0.out.2.2.2.2.1; omega) (by decide)
    rw [show ((1 : Nat) : Int) = 1 from rfl] at HTk
    have HTk:=Lib.hid HTk
    gi_wp2
    refine ⟨trivial,λ h=>(by cases h),(callsIn_wide.2 HTk.out).mono ?_⟩
    rintro e w3 ⟨ht,_,hon⟩
    obtain ⟨rfl,hrd⟩:=ht (by have:=H0.out.2.2.2.2.1; omega)
    have HT3:=Lib.hid (H.out.1.taken hrd hon (by have:=a0f H0.out.2.1; omega) hl HP.out.1)
    have HS3:=Lib.hid (Nat.lt_of_lt_of_le H.out.2.1 hon.size)
    rw [c7e]
    clear hon hrd ht HTk
    have hb2:=c7f ps k
    by_cases hbit : bitI ps k = 1
    · rw [hbit]
      have hy : (Instr.yield l #[.int .i64 k]).run Tryz.prog w3 = .ok (.round l fn #[.slice A n c,undef,.pointer (some ⟨rb,0,none⟩),.pointer (some ⟨eb,0,none⟩),.pointer (some ⟨ob,0,none⟩),undef,v6,v7,v8,v9,v10,f,.int .i64 k,undef,undef,undef,undef,undef,undef,undef,undef,undef,undef,undef,undef,undef,undef,undef] a5n a5o) w3:=by
       simpa [tkRec,tkTm] using run_yield (P:=Tryz.prog) (args:=#[.int .i64 k]) HT3.out.lp rfl
      gi_wp2
      have hol:=b6k ps k
      have hob:=a0f H0.out.2.1
      by_cases hst : onesN ps k = [] /\ k ≠ 0
      · have hT3:=HT3.out
        rw [hst.1] at hT3
        refine ⟨λ h=>(by cases h),(c7d (m - 1) fn A n c rb eb ob D l W1.heap.size p f v6 v7 v8 v9 v10 W1 ps (k + 1) w3 hT3 k hst.2 H0.out.2.2.1 H0.out.2.2.2.1 h1 h2 ho hl).mono ?_⟩
        rintro e w4 ⟨rfl,hx⟩
        have HX:=Lib.hid hx
        have HE : Hid (onesN ps 256 ≠ [] /\ (onesN ps 256).getD 0 1 ≠ 0):=by
         have e1 : onesN ps (k + 1) = [(k : Int)]:=by rw [a6b,if_pos hbit,hst.1]; rfl
         have e2:=b0A ps (k + 1) 256 (by omega) (by rw [e1]; simp)
         rw [e1] at e2
         refine Lib.hid ⟨λ e=>?_,?_⟩
         · rw [e] at e2
           have e3 : (1 : Int) = (k : Int):=e2
           have : (k : Int) ∈ onesN ps 256:=by
            unfold onesN
            exact List.mem_map.2 ⟨k,List.mem_filter.2 ⟨List.mem_range.2 hlt,decide_eq_true hbit⟩,rfl⟩
           rw [e] at this; cases this
         · rw [e2]; show ((k : Int)) ≠ 0; have:=hst.2; omega
        clear hx hst hy hT3
        gi_wp2
        go_end0
        exact ⟨⟨_,rfl⟩,.inr ⟨HX.out,HE.out⟩⟩
      · have hgo : (((onesN ps k).length : Int) == 0) = false \/ (k = 0 /\ onesN ps k = []):=by
          by_cases e : onesN ps k = []
          · exact .inr ⟨by
              by_cases e0 : k = 0
              · exact e0
              · exact absurd ⟨e,e0⟩ hst,e⟩
          · refine .inl ?_
            simp; exact e
        have HE : Hid ((onesN ps (k + 1)).getD 0 1 = 0):=by
         rcases H.out.2.2 with e | e
         · have k0 : k = 0:=by
             by_cases e0 : k = 0
             · exact e0
             · exact absurd ⟨e,e0⟩ hst
           rw [a6b,if_pos hbit,e,k0]; exact Lib.hid rfl
         · have hne : onesN ps k ≠ []:=λ h=>by rw [h] at e; exact absurd e (by decide)
           rw [b0A ps k (k + 1) (by omega) hne]; exact Lib.hid e
        refine ⟨λ h=>(by cases h),(c7c (m - 1) fn A n c rb eb ob D l W1.heap.size p f v6 v7 v8 v9 v10 W1 ps (onesN ps k) (k + 1) w3 HT3.out k (by omega) hgo ho hl HP.out.1 HS3.out).mono ?_⟩
        rintro e w4 ⟨rfl,hx,hs4⟩
        have HX : Hid (Tk fn (tkTm A n c rb eb ob f v6 v7 v8 v9 v10) ob D l W1.heap.size p W1 ps (onesN ps (k + 1)) (k + 1) w4 /\ p < w4.heap.size):=by
         rw [a6b,if_pos hbit]; exact Lib.hid ⟨hx,hs4⟩
        clear hx hs4 hst hgo hy
        gi_wp2
        go_roundw
        case rel=>exact ⟨k + 1,by omega,by go_num,Lib.hid ⟨HX.out.1,HX.out.2,.inr HE.out⟩⟩
        case measure=>simp [intOf]; omega
    · have h0 : bitI ps k = 0:=by omega
      rw [h0]
      have HN:=Lib.hid (show onesN ps (k + 1) = onesN ps k from by rw [a6b,if_neg hbit])
      clear hbit h0 hb2
      gi_wp2
      refine ⟨λ _ h=>(by cases h),?_⟩
      gi_wp2
      go_roundw
      case rel=>exact ⟨k + 1,by omega,by go_num,Lib.hid (by rw [HN.out]; exact ⟨by have:=HT3.out; exact this,HS3.out,H.out.2.2⟩)⟩
      case measure=>simp [intOf]; omega
  · obtain rfl : k = 256:=by omega
    gi_wp2
    go_end0
    exact ⟨⟨_,rfl⟩,.inl ⟨p,256,HP.out.1,H.out.1,H.out.2.2⟩⟩
end Go.Proofs.YtflfjpkmjnnodaaGreat
namespace Go.Proofs.YtflfjpkmjnnodaaGreat
open Go.RowKit Go.IntWalk Go.Proofs.YtflfjpkmjnnodaaGreatW.PrintWords
attribute [local go_sem] Oper.semAt_some
theorem b0B {fn : Func} {p q : Tmp} {t u : TypeId} (h : fn.results = #[.cell p t,.cell q u]) (tmps : Array Value) (w : World) (g k : Nat) (v x : Value)
    (hp : tmps.getD p undef = .pointer (some ⟨g,0,none⟩)) (hq : tmps.getD q undef = .pointer (some ⟨k,0,none⟩)) (hl : (loadVar t ⟨g,0,none⟩).run Tryz.prog w = .ok v w) (hm : (loadVar u ⟨k,0,none⟩).run Tryz.prog w = .ok x w) :
    (results fn tmps).run Tryz.prog w = .ok (.tuple #[v,x]) w:=by
 have hp' : tmps[p]?.getD undef = .pointer (some ⟨g,0,none⟩):=by simpa using hp
 have hq' : tmps[q]?.getD undef = .pointer (some ⟨k,0,none⟩):=by simpa using hq
 simp [results,h,hp',hq',asAddr,hl,hm]
theorem b6C {w : World} {g : Nat} {v : Value} (h : w.heap[g]? = some (.cells #[v] 84 (0,0))) : (loadVar 84 ⟨g,0,none⟩).run Tryz.prog w = .ok v w:=by
 have hc : w.cell? ⟨g,0,none⟩ = some v:=(a0a h 0).trans rfl
 simp [go_sem,hc]
theorem b0C {w : World} {g : Nat} {v : Value} (h : w.heap[g]? = some (.cells #[v] 27 (0,0))) : (loadVar 27 ⟨g,0,none⟩).run Tryz.prog w = .ok v w:=by
 have hc : w.cell? ⟨g,0,none⟩ = some v:=(a0a h 0).trans rfl
 simp [go_sem,hc]
def a4t (b : List Int) (w : World) (e : Ending) (w' : World) : Prop:=
 ∃ v,e = .returned (.tuple #[v,.int .i64 (dirT b).1]) /\ (Kd.int .i64).R 3 w' w.heap.size (λ _=>True) v (dirT b).2 /\ Below w.heap.size w w'
set_option maxRecDepth 100000 in
theorem c7h (A : Option Addr) (c : Nat) (b : List Int) (w : World) (hl : b.length < 32) :
    Calls Tryz.prog 64 #[.slice A b.length c] w (a4t b w):=by
 have hI : (b.length : Int) < 32:=by omega
 have HL:=Lib.hid hl
 clear hl
 go_enter Tryz.func64,Tryz.ntmps64
 go_wp2_with fail
 refine bodyPost_ret (b0B (fn:=Tryz.f64) (p:=2) (q:=3) (t:=84) (u:=27) rfl _ _ _ _ _ _ rfl rfl (b6C (a0i (a0k _ _) _)) (b0C (a2h _ _ _))) rfl ?_
 have e : dirT b = (3,[]):=by unfold dirT; rw [if_pos HL.out]
 unfold a4t
 rw [e]
 exact ⟨_,rfl,Kd.R_nil _ _ _ _ _,((Below.refl w.heap.size w).alloc (Nat.le_refl _) _).alloc (by simp) _⟩
set_option maxRecDepth 100000 in
theorem c7i (A : Option Addr) (n c : Nat) (w : World) :
    Calls Tryz.prog 105 #[.slice A n c] w λ e w'=>e = .returned (.func (.func 156) #[] #[.pointer (some ⟨w.heap.size,0,none⟩)]) /\ w' = w.alloc (.cells #[.slice A n c] 22):=by
 have hmf : ∀ (fn : Fn) (first cap : Array Value) (w : World),(Instr.makeFunc fn first cap).run Tryz.prog w = .ok (.func fn first cap) w:=λ _ _ _ _=>rfl
 go_enter Tryz.func105,Tryz.ntmps105
 go_wp2_with fail
 go_ret
 exact ⟨rfl,rfl⟩
theorem c7j {b : List Int} {i : Nat} (hi : i < 256) : bitI (b.take 32) i = bitI b i:=by
 have h : (b.take 32).getD (i / 8) 0 = b.getD (i / 8) 0:=by
  rw [List.getD_eq_getElem?_getD,List.getElem?_take,if_pos (by omega),List.getD_eq_getElem?_getD]
 unfold bitI
 rw [h]
theorem c7k (b : List Int) : onesN (b.take 32) 256 = onesN b 256:=by
 unfold onesN
 congr 1
 refine List.filter_congr (λ c hc=>?_)
 rw [c7j (List.mem_range.1 hc)]
theorem c7l {b : List Int} (h : 32 <= b.length) (h0 : (onesN b 256).getD 0 1 = 0) : dirT b = (0,onesN b 256):=by
 unfold dirT; rw [if_neg (by omega),if_neg (λ e=>e h0)]
theorem b6D {b : List Int} (h : 32 <= b.length) (h0 : (onesN b 256).getD 0 1 ≠ 0) : dirT b = (13,[]):=by
 unfold dirT; rw [if_neg (by omega),if_pos h0]
theorem c7m {W : World} {B B' : Nat} {e : TypeId} {v : Value} {n : Nat} {xs : List Value} (h : W.ownsRow B e 1 v n xs) (hB : B' <= B) : W.ownsRow B' e 1 v n xs:=by
 refine ⟨h.1,?_⟩
 rcases h.2 with h | ⟨g,cap,cur,rfl,hb,rest⟩
 · exact .inl h
 · exact .inr ⟨g,cap,cur,rfl,by omega,rest⟩
theorem dtEnd {w W : World} {b L : List Int} {v : Value} {x : Int} {D : Nat} {tmps : Array Value} (hD : w.heap.size + 1 < D) (hO : Only (λ k=>w.heap.size <= k) w W) (kr : W.heap[w.heap.size]? = some (.cells #[v] 84 (0,0))) (ke : W.heap[w.heap.size + 1]? = some (.cells #[.int .i64 x] 27 (0,0)))
    (kd : W.heap[D]? = some (.deferred (some []))) (hR : ∀ W' : World,(∀ k,k ≠ D -> W'.heap[k]? = W.heap[k]?) -> (Kd.int .i64).R 3 W' w.heap.size (λ _=>True) v L) (hd : dirT b = (x,L))
    (h2 : tmps.getD 2 undef = .pointer (some ⟨w.heap.size,0,none⟩)) (h3 : tmps.getD 3 undef = .pointer (some ⟨w.heap.size + 1,0,none⟩)) :
    LeavesInM Fence.wide 3 Tryz.prog Tryz.f64 tmps (a4t b w) [{ target:=.collected D,args:=#[] }] .returning W:=by
 refine ⟨by simp,.inl ⟨_,_,rfl,run_takeDeferred kd,?_⟩⟩
 refine ⟨_,b0B (fn:=Tryz.f64) (p:=2) (q:=3) (t:=84) (u:=27) rfl _ _ _ _ _ _ h2 h3 (b6C ((World.putObj_heap_other (by omega)).trans kr)) (b0C ((World.putObj_heap_other (by omega)).trans ke)),?_⟩
 unfold a4t
 rw [hd]
 exact ⟨v,rfl,hR _ (λ k hk=>World.putObj_heap_other hk),(hO.putObj (by show w.heap.size <= D; omega) _).below (Nat.le_refl _) (λ _ h=>h)⟩
theorem c7n {W W' : World} {B B' : Nat} {v : Value} {L : List Int} (h : W.ownsRow B 3 1 v L.length (L.map (Value.int .i64))) (hB : B' <= B) (hs : ∀ k,B <= k -> W'.heap[k]? = W.heap[k]?) : (Kd.int .i64).R 3 W' B' (λ _=>True) v L:=by
 refine Kd.R_of_own (h1:=λ _=>rfl) (a5p (c7m h hB) (λ k hk=>hs k ?_)) (λ _ _=>trivial)
 rcases h.2 with ⟨rfl,_⟩ | ⟨g,cap,cur,rfl,hb,_⟩
 · cases hk
 · have : g = k:=by injection hk
   omega
set_option maxRecDepth 100000 in
set_option maxHeartbeats 2000000 in
theorem c7o (A : Option Addr) (c : Nat) (b : List Int) (w : World) (hr : (Kd.int .u8).C w A b.length b) (hb : Bytes b) (hl : b.length <= 1000000) (hc : b.length <= c) (h32 : 32 <= b.length) :
    Calls Tryz.prog 64 #[.slice A b.length c] w (a4t b w):=by
 obtain ⟨ad,hA,-⟩:=a0w hr 0 (by omega)
 subst hA
 refine (callsIn_wide (n:=3)).1 ?_
 refine callsIn_of_wp_marks Tryz.func64 rfl trivial ?_ rfl
 simp only [Tryz.ntmps64,List.size_toArray,List.length_cons,List.length_nil,Nat.reduceAdd,Nat.reduceSub,Array.replicate_succ,Array.replicate_zero,List.push_toArray,List.append_toArray,List.nil_append,List.cons_append]
 have hI : decide ((b.length : Int) < 32) = false:=decide_eq_false (by omega)
 have hI2 : (32 : Int) <= (c : Int):=by omega
 obtain ⟨W0,hW0⟩ : ∃ W0,W0 = ((w.alloc (.cells #[.slice none 0 0] 84)).alloc (.cells #[.int .i64 0] 27)).alloc (.cells #[.slice none 0 0] 84):=⟨_,rfl⟩
 have HX:=Lib.hid (And.intro hr (And.intro hb (And.intro hl (And.intro hc h32))))
 clear hr hb hl hc h32
 gi_wp2
 rw [<- hW0]
 have hs0 : W0.heap.size = w.heap.size + 1 + 1 + 1:=by rw [hW0]; simp
 have hB0 : Below w.heap.size w W0:=by rw [hW0]; exact (((Below.refl w.heap.size w).alloc (Nat.le_refl _) _).alloc (by simp) _).alloc (by simp; omega) _
 have kr0 : W0.heap[w.heap.size]? = some (.cells #[.slice none 0 0] 84 (0,0)):=by rw [hW0]; exact a0i (a0i (a0k _ _) _) _
 have ke0 : W0.heap[w.heap.size + 1]? = some (.cells #[.int .i64 0] 27 (0,0)):=by rw [hW0]; exact a0i (a2h _ _ _) _
 have ko0 : W0.heap[w.heap.size + 1 + 1]? = some (.cells #[.slice none 0 0] 84 (0,0)):=by
  have:=a0k ((w.alloc (.cells #[.slice none 0 0] 84)).alloc (.cells #[.int .i64 0] 27)) (.cells #[.slice none 0 0] 84)
  simp only [World.size_alloc] at this
  rw [hW0]; exact this
 have H0:=Lib.hid (And.intro hs0 (And.intro hB0 (And.intro kr0 (And.intro ke0 ko0))))
 clear hW0 hs0 hB0 kr0 ke0 ko0
 refine ⟨trivial,(callsIn_wide.2 (c7i (some ad) 32 c W0)).mono ?_⟩
 rintro e w1 ⟨rfl,rfl⟩
 obtain ⟨Wb,hWb⟩ : ∃ Wb,Wb = W0.alloc (.cells #[.slice (some ad) 32 c] 22):=⟨_,rfl⟩
 obtain ⟨pb,hpb⟩ : ∃ pb,pb = W0.heap.size:=⟨_,rfl⟩
 rw [<- hWb,<- hpb]
 have hsb : Wb.heap.size = w.heap.size + 1 + 1 + 1 + 1:=by rw [hWb]; simp [H0.out.1]
 have hBb : Below w.heap.size w Wb:=by rw [hWb]; exact H0.out.2.1.alloc (by have:=H0.out.1; omega) _
 have kr : Wb.heap[w.heap.size]? = some (.cells #[.slice none 0 0] 84 (0,0)):=by rw [hWb]; exact a0i H0.out.2.2.1 _
 have ke : Wb.heap[w.heap.size + 1]? = some (.cells #[.int .i64 0] 27 (0,0)):=by rw [hWb]; exact a0i H0.out.2.2.2.1 _
 have ko : Wb.heap[w.heap.size + 1 + 1]? = some (.cells #[.slice none 0 0] 84 (0,0)):=by rw [hWb]; exact a0i H0.out.2.2.2.2 _
 have kb : Wb.heap[pb]? = some (.cells #[.slice (some ad) 32 c] 22 (0,0)):=by rw [hWb,hpb]; exact a0k W0 _
 have hlb : pb < Wb.heap.size:=a0f kb
 have HWb:=Lib.hid (And.intro hsb (And.intro hBb (And.intro kr (And.intro ke (And.intro ko (And.intro kb hlb))))))
 clear hWb hpb hsb hBb kr ke ko kb hlb
 gi_wp2
 refine wpIn_rangeFunc ?_
 intro fn hfn
 obtain ⟨hsb,hBb,kr,ke,ko,kb,hlb⟩:=HWb.out
 obtain ⟨tm,htm⟩ : ∃ tm,tm = tkTm (some ad) b.length c w.heap.size (w.heap.size + 1) (w.heap.size + 1 + 1) (.func (.func 156) #[] #[.pointer (some ⟨pb,0,none⟩)]) (.slice (some ad) b.length c) (.int .i64 b.length) (.bool false) (.slice (some ad) b.length c) (.slice (some ad) 32 c):=⟨_,rfl⟩
 obtain ⟨W1,hW1⟩ : ∃ W1,(Wb.alloc (.deferred (some []))).alloc (.loop (tkRec fn tm Wb.heap.size .ready none)) = W1:=⟨_,rfl⟩
 have hs1 : W1.heap.size = Wb.heap.size + 1 + 1:=by rw [<- hW1]; simp
 have hold : ∀ k,k < Wb.heap.size -> W1.heap[k]? = Wb.heap[k]?:=λ k hk=>by
  rw [<- hW1]; exact (Below.heap_alloc _ _ k (by simp; omega)).trans (Below.heap_alloc _ _ k hk)
 have kl : W1.heap[Wb.heap.size + 1]? = some (.loop (tkRec fn tm Wb.heap.size .ready none)):=by
  rw [<- hW1]; have:=World.alloc_heap_new (Wb.alloc (.deferred (some []))) (.loop (tkRec fn tm Wb.heap.size .ready none)); rwa [World.size_alloc] at this
 have kd : W1.heap[Wb.heap.size]? = some (.deferred (some [])):=by
  rw [<- hW1]; exact (Below.heap_alloc _ _ _ (by simp)).trans (World.alloc_heap_new Wb _)
 have hB1 : Below w.heap.size w W1:=by rw [<- hW1]; exact (hBb.alloc (by omega) _).alloc (by simp; omega) _
 have hp32 : (b.take 32).length = 32:=by rw [List.length_take]; have:=HX.out.2.2.2.2; omega
 have hC1 : (Kd.int .u8).C W1 (some ad) (b.take 32).length (b.take 32):=by
  have:=b6n (Kd.C_below HX.out.1 hB1) 32 HX.out.2.2.2.2
  rw [hp32]; exact this
 have hIt:=c7g 2 fn (some ad) b.length c w.heap.size (w.heap.size + 1) (w.heap.size + 1 + 1) Wb.heap.size (Wb.heap.size + 1) pb (.func (.func 156) #[] #[.pointer (some ⟨pb,0,none⟩)]) (.slice (some ad) b.length c) (.int .i64 b.length) (.bool false) (.slice (some ad) b.length c) (.slice (some ad) 32 c) W1 ad c (b.take 32) hp32 (λ x hx=>HX.out.2.1 x (List.mem_of_mem_take hx)) (by have:=HX.out.2.2.2.1; have:=HX.out.2.2.2.2; omega)
  ((hold _ (by omega)).trans kb) hC1 (by rw [<- htm]; exact kl) ((hold _ (by omega)).trans ko) ((hold _ (by omega)).trans kr) ((hold _ (by omega)).trans ke) (by omega) (by omega) (by omega)
 rw [<- htm] at hIt
 unfold b6B at hIt
 rw [c7k] at hIt
 have HIt:=Lib.hid hIt
 have HT:=Lib.hid htm
 have HK:=Lib.hid (And.intro kd (And.intro hs1 (And.intro hsb (And.intro hB1 (And.intro ((hold _ (by omega)).trans kr) ((hold _ (by omega)).trans ke))))))
 clear hIt hC1 hp32 kr ke ko kb kl kd hBb hold hlb
 refine ⟨Wb.heap.size + 1,[{ target:=.collected Wb.heap.size,args:=#[] }],W1,{ target:=.fn (.func 156) #[.pointer (some ⟨pb,0,none⟩)],args:=#[.func (.yield (Wb.heap.size + 1)) #[] #[]] },W1,156,
  #[.func (.yield (Wb.heap.size + 1)) #[] #[],.pointer (some ⟨pb,0,none⟩)],W1,?_,?_,?_,?_,λ h=>(by cases h),?_⟩
 · rw [<- hW1,htm]; exact run_enterLoop_outer _ _ _ _ _
 · simp [resolve,go_sem]
 · intro f' hf'; exact trivial
 · simp [invoke,go_sem]
 · clear hW1 htm
   refine HIt.out.mono ?_
   rintro e W2 ⟨⟨v,rfl⟩,h⟩
   obtain ⟨kd,hs1,hsb,hB1,kr,ke⟩:=HK.out
   rcases h with ⟨p,at_,hp,hT,h0⟩ | ⟨hX,hne,h0⟩
   · obtain ⟨vo,ko,hown,hok⟩:=hT.v
     obtain ⟨Av,cv,rfl⟩:=a3W hown
     have hend:=run_endLoop (P:=Tryz.prog) hT.lp (by simp [tkRec])
     have hend2 : (Instr.endLoop (Wb.heap.size + 1)).run Tryz.prog W2 = .ok none (W2.putObj (Wb.heap.size + 1) (.loop { tkRec fn tm Wb.heap.size .ready none with state:=.exhausted })):=hend
     have hO : Only (λ k=>w.heap.size <= k) w W2:=(Only.of_below (S:=λ k=>w.heap.size <= k) hB1).trans2 hT.on (λ k hk h=>by omega)
     obtain ⟨W3,hW3⟩ : ∃ W3,W2.putObj (Wb.heap.size + 1) (.loop { tkRec fn tm Wb.heap.size .ready none with state:=.exhausted }) = W3:=⟨_,rfl⟩
     rw [hW3] at hend2
     have hO3 : Only (λ k=>w.heap.size <= k) w W3:=by rw [<- hW3]; exact hO.putObj (by show w.heap.size <= _; omega) _
     have ko3 : W3.heap[w.heap.size + 1 + 1]? = some (.cells #[.slice Av (onesN b 256).length cv] 84 (0,0)):=by rw [<- hW3]; exact (World.putObj_heap_other (by omega)).trans ko
     have kd3 : W3.heap[Wb.heap.size]? = some (.deferred (some [])):=by rw [<- hW3]; exact (World.putObj_heap_other (by omega)).trans ((hT.on.block _ (a0f kd) (by omega)).trans kd)
     have kr3 : W3.heap[w.heap.size]? = some (.cells #[.slice none 0 0] 84 (0,0)):=by rw [<- hW3]; exact (World.putObj_heap_other (by omega)).trans ((hT.on.block _ (a0f kr) (by omega)).trans kr)
     have ke3 : W3.heap[w.heap.size + 1]? = some (.cells #[.int .i64 0] 27 (0,0)):=by rw [<- hW3]; exact (World.putObj_heap_other (by omega)).trans ((hT.on.block _ (a0f ke) (by omega)).trans ke)
     have hw3 : W3.ownsRow W1.heap.size 3 1 (.slice Av (onesN b 256).length cv) (onesN b 256).length ((onesN b 256).map (Value.int .i64)):=a5p hown (λ k hk=>by have:=hok k hk; rw [<- hW3]; exact World.putObj_heap_other (by omega))
     have HW3:=Lib.hid (And.intro hO3 (And.intro ko3 (And.intro kd3 (And.intro kr3 (And.intro ke3 (And.intro hw3 (And.intro hok hp)))))))
     have co : W3.cell? ⟨w.heap.size + 1 + 1,0,none⟩ = some (.slice Av (onesN b 256).length cv):=(a0a ko3 0).trans rfl
     have cr : W3.cell? ⟨w.heap.size,0,none⟩ = some (.slice none 0 0):=(a0a kr3 0).trans rfl
     have ce : W3.cell? ⟨w.heap.size + 1,0,none⟩ = some (.int .i64 0):=(a0a ke3 0).trans rfl
     have fr : W3.frozen? ⟨w.heap.size,0,none⟩ = false:=a0e kr3 0
     have fe : W3.frozen? ⟨w.heap.size + 1,0,none⟩ = false:=a0e ke3 0
     refine ⟨none,W3,hend2,?_⟩
     have HH:=Lib.hid (And.intro hsb hs1)
     clear hW3 hend hend2 hO hown hok ko kd hs1 hsb hB1 kr ke hT ko3 kd3 kr3 ke3 hw3 hO3 hp HIt HT HK
     rcases h0 with h0 | h0
     · have HE : Hid (dirT b = (13,[])):=Lib.hid (b6D HX.out.2.2.2.2 (by rw [h0]; decide))
       rw [h0] at co
       gi_wp2
       have hO4:=(HW3.out.1.setCell (p:=⟨w.heap.size,0,none⟩) (Nat.le_refl _) (.slice none 0 0)).setCell (p:=⟨w.heap.size + 1,0,none⟩) (by show w.heap.size <= w.heap.size + 1; omega) (.int .i64 13)
       exact dtEnd (by omega) hO4
        ((Below.heap_setCell _ ⟨w.heap.size + 1,0,none⟩ _ w.heap.size (by show w.heap.size ≠ w.heap.size + 1; omega)).trans ((a0n HW3.out.2.2.2.1 0 _).trans rfl))
        ((a0n ((Below.heap_setCell _ ⟨w.heap.size,0,none⟩ _ (w.heap.size + 1) (by show w.heap.size + 1 ≠ w.heap.size; omega)).trans HW3.out.2.2.2.2.1) 0 _).trans rfl)
        ((Below.heap_setCell _ ⟨w.heap.size + 1,0,none⟩ _ _ (by show w.heap.size + 1 + 1 + 1 + 1 ≠ w.heap.size + 1; omega)).trans ((Below.heap_setCell _ ⟨w.heap.size,0,none⟩ _ _ (by show w.heap.size + 1 + 1 + 1 + 1 ≠ w.heap.size; omega)).trans (by rw [<- HH.out.1]; exact HW3.out.2.2.1)))
        (λ W' _=>Kd.R_nil _ _ _ _ _) HE.out rfl rfl
     · have HE : Hid (dirT b = (0,onesN b 256)):=Lib.hid (c7l HX.out.2.2.2.2 h0)
       have hn0 : (((onesN b 256).length : Int) == 0) = false:=by
        simp; intro e; rw [e] at h0; exact absurd h0 (by decide)
       obtain ⟨L,hL⟩ : ∃ L,L = onesN b 256:=⟨_,rfl⟩
       rw [<- hL] at co hn0 HE HW3
       clear hL h0
       gi_wp2
       have hO4:=(HW3.out.1.setCell (p:=⟨w.heap.size,0,none⟩) (Nat.le_refl _) (.slice Av L.length cv)).setCell (p:=⟨w.heap.size + 1,0,none⟩) (by show w.heap.size <= w.heap.size + 1; omega) (.int .i64 0)
       exact dtEnd (by omega) hO4
        ((Below.heap_setCell _ ⟨w.heap.size + 1,0,none⟩ _ w.heap.size (by show w.heap.size ≠ w.heap.size + 1; omega)).trans ((a0n HW3.out.2.2.2.1 0 _).trans rfl))
        ((a0n ((Below.heap_setCell _ ⟨w.heap.size,0,none⟩ _ (w.heap.size + 1) (by show w.heap.size + 1 ≠ w.heap.size; omega)).trans HW3.out.2.2.2.2.1) 0 _).trans rfl)
        ((Below.heap_setCell _ ⟨w.heap.size + 1,0,none⟩ _ _ (by show w.heap.size + 1 + 1 + 1 + 1 ≠ w.heap.size + 1; omega)).trans ((Below.heap_setCell _ ⟨w.heap.size,0,none⟩ _ _ (by show w.heap.size + 1 + 1 + 1 + 1 ≠ w.heap.size; omega)).trans (by rw [<- HH.out.1]; exact HW3.out.2.2.1)))
        (λ W' hW'=>c7n HW3.out.2.2.2.2.2.1 (by have:=HH.out.1; have:=HH.out.2; omega) (λ k hk=>by
         have h1:=HH.out.1
         have h2:=HH.out.2
         exact (hW' k (by omega)).trans ((Below.heap_setCell _ ⟨w.heap.size + 1,0,none⟩ _ k (by show k ≠ w.heap.size + 1; omega)).trans (Below.heap_setCell _ ⟨w.heap.size,0,none⟩ _ k (by show k ≠ w.heap.size; omega))))) HE.out rfl rfl
   · have hend:=run_endLoop (P:=Tryz.prog) hX.lp (by simp [tkRec])
     have hend2 : (Instr.endLoop (Wb.heap.size + 1)).run Tryz.prog W2 = .ok (some .ret) (W2.putObj (Wb.heap.size + 1) (.loop { tkRec fn tm Wb.heap.size .done (some .ret) with state:=.exhausted })):=hend
     have hO : Only (λ k=>w.heap.size <= k) w W2:=(Only.of_below (S:=λ k=>w.heap.size <= k) hB1).trans2 hX.on (λ k hk h=>by omega)
     obtain ⟨W3,hW3⟩ : ∃ W3,W2.putObj (Wb.heap.size + 1) (.loop { tkRec fn tm Wb.heap.size .done (some .ret) with state:=.exhausted }) = W3:=⟨_,rfl⟩
     rw [hW3] at hend2
     have hO3 : Only (λ k=>w.heap.size <= k) w W3:=by rw [<- hW3]; exact hO.putObj (by show w.heap.size <= _; omega) _
     have kd3 : W3.heap[w.heap.size + 1 + 1 + 1 + 1]? = some (.deferred (some [])):=by rw [<- hW3,<- hsb]; exact (World.putObj_heap_other (by omega)).trans ((hX.on.block _ (a0f kd) (by omega)).trans kd)
     have kr3 : W3.heap[w.heap.size]? = some (.cells #[.slice none 0 0] 84 (0,0)):=by rw [<- hW3]; exact (World.putObj_heap_other (by omega)).trans hX.r0
     have ke3 : W3.heap[w.heap.size + 1]? = some (.cells #[.int .i64 13] 27 (0,0)):=by rw [<- hW3]; exact (World.putObj_heap_other (by omega)).trans hX.r1
     have HE : Hid (dirT b = (13,[])):=Lib.hid (b6D HX.out.2.2.2.2 h0)
     refine ⟨some .ret,W3,hend2,?_⟩
     have HZ:=Lib.hid (And.intro hO3 (And.intro kd3 (And.intro kr3 ke3)))
     clear hW3 hend hend2 hO kd hs1 hB1 kr ke hX kd3 kr3 ke3 hO3 HIt HT HK h0 hne
     gi_wp2
     exact dtEnd (by omega) HZ.out.1 HZ.out.2.2.1 HZ.out.2.2.2 HZ.out.2.1 (λ W' _=>Kd.R_nil _ _ _ _ _) HE.out rfl rfl
theorem c7p (A : Option Addr) (c : Nat) (b : List Int) (w : World) (hr : (Kd.int .u8).C w A b.length b) (hb : Bytes b) (hl : b.length <= 1000000) (hc : b.length <= c) :
    Calls Tryz.prog 64 #[.slice A b.length c] w (a4t b w):=by
 by_cases h : b.length < 32
 · exact c7h A c b w h
 · exact c7o A c b w hr hb hl hc (by omega)
end Go.Proofs.YtflfjpkmjnnodaaGreat
namespace Go.Proofs.YtflfjpkmjnnodaaGreat
open Go.RowKit Go.IntWalk Go.Proofs.YtflfjpkmjnnodaaGreatW.PrintWords
structure S1 (rbx mb mc p B r n0 : Nat) (ps : List Int) (qs : List (List Int)) (at_ : Nat) (w0 W : World) : Prop where
 rd : RfAt W B p ps at_
 kb : W.heap[rbx]? = some (.cells #[.pointer (some ⟨p,0,none⟩)] 87 (0,0))
 km : W.heap[mb]? = some (.cells #[.int .i64 r,.bool false,.slice (some ⟨mc,0,none⟩) 256 256] 26 (0,0))
 row : kq.R 84 W n0 (λ k=>k ≠ p /\ k ≠ rbx /\ k ≠ mb) (.slice (some ⟨mc,0,none⟩) 256 256) qs
 on : Below n0 w0 W
def b0D (rbx mb mc p B r n0 : Nat) (ps : List Int) (qs : List (List Int)) (at_ c : Nat) (w0 W : World) (e : Ending) (w' : World) : Prop:=
 Only (λ k=>k = p \/ k = mc) W w' /\ ((hdrT ps (8 * ps.length) 257 a0z 0 (2 ^ r) false at_).1 = 0 -> e = .returned (.int .i64 0) /\ S1 rbx mb mc p B r n0 ps (qs.set c (hdrT ps (8 * ps.length) 257 a0z 0 (2 ^ r) false at_).2.1) (hdrT ps (8 * ps.length) 257 a0z 0 (2 ^ r) false at_).2.2 w0 w') /\
 ((hdrT ps (8 * ps.length) 257 a0z 0 (2 ^ r) false at_).1 ≠ 0 -> e = .returned (.int .i64 (hdrT ps (8 * ps.length) 257 a0z 0 (2 ^ r) false at_).1) /\ Below n0 w0 w')
set_option maxRecDepth 100000 in
set_option maxHeartbeats 1000000 in
theorem c7q (rbx mb mc p B r n0 : Nat) (ps : List Int) (qs : List (List Int)) (at_ c : Nat) (w0 W : World) (h : S1 rbx mb mc p B r n0 ps qs at_ w0 W) (hps : Bytes ps) (hl : ps.length <= 1000000) (ha : at_ <= 8 * ps.length) (hr1 : 1 <= r) (hr2 : r <= 12) (hc : c < 256)
    (h1 : n0 <= mc) (h2 : mc < B) (h3 : B <= p) (h4 : p < rbx) (h5 : mb < B) (_ : n0 <= mb) (h7 : mb ≠ mc) :
    Calls Tryz.prog 67 #[.int .i64 c,.pointer (some ⟨rbx,0,none⟩),.pointer (some ⟨mb,0,none⟩)] W (b0D rbx mb mc p B r n0 ps qs at_ c w0 W):=by
 unfold b0D
 obtain ⟨_,_,hpb,_⟩:=h.rd.ex
 have hTk:=b5v B p r ps at_ W h.rd hps hl ha hr1 hr2 (a0f hpb)
 obtain ⟨H,hH⟩ : ∃ H,H = hdrT ps (8 * ps.length) 257 a0z 0 (2 ^ r) false at_:=⟨_,rfl⟩
 rw [<- hH] at hTk ⊢
 have HTk:=Lib.hid hTk
 have HS:=Lib.hid h
 have cb : W.cell? ⟨rbx,0,none⟩ = some (.pointer (some ⟨p,0,none⟩)):=(a0a h.kb 0).trans rfl
 obtain ⟨⟨m0,m1,m2⟩,-⟩:=cell3 h.km
 have hps':=a0f hpb
 have hcI : (0 : Int) <= (c : Int) /\ (c : Int) < 256:=by omega
 obtain ⟨hc0,hc1⟩:=hcI
 have HBw:=Lib.hid (And.intro hps' (And.intro (a0f h.km) (a0f h.kb)))
 clear h hTk hpb hH hps'
 go_enter Tryz.func67,Tryz.ntmps67
 go_wp2_with fail
 refine HTk.out.mono ?_
 rintro e w1 ⟨t1,t2,t3⟩
 have km1 : w1.heap[mb]? = some (.cells #[.int .i64 r,.bool false,.slice (some ⟨mc,0,none⟩) 256 256] 26 (0,0)):=(t3.block mb HBw.out.2.1 (by omega)).trans HS.out.km
 have kb1 : w1.heap[rbx]? = some (.cells #[.pointer (some ⟨p,0,none⟩)] 87 (0,0)):=(t3.block rbx HBw.out.2.2 (by omega)).trans HS.out.kb
 have row1 : kq.R 84 w1 n0 (λ k=>(k ≠ p /\ k ≠ rbx /\ k ≠ mb) /\ k < W.heap.size) (.slice (some ⟨mc,0,none⟩) 256 256) qs:=Kd.R_mono (Kd.R_step (Kd.R_bound HS.out.row) (λ k hk hlt=>t3.block k hlt (by have:=hk.1; exact this.1))) (λ k hk=>⟨hk.1,hk.2.2.1⟩)
 have on1 : Below n0 w0 w1:=HS.out.on.trans (t3.below (by have:=HBw.out.1; omega) (λ k hk=>by omega))
 obtain ⟨⟨u,hu⟩,hfu⟩:=b5k row1 c hc
 obtain ⟨⟨d0,d1,d2⟩,-⟩:=cell3 km1
 have HO:=Lib.hid (t3.mono (S':=λ k=>k = p \/ k = mc) (λ k _ h=>.inl h))
 have HF:=Lib.hid (And.intro km1 (And.intro kb1 (And.intro row1 on1)))
 by_cases hz : H.1 = 0
 · obtain ⟨g,rfl,hq,hql,hrd⟩:=t1 hz
   have HQ:=Lib.hid (And.intro hq (And.intro hql hrd))
   clear t1 t2 t3 km1 kb1 row1 on1 hq hql hrd
   go_wp2_with fail
   go_ret
   refine ⟨HO.out.setCell (p:=⟨mc,c,none⟩) (.inr rfl) _,λ _=>⟨rfl,?_⟩,λ h=>absurd hz h⟩
   have hO : Only (λ k=>k = mc) w1 (w1.setCell ⟨mc,c,none⟩ (.slice (some ⟨g,0,none⟩) 256 256)):=(Only.refl (λ k=>k = mc) w1).setCell (p:=⟨mc,c,none⟩) rfl _
   refine ⟨HQ.out.2.2.only hO (by show ¬ p = mc; omega) (λ k hB hk h=>by have h : k = mc:=h; omega),a1o HF.out.2.1 (p:=⟨mc,c,none⟩) (by show rbx ≠ mc; omega) _,a1o HF.out.1 (p:=⟨mc,c,none⟩) h7 _,?_,HF.out.2.2.2.setCell h1 _⟩
   have hq2 : (Kd.int .i64).R 3 w1 n0 (λ k=>W.heap.size <= k) (.slice (some ⟨g,0,none⟩) 256 256) H.2.1:=Kd.R_lower (Kd.R_mono (Kd.R_bound HQ.out.1) (λ k hk=>hk.2.1)) (by have:=HBw.out.1; omega)
   exact b5g (okp:=λ k=>W.heap.size <= k) (Kd.R_mono HF.out.2.2.1 (λ k hk=>hk.1)) c hc hq2 (λ k hk=>⟨⟨by have:=HBw.out.1; omega,by have:=HBw.out.2.2; omega,by have:=HBw.out.2.1; omega⟩,by have:=((Kd.R_bound HF.out.2.2.1).1 mc rfl).1.2; omega⟩)
 · have he:=t2 hz
   subst he
   clear t1 t2 t3 km1 kb1 row1 on1
   go_wp2_with fail
   go_ret
   exact ⟨HO.out.setCell (p:=⟨mc,c,none⟩) (.inr rfl) _,λ h=>absurd h hz,λ _=>⟨rfl,HF.out.2.2.2.setCell h1 _⟩⟩
def b6E (rbx mb mc p B r n0 : Nat) (ps : List Int) (T : Int × List (List Int) × Nat) (w0 : World) (e : Ending) (w' : World) : Prop:=
 (T.1 = 0 -> e = .returned (.int .i64 0) /\ S1 rbx mb mc p B r n0 ps T.2.1 T.2.2 w0 w') /\ (T.1 ≠ 0 -> e = .returned (.int .i64 T.1) /\ Below n0 w0 w')
theorem c7r (ps : List Int) (r : Nat) (l : List Int) {i : Nat} (hi : i < l.length) (qs : List (List Int)) (at_ : Nat) : hdrsT ps r (l.drop i) qs at_ =
    if (hdrT ps (8 * ps.length) 257 a0z 0 (2 ^ r) false at_).1 ≠ 0 then ((hdrT ps (8 * ps.length) 257 a0z 0 (2 ^ r) false at_).1,qs,at_) else
    hdrsT ps r (l.drop (i + 1)) (qs.set (l.getD i 0).toNat (hdrT ps (8 * ps.length) 257 a0z 0 (2 ^ r) false at_).2.1) (hdrT ps (8 * ps.length) 257 a0z 0 (2 ^ r) false at_).2.2:=by
 rw [List.drop_eq_getElem_cons hi,List.getD_eq_getElem?_getD,List.getElem?_eq_getElem hi]
 rfl
set_option maxRecDepth 100000 in
set_option maxHeartbeats 1000000 in
theorem c7s (Al : Option Addr) (cl : Nat) (l : List Int) (rbx mb mc p B r n0 : Nat) (ps : List Int) (qs : List (List Int)) (at_ : Nat) (w0 W : World) (h : S1 rbx mb mc p B r n0 ps qs at_ w0 W) (hl0 : (Kd.int .i64).R 3 W n0 (λ k=>k < mc /\ k < mb) (.slice Al l.length cl) l) (hlc : ∀ c ∈ l,0 <= c /\ c < 256) (hll : l.length <= 256)
    (hps : Bytes ps) (hl : ps.length <= 1000000) (ha : at_ <= 8 * ps.length) (hr1 : 1 <= r) (hr2 : r <= 12)
    (h1 : n0 <= mc) (h2 : mc < B) (h3 : B <= p) (h4 : p < rbx) (h5 : mb < B) (h6 : n0 <= mb) (h7 : mb ≠ mc) :
    Calls Tryz.prog 66 #[.slice Al l.length cl,.func (.func 67) #[] #[.pointer (some ⟨rbx,0,none⟩),.pointer (some ⟨mb,0,none⟩)]] W (b6E rbx mb mc p B r n0 ps (hdrsT ps r l qs at_) w0):=by
 obtain ⟨T,hT⟩ : ∃ T,T = hdrsT ps r l qs at_:=⟨_,rfl⟩
 rw [<- hT]
 have hT0 : hdrsT ps r (l.drop 0) qs at_ = T:=hT.symm
 have HX:=Lib.hid (And.intro h (And.intro hl0 (And.intro hlc (And.intro hps (And.intro ha hT0)))))
 clear h hl0 hlc hps ha hT hT0
 go_enter Tryz.func66,Tryz.ntmps66
 go_wp2_with fail
 go_loopw [6,7,10] (λ _ _ kv wr=>∃ i : Nat,i <= l.length /\ kv = .int .i64 i /\ Hid (∃ qs' at',S1 rbx mb mc p B r n0 ps qs' at' w0 wr /\ at' <= 8 * ps.length /\ hdrsT ps r (l.drop i) qs' at' = T /\ (Kd.int .i64).R 3 wr n0 (λ k=>k < mc /\ k < mb) (.slice Al l.length cl) l)) (λ _ _ kv _=>l.length - (intOf kv).toNat)
 case atStart=>exact ⟨0,by omega,rfl,Lib.hid ⟨qs,at_,HX.out.1,HX.out.2.2.2.2.1,HX.out.2.2.2.2.2,HX.out.2.1⟩⟩
 case round=>
  obtain ⟨i,hi,rfl,H⟩:=hrel
  obtain ⟨qs',at',hS,hat,hTi,hlr⟩:=H.out
  by_cases hlt : i < l.length
  · obtain ⟨ad,hA,hci⟩:=a0w (Kd.R_reads' hlr).2.2 i hlt
    subst hA
    have hm:=HX.out.2.2.1 _ (a1A hlt)
    obtain ⟨c,hc⟩ : ∃ c : Nat,l.getD i 0 = (c : Int):=⟨(l.getD i 0).toNat,by omega⟩
    rw [hc] at hci hm
    have hI : (i : Int) < (l.length : Int):=by omega
    rw [c7r ps r l hlt,hc,Int.toNat_natCast] at hTi
    have hCl:=c7q rbx mb mc p B r n0 ps qs' at' c w0 wr hS HX.out.2.2.2.1 hl hat hr1 hr2 (by omega) h1 h2 h3 h4 h5 h6 h7
    have hend:=λ h=>a7I 257 a0z 0 (2 ^ r) false at' hat (h : (hdrT ps (8 * ps.length) 257 a0z 0 (2 ^ r) false at').1 = 0)
    unfold b0D at hCl
    obtain ⟨Hd,hHd⟩ : ∃ Hd,Hd = hdrT ps (8 * ps.length) 257 a0z 0 (2 ^ r) false at':=⟨_,rfl⟩
    rw [<- hHd] at hCl hTi hend
    have HC:=Lib.hid (And.intro hCl (And.intro hTi (And.intro hend hlr)))
    clear hCl hTi hend hlr hS hat hHd hc hm H
    go_wp2_with fail
    refine HC.out.1.mono ?_
    rintro e w2 ⟨hon,t1,t2⟩
    by_cases hz : Hd.1 = 0
    · obtain ⟨rfl,hS2⟩:=t1 hz
      have hT2:=HC.out.2.1
      rw [if_neg (λ h=>h hz)] at hT2
      have HN : Hid (∃ qs' at',S1 rbx mb mc p B r n0 ps qs' at' w0 w2 /\ at' <= 8 * ps.length /\ hdrsT ps r (l.drop (i + 1)) qs' at' = T /\ (Kd.int .i64).R 3 w2 n0 (λ k=>k < mc /\ k < mb) (.slice (some ad) l.length cl) l):=
       Lib.hid ⟨_,_,hS2,HC.out.2.2.1 hz,hT2,Kd.R_step HC.out.2.2.2 (λ k hk hlt=>hon.block k hlt (λ h=>by rcases h with h | h <;> omega))⟩
      clear t1 t2 hS2 hon hT2
      go_wp2_with fail
      go_roundw
      case rel=>exact ⟨i + 1,by omega,by go_num,HN⟩
      case measure=>simp [intOf]; omega
    · obtain ⟨rfl,hb⟩:=t2 hz
      have hT2:=HC.out.2.1
      rw [if_pos hz] at hT2
      have HB:=Lib.hid (And.intro hb hT2)
      have hz2 : (Hd.1 != 0) = true:=by simpa using hz
      clear t1 t2 hon hb hT2
      go_wp2_with fail
      go_ret
      rw [<- HB.out.2]
      exact ⟨λ h=>absurd h hz,λ _=>⟨rfl,HB.out.1⟩⟩
  · obtain rfl : i = l.length:=by omega
    have hT3 : T = (0,qs',at'):=by rw [<- hTi,List.drop_length]; rfl
    clear hlr hTi
    go_wp2_with fail
    go_ret
    rw [hT3]
    exact ⟨λ _=>⟨rfl,hS⟩,λ h=>absurd rfl h⟩
set_option maxRecDepth 100000 in
theorem c7t (A : Option Addr) (c pb pc : Nat) (b : List Int) (i : Nat) (k : Int) (w : World) (hpb : w.cell? ⟨pb,0,none⟩ = some (.slice A b.length c)) (hpc : w.cell? ⟨pc,0,none⟩ = some (.int .i64 k)) (hr : (Kd.int .u8).C w A b.length b) (hi : i < b.length) (hl : b.length <= 1000000) (hb : Bytes b) :
    Calls Tryz.prog 197 #[.int .i64 i,.pointer (some ⟨pb,0,none⟩),.pointer (some ⟨pc,0,none⟩)] w λ e w'=>e = .returned (.bool (decide (ctxI b i = k))) /\ ∃ n,w' = w.drewN n:=by
 have HN:=Lib.hid (λ W (h : Below w.heap.size w W)=>a6Y A c b i W (Kd.C_below hr h) hi hl hb)
 obtain ⟨z,hz⟩ : ∃ z,z = ctxI b i:=⟨_,rfl⟩
 rw [<- hz] at HN ⊢
 clear hr hi hl hb hz
 go_enter Tryz.func197,Tryz.ntmps197
 go_wp2_with fail
 go_quiet ((go_at_call 155; refine Calls.quiet_of_same ((HN.out _ (a0b (Below.refl _ _) _)).mono λ e w' h=>⟨h.1,h.2.symm⟩)))
 all_goals
  go_wp2_with fail
  go_ret
  exact ⟨by first | rfl | exact a0X rfl,_,rfl⟩
def c7u (b : List Int) (k : Int) (w : World) (e : Ending) (w' : World) : Prop:=∃ v,e = .returned v /\ (Kd.int .u8).R 5 w' w.heap.size (λ _=>True) v (a0p b k) /\ Below w.heap.size w w'
set_option maxRecDepth 100000 in
set_option maxHeartbeats 1000000 in
theorem c7v (A : Option Addr) (c cc pb pc : Nat) (b : List Int) (k : Int) (w : World) (hpb : w.cell? ⟨pb,0,none⟩ = some (.slice A b.length cc)) (hpbl : pb < w.heap.size) (hpc : w.cell? ⟨pc,0,none⟩ = some (.int .i64 k)) (hpcl : pc < w.heap.size) (hr : (Kd.int .u8).C w A b.length b) (hl : b.length <= 1000000) (hb : Bytes b) :
    Calls Tryz.prog 196 #[.slice A b.length c,.func (Fn.func 197) #[] #[.pointer (some ⟨pb,0,none⟩),.pointer (some ⟨pc,0,none⟩)]] w (c7u b k w):=by
 have HR:=Lib.hid (And.intro hr (And.intro hl (And.intro hb (And.intro hpbl hpcl))))
 have HCe:=Lib.hid (And.intro hpb hpc)
 clear hr hl hb hpb hpc hpbl hpcl
 go_enter Tryz.func196,Tryz.ntmps196
 go_wp2_with fail
 go_loopw [5,10] (λ v kv wr=>∃ i : Nat,i <= b.length /\ kv = .int .i64 i /\ Hid ((Kd.int .u8).R 5 wr w.heap.size (λ _=>True) v (pkL b k i) /\ Below w.heap.size w wr)) (λ _ kv _=>b.length - (intOf kv).toNat)
 case atStart=>exact ⟨0,by omega,rfl,Lib.hid ⟨by have : pkL b k 0 = []:=rfl; rw [this]; exact Kd.R_nil _ _ _ _ _,Below.refl _ _⟩⟩
 case round=>
  obtain ⟨i,hi,rfl,H⟩:=hrel
  by_cases hlt : i < b.length
  · obtain ⟨Av,cv,rfl⟩:=Kd.R_slice H.out.1
    have hbi:=HR.out.2.2.1 _ (a1A hlt)
    obtain ⟨y,hy⟩ : ∃ y : Nat,b.getD i 0 = y:=⟨(b.getD i 0).toNat,by omega⟩
    obtain ⟨ad,hA,hcx⟩:=a0w (Kd.C_below HR.out.1 H.out.2) i hlt
    rw [hy] at hcx
    subst hA
    have hcl:=a4o b k i
    have HLn : Hid (((pkL b k i).length + 1) * 1 <= 140737488355328):=by show _ <= _; have:=HR.out.2.1; omega
    have hl6 : b.length <= 1000000:=HR.out.2.1
    obtain ⟨L,hL⟩ : ∃ L,L = pkL b k i:=⟨_,rfl⟩
    have HL:=Lib.hid hL
    have HY:=Lib.hid (And.intro hy hbi)
    have hF:=c7t (some ad) cc pb pc b i k wr (by rw [H.out.2.cell (p:=⟨pb,0,none⟩) HR.out.2.2.2.1]; exact HCe.out.1) (by rw [H.out.2.cell (p:=⟨pc,0,none⟩) HR.out.2.2.2.2]; exact HCe.out.2) (Kd.C_below HR.out.1 H.out.2) hlt HR.out.2.1 HR.out.2.2.1
    have HF:=Lib.hid hF
    rw [<- hL] at H hcl HLn ⊢
    clear hF hy hbi hL
    by_cases hcond : ctxI b i = k
    · have HN : Hid (pkL b k (i + 1) = L ++ [(y : Int)]):=by show _ = _; rw [a7t hcond,<- HL.out,HY.out.1]
      have hd:=decide_eq_true hcond
      rw [hd] at HF
      clear hcond hd
      go_wp2_with fail
      refine HF.out.mono ?_
      rintro e w1 ⟨rfl,nq,rfl⟩
      obtain ⟨w2,hw2⟩ : ∃ w2,w2 = wr.drewN nq:=⟨_,rfl⟩
      have HB2 : Hid (Below w.heap.size w w2 /\ w.heap.size <= w2.heap.size):=by
       have h1 : Below w.heap.size w w2:=by rw [hw2]; exact a0b H.out.2 nq
       exact Lib.hid ⟨h1,h1.size⟩
      have HR2 : Hid ((Kd.int .u8).R 5 w2 w.heap.size (λ _=>True) (.slice Av L.length cv) L):=Lib.hid (by rw [hw2]; exact Kd.R_drewN H.out.1 nq)
      rw [<- hw2]
      clear hw2 hcx
      go_wp2_with (at_builtin; refine Kd.R_append (Kd.int .u8) (w0:=w) (W:=w2) w.heap.size rfl (.tmp 18) (.tmp 20) 22 5 (.int .u8 0) 1 rfl Tryz.underlying22 a0C rfl (by decide) (by decide) _ _ (y : Int) [.int .u8 y] (λ _=>True) (λ _=>False) rfl rfl rfl (λ _ h=>h.elim) (λ _ _=>trivial) HR2.out HB2.out.1 HB2.out.2 HLn.out ?_; intro v1 w3 hr3 hb3 hg3 hat3; have HA:=Lib.hid (And.intro hr3 hb3); clear hr3 hb3 hg3 hat3)
      go_roundw
      case rel=>exact ⟨i + 1,by omega,by go_num,Lib.hid ⟨by rw [HN.out]; exact HA.out.1,HA.out.2⟩⟩
      case measure=>simp [intOf]; omega
    · have HN : Hid (pkL b k (i + 1) = L):=by show _ = _; rw [a7u hcond,<- HL.out]
      have hd:=decide_eq_false hcond
      rw [hd] at HF
      clear hcond hd
      go_wp2_with fail
      refine HF.out.mono ?_
      rintro e w1 ⟨rfl,nq,rfl⟩
      go_wp2_with fail
      go_roundw
      case rel=>exact ⟨i + 1,by omega,by go_num,Lib.hid ⟨by rw [HN.out]; exact Kd.R_drewN H.out.1 nq,a0b H.out.2 nq⟩⟩
      case measure=>simp [intOf]; omega
  · obtain rfl : i = b.length:=by omega
    go_wp2_with fail
    go_ret
    exact ⟨_,rfl,H.out.1,H.out.2⟩
def b6F (b : List Int) (k : Int) (w : World) (e : Ending) (w' : World) : Prop:=∃ v,e = .returned v /\ (Kd.int .i64).R 3 w' w.heap.size (λ _=>True) v (histL (a0p b k)) /\ Below w.heap.size w w'
theorem a7R {b : List Int} (hb : Bytes b) (k : Int) : Bytes (a0p b k):=b4I hb k _
set_option maxRecDepth 100000 in
theorem b6G (A : Option Addr) (c : Nat) (b : List Int) (k : Int) (w : World) (hr : (Kd.int .u8).C w A b.length b) (hl : b.length <= 1000000) (hb : Bytes b) :
    Calls Tryz.prog 146 #[.slice A b.length c,.int .i64 k] w (b6F b k w):=by
 obtain ⟨W,hW⟩ : ∃ W,W = (w.alloc (.cells #[.slice A b.length c] 22)).alloc (.cells #[.int .i64 k] 3):=⟨_,rfl⟩
 have hb1 : Below w.heap.size w W:=by rw [hW]; exact ((Below.refl _ _).alloc (Nat.le_refl _) _).alloc (by simp) _
 have hs : W.heap.size = w.heap.size + 2:=by rw [hW]; simp
 have hk1 : W.heap[w.heap.size]? = some (.cells #[.slice A b.length c] 22 (0,0)):=by rw [hW]; exact a0i (a0k _ _) _
 have hk2 : W.heap[w.heap.size + 1]? = some (.cells #[.int .i64 k] 3 (0,0)):=by rw [hW]; exact a2h _ _ _
 have HP:=Lib.hid (c7v A c c w.heap.size (w.heap.size + 1) b k W ((a0a hk1 0).trans rfl) (by omega) ((a0a hk2 0).trans rfl) (by omega) (Kd.C_below hr hb1) hl hb)
 have HX:=Lib.hid (And.intro hb1 (And.intro hl hb))
 have hc1 : W.cell? ⟨w.heap.size,0,none⟩ = some (.slice A b.length c):=(a0a hk1 0).trans rfl
 clear hr hl hb hb1 hs hk1 hk2
 go_enter Tryz.func146,Tryz.ntmps146
 go_wp2_with fail
 rw [<- hW]
 clear hW
 refine HP.out.mono ?_
 rintro e w1 ⟨v,rfl,hv,hb1⟩
 obtain ⟨A1,c1,rfl⟩:=Kd.R_slice hv
 have H1:=Lib.hid (And.intro (Kd.R_reads' hv).2.2 (a0h HX.out.1 hb1))
 have HLp : Hid ((a0p b k).length <= 1000000):=by show _ <= _; have:=a4o b k b.length; have:=HX.out.2.1; unfold a0p; omega
 clear hv hb1
 go_wp2_with fail
 refine (b5u A1 c1 (a0p b k) w1 H1.out.1 HLp.out (a7R HX.out.2.2 k)).mono ?_
 rintro e w2 ⟨v2,rfl,hv2,hb2⟩
 have H2:=Lib.hid (And.intro hv2 hb2)
 clear hv2 hb2
 go_wp2_with fail
 go_ret
 exact ⟨v2,rfl,Kd.R_lower H2.out.1 H1.out.2.size,a0h H1.out.2 H2.out.2⟩
end Go.Proofs.YtflfjpkmjnnodaaGreat
namespace Go.Proofs.YtflfjpkmjnnodaaGreat
open Go.RowKit Go.IntWalk Go.Proofs.YtflfjpkmjnnodaaGreatW.PrintWords Go.Proofs.YtflfjpkmjnnodaaGreatW.PrintMore
attribute [local go_sem] a1K a1Z a1L a2a
def metL (b : List Int) : Nat -> List Bool
 | 0=>List.replicate 256 false
 | i + 1=>(metL b i).set (ctxI b (i : Nat)).toNat true
theorem a7S (b : List Int) : ∀ i,(metL b i).length = 256
 | 0=>List.length_replicate
 | i + 1=>by unfold metL; rw [List.length_set]; exact a7S b i
theorem b6H {b : List Int} (hb : Bytes b) {i : Nat} (hi : i < b.length) : 0 <= ctxI b (i : Nat) /\ ctxI b (i : Nat) < 256:=by
 unfold ctxI
 rw [if_neg (by omega)]
 split
 · omega
 · exact hb.get _
theorem b6I {b : List Int} (hb : Bytes b) {c : Nat} (hc : c < 256) : ∀ i,i <= b.length -> (metL b i).getD c false = decide (0 < (pkL b (c : Int) i).length)
 | 0,_=>by
  have : pkL b (c : Int) 0 = []:=rfl
  rw [this]
  unfold metL
  rw [List.getD_eq_getElem?_getD,List.getElem?_replicate,if_pos hc]; rfl
 | i + 1,h=>by
  have ih:=b6I hb hc i (by omega)
  have hr:=b6H hb (show i < b.length by omega)
  unfold metL
  rw [List.getD_eq_getElem?_getD,List.getElem?_set]
  by_cases e : ctxI b (i : Nat) = (c : Int)
  · rw [if_pos (by omega),if_pos (by rw [a7S]; omega),a7t e]
    simp
  · rw [if_neg (by omega),<- List.getD_eq_getElem?_getD,ih,a7u e]
theorem c7w : (Tryz.prog.info? 196).map (·.size) = some 256:=by kernel_rfl
theorem c7x : (Tryz.prog.info? 4).map (·.size) = some 1:=by kernel_rfl
theorem c7y : Tryz.zeroCells196 = ((List.replicate 256 false).map Value.bool).toArray:=by kernel_rfl
theorem c7z (ms : List Bool) (hm : ms.length = 256) (i : Nat) (hi : i < 256) (w : World) : (Instr.index 196 (.agg (ms.map Value.bool).toArray) (.int .i64 i)).run Tryz.prog w = .ok (.bool (ms.getD i false)) w:=by
 obtain ⟨i0,hi0,hsz⟩:=Option.map_eq_some_iff.1 c7x
 have h1 : (0 : Int) <= i /\ (i : Int) < ((256 : Nat) : Int):=by omega
 have hag : (isAgg 4).run Tryz.prog w = .ok false w:=by simp [isAgg,Tryz.underlying4,go_sem,run_underlying]
 have he : ms[i]? = some ms[i]:=List.getElem?_eq_getElem (by omega)
 unfold Instr.index
 simp [run_underlying (P:=Tryz.prog) Tryz.underlying196,asIntOf,sizeOf,typeInfo,hi0,hsz,part,hag,h1,Result.andThen,he,hi]
def MetAt (p : Nat) (ms : List Bool) (w : World) : Prop:=w.heap[p]? = some (.cells (ms.map Value.bool).toArray 196 (0,0))
theorem MetAt.cell {p : Nat} {ms : List Bool} {w : World} (h : MetAt p ms w) {c : Nat} (hc : c < ms.length) : w.cell? ⟨p,c,none⟩ = some (.bool (ms.getD c false)) /\ w.frozen? ⟨p,c,none⟩ = false:=by
 refine ⟨(a0a h c).trans ?_,a0e h c⟩
 rw [List.getElem?_toArray,List.getElem?_map,List.getElem?_eq_getElem hc,List.getD_eq_getElem?_getD,List.getElem?_eq_getElem hc]; rfl
theorem MetAt.set {p : Nat} {ms : List Bool} {w : World} (h : MetAt p ms w) (c : Nat) : MetAt p (ms.set c true) (w.setCell ⟨p,c,none⟩ (.bool true)):=by
 unfold MetAt at h ⊢
 rw [a0n h c]
 congr 2
 rw [List.map_set]; simp
theorem MetAt.range {p : Nat} {ms : List Bool} {w : World} (h : MetAt p ms w) : w.rangeAt p 0 (ms.map Value.bool):=λ j v hv=>by
 rw [Nat.zero_add,a0a h j]
 simpa using hv
def c7A (b : List Int) (w : World) (e : Ending) (w' : World) : Prop:=∃ v,e = .returned v /\ (Kd.int .i64).R 3 w' w.heap.size (λ _=>True) v (presN b 256) /\ Below w.heap.size w w'
theorem c7B {b : List Int} (hb : Bytes b) {c : Nat} (hc : c < 256) : (metL b b.length).getD c false = decide (0 < (a0p b (c : Int)).length):=b6I hb hc b.length (Nat.le_refl _)
set_option maxRecDepth 100000 in
set_option maxHeartbeats 1000000 in
theorem b6J (A : Option Addr) (cp : Nat) (b : List Int) (w : World) (hr : (Kd.int .u8).C w A b.length b) (hl : b.length <= 1000000) (hb : Bytes b) :
    Calls Tryz.prog 104 #[.slice A b.length cp] w (c7A b w):=by
 obtain ⟨W,hW⟩ : ∃ W,W = w.alloc (.cells Tryz.zeroCells196 196):=⟨_,rfl⟩
 have hb1 : Below w.heap.size w W:=by rw [hW]; exact (Below.refl _ _).alloc (Nat.le_refl _) _
 have hm1 : MetAt w.heap.size (metL b 0) W:=by rw [hW,c7y]; exact a0k _ _
 have H1:=Lib.hid (And.intro hb1 hm1)
 have HR:=Lib.hid (And.intro hr (And.intro hl hb))
 obtain ⟨p,hp⟩ : ∃ p,p = w.heap.size:=⟨_,rfl⟩
 rw [<- hp] at H1
 have HP:=Lib.hid hp
 clear hr hl hb hb1 hm1
 go_enter Tryz.func104,Tryz.ntmps104
 go_wp2_with fail
 rw [<- hW,<- hp]
 clear hW hp
 go_loopw [10] (λ kv wr=>∃ i : Nat,i <= b.length /\ kv = .int .i64 i /\ Hid (MetAt p (metL b i) wr /\ Below p w wr /\ Only (λ k=>k = p) W wr)) (λ kv _=>b.length - (intOf kv).toNat)
 case atStart=>exact ⟨0,by omega,rfl,Lib.hid ⟨H1.out.2,by rw [HP.out]; have:=H1.out.1; rw [HP.out] at this; exact this,Only.refl _ _⟩⟩
 case round=>
  obtain ⟨i,hi,rfl,H⟩:=hrel
  by_cases hlt : i < b.length
  · have hB : Below w.heap.size w wr:=by have:=H.out.2.1; rw [HP.out] at this; exact this
    have hRr : (Kd.int .u8).C wr A b.length b:=Kd.C_below HR.out.1 hB
    have HAt:=Lib.hid (a6Y A cp b i wr hRr hlt HR.out.2.1 HR.out.2.2)
    obtain ⟨c,hc,hc2⟩ : ∃ c : Nat,ctxI b (i : Nat) = c /\ c < 256:=by
     have:=b6H HR.out.2.2 hlt
     exact ⟨(ctxI b (i : Nat)).toNat,by omega,by omega⟩
    rw [hc] at HAt
    obtain ⟨mc,mf⟩:=H.out.1.cell (c:=c) (by rw [a7S]; omega)
    have HN : Hid (metL b (i + 1) = (metL b i).set c true):=by show _ = _; rw [metL,hc,Int.toNat_natCast]
    have hl6 : b.length <= 1000000:=HR.out.2.1
    clear hc hRr hB
    go_wp2_with fail
    refine HAt.out.mono ?_
    rintro e w1 ⟨rfl,rfl⟩
    go_wp2_with fail
    go_roundw
    case rel=>exact ⟨i + 1,by omega,by go_num,Lib.hid ⟨by rw [HN.out]; exact H.out.1.set c,H.out.2.1.setCell (Nat.le_refl _) _,H.out.2.2.set1 _ _⟩⟩
    case measure=>simp [intOf]; omega
  · obtain rfl : i = b.length:=by omega
    have hld:=H.out.1.range
    obtain ⟨ms,hms⟩ : ∃ ms,ms = metL b b.length:=⟨_,rfl⟩
    have HMs : Hid (ms.length = 256 /\ ∀ c,c < 256 -> ms.getD c false = decide (0 < (a0p b (c : Int)).length)):=Lib.hid ⟨by rw [hms]; exact a7S b _,λ c hc=>by rw [hms]; exact c7B HR.out.2.2 hc⟩
    rw [<- hms] at hld
    have HLd:=Lib.hid hld
    clear hms hld
    go_wp2_with fail
    refine wp_load_mid 196 (.tmp 3) rfl p 0 rfl (ms.map Value.bool) _ HLd.out Tryz.underlying196 rfl (by rw [c7w]; simp [HMs.out.1]) ?_
    go_wp2_with fail
    go_loopw [5,19] (λ v kv wr=>∃ c : Nat,c <= 256 /\ kv = .int .i64 c /\ Hid ((Kd.int .i64).R 3 wr w.heap.size (λ _=>True) v (presN b c) /\ Below w.heap.size w wr)) (λ _ kv _=>256 - (intOf kv).toNat)
    case atStart=>exact ⟨0,by omega,rfl,Lib.hid ⟨by have : presN b 0 = []:=rfl; rw [this]; exact Kd.R_nil _ _ _ _ _,by have:=H.out.2.1; rw [HP.out] at this; exact this⟩⟩
    case round=>
     obtain ⟨c,hc,rfl,G⟩:=hrel
     by_cases hlt : c < 256
     · have hix:=c7z ms HMs.out.1 c hlt
       have hmc:=HMs.out.2 c hlt
       obtain ⟨Av,cv,rfl⟩:=Kd.R_slice G.out.1
       have hpl:=a5a b c
       have HLn : Hid (((presN b c).length + 1) * 8 <= 140737488355328):=by show _ <= _; omega
       obtain ⟨L,hL⟩ : ∃ L,L = presN b c:=⟨_,rfl⟩
       have hsucc:=a9A b c
       rw [<- hL] at G hpl HLn hsucc ⊢
       have HGB : Hid (Below w.heap.size w wr /\ w.heap.size <= wr.heap.size):=Lib.hid ⟨G.out.2,G.out.2.size⟩
       by_cases hp0 : 0 < (a0p b (c : Int)).length
       · rw [decide_eq_true hp0] at hmc
         rw [if_pos hp0] at hsucc
         rw [hmc] at hix
         have HS:=Lib.hid hsucc
         clear hmc hsucc hL hp0
         go_wp2_with (at_builtin; refine Kd.R_append (Kd.int .i64) (w0:=w) (W:=wr) w.heap.size rfl (.tmp 24) (.tmp 26) 84 3 (.int .i64 0) 8 rfl Tryz.underlying84 a4G rfl (by decide) (by decide) _ _ (c : Int) [.int .i64 c] (λ _=>True) (λ _=>False) rfl rfl rfl (λ _ h=>h.elim) (λ _ _=>trivial) G.out.1 HGB.out.1 HGB.out.2 HLn.out ?_; intro v1 w3 hr3 hb3 hg3 hat3; have HA:=Lib.hid (And.intro hr3 hb3); clear hr3 hb3 hg3 hat3)
         go_roundw
         case rel=>exact ⟨c + 1,by omega,by go_num,Lib.hid ⟨by rw [HS.out]; exact HA.out.1,HA.out.2⟩⟩
         case measure=>simp [intOf]; omega
       · rw [decide_eq_false hp0] at hmc
         rw [if_neg hp0] at hsucc
         rw [hmc] at hix
         have HS:=Lib.hid hsucc
         clear hmc hsucc hL hp0
         go_wp2_with fail
         go_roundw
         case rel=>exact ⟨c + 1,by omega,by go_num,Lib.hid ⟨by rw [HS.out]; exact G.out.1,G.out.2⟩⟩
         case measure=>simp [intOf]; omega
     · obtain rfl : c = 256:=by omega
       go_wp2_with fail
       go_ret
       exact ⟨_,rfl,G.out.1,G.out.2⟩
def widL (b : List Int) : List Int -> Nat
 | []=>0
 | c :: l=>max (manyC (histL (a0p b c))) (widL b l)
theorem b0E (b : List Int) (c : Int) : ∀ l : List Int,widL b (l ++ [c]) = max (widL b l) (manyC (histL (a0p b c)))
 | []=>by simp [widL]
 | x :: l=>by
  show max (manyC (histL (a0p b x))) (widL b (l ++ [c])) = max (max (manyC (histL (a0p b x))) (widL b l)) _
  rw [b0E b c l,Nat.max_assoc]
theorem b6K : manyC (histL []) = 0:=by decide +kernel
theorem b0F (b : List Int) : ∀ k,widL b (presN b k) = widN b k
 | 0=>rfl
 | k + 1=>by
  rw [a9A]
  show _ = max (widN b k) (manyC (histL (a0p b (k : Nat))))
  by_cases h : 0 < (a0p b (k : Int)).length
  · rw [if_pos h,b0E,b0F b k]
  · rw [if_neg h,b0F b k]
    have e : a0p b ((k : Nat) : Int) = []:=List.eq_nil_of_length_eq_zero (by omega)
    rw [e,b6K]; simp
theorem b6L (b : List Int) : ∀ l,widL b l <= 256
 | []=>by simp [widL]
 | c :: l=>by
  have:=b6L b l; have:=a4Z (histL (a0p b c))
  simp only [widL]; omega
set_option maxRecDepth 100000 in
set_option maxHeartbeats 1000000 in
theorem c7C (A : Option Addr) (cp : Nat) (b : List Int) (w : World) (hr : (Kd.int .u8).C w A b.length b) (hl : b.length <= 1000000) (hb : Bytes b) :
    Calls Tryz.prog 144 #[.slice A b.length cp] w (Ret (.int .i64 (widN b 256 : Nat)) w):=by
 have HR:=Lib.hid (And.intro hr (And.intro hl hb))
 clear hr hl hb
 go_enter Tryz.func144,Tryz.ntmps144
 go_wp2_with fail
 refine (b6J A cp b w HR.out.1 HR.out.2.1 HR.out.2.2).mono ?_
 rintro e w1 ⟨v,rfl,hv,hb1⟩
 obtain ⟨A1,c1,rfl⟩:=Kd.R_slice hv
 have H1:=Lib.hid (And.intro (Kd.R_reads' hv).2.2 hb1)
 have hpl:=a5a b 256
 obtain ⟨L,hL⟩ : ∃ L,L = presN b 256:=⟨_,rfl⟩
 have HL:=Lib.hid hL
 rw [<- hL] at H1 hpl ⊢
 clear hv hb1 hL
 go_wp2_with fail
 go_loopw [3,9] (λ mv kv wr=>∃ i : Nat,i <= L.length /\ kv = .int .i64 i /\ mv = .int .i64 (widL b (L.take i) : Nat) /\ Hid (Below w1.heap.size w1 wr)) (λ _ kv _=>L.length - (intOf kv).toNat)
 case atStart=>exact ⟨0,by omega,rfl,rfl,Lib.hid (Below.refl _ _)⟩
 case round=>
  obtain ⟨i,hi,rfl,rfl,H⟩:=hrel
  by_cases hlt : i < L.length
  · obtain ⟨ad,hA,hcx⟩:=a0w (Kd.C_below H1.out.1 H.out) i hlt
    subst hA
    have ht : L.take (i + 1) = L.take i ++ [L.getD i 0]:=by rw [List.take_succ_eq_append_getElem hlt,List.getD_eq_getElem?_getD,List.getElem?_eq_getElem hlt,Option.getD_some]
    obtain ⟨c,hc⟩ : ∃ c,c = L.getD i 0:=⟨_,rfl⟩
    rw [<- hc] at ht hcx
    obtain ⟨m,hm⟩ : ∃ m,m = widL b (L.take i):=⟨_,rfl⟩
    obtain ⟨k,hk⟩ : ∃ k,k = manyC (histL (a0p b c)):=⟨_,rfl⟩
    have hN : widL b (L.take (i + 1)) = max m k:=by rw [ht,b0E,<- hm,<- hk]
    have hm256 : m <= 256:=by rw [hm]; exact b6L _ _
    have hk256 : k <= 256:=by rw [hk]; exact a4Z _
    have HN:=Lib.hid (And.intro hN hk)
    rw [<- hm]
    have hBw:=a0h H1.out.2 H.out
    have HFor:=Lib.hid (b6G A cp b c wr (Kd.C_below HR.out.1 hBw) HR.out.2.1 HR.out.2.2)
    have HB:=Lib.hid H.out
    clear ht hc hm hN hk hBw
    go_wp2_with fail
    refine HFor.out.mono ?_
    rintro e w2 ⟨v2,rfl,hv2,hb2⟩
    obtain ⟨A2,c2,rfl⟩:=Kd.R_slice hv2
    have HV2:=Lib.hid (Kd.R_reads' hv2).2.2
    have HB2 : Hid (Below w1.heap.size w1 w2):=Lib.hid (a0h HB.out hb2)
    have HRi : Hid (a0M (histL (a0p b c)) = true):=Lib.hid (a5U _ (a7R HR.out.2.2 c) (by have:=a4o b c b.length; have:=HR.out.2.1; unfold a0p; omega))
    clear hv2 hb2
    go_wp2_with fail
    refine (a5Z A2 c2 _ w2 HV2.out HRi.out).mono ?_
    rw [<- HN.out.2]
    rintro e w3 ⟨rfl,rfl⟩
    by_cases hmk : (m : Int) < (k : Int)
    · have HM : Hid (max m k = k):=by show _ = _; omega
      go_wp2_with fail
      go_roundw
      case rel=>exact ⟨i + 1,by omega,by go_num,by rw [HN.out.1,HM.out],HB2.out⟩
      case measure=>simp [intOf]; omega
    · have HM : Hid (max m k = m):=by show _ = _; omega
      go_wp2_with fail
      go_roundw
      case rel=>exact ⟨i + 1,by omega,by go_num,by rw [HN.out.1,HM.out],HB2.out⟩
      case measure=>simp [intOf]; omega
  · obtain rfl : i = L.length:=by omega
    have HE : Hid (widL b (L.take L.length) = widN b 256):=by show _ = _; rw [List.take_length,HL.out,b0F]
    rw [HE.out]
    go_wp2_with fail
    go_ret
    exact ⟨rfl,a0h H1.out.2 H.out⟩
end Go.Proofs.YtflfjpkmjnnodaaGreat
namespace Go.Proofs.YtflfjpkmjnnodaaGreat
open Go.RowKit Go.IntWalk Go.Proofs.YtflfjpkmjnnodaaGreatW.PrintWords
set_option maxRecDepth 100000 in
theorem c7D (A : Option Addr) (cp p : Nat) (b : List Int) (k : Int) (w : World) (h : w.cell? ⟨p,0,none⟩ = some (.slice A b.length cp)) (hr : (Kd.int .u8).C w A b.length b) (hl : b.length <= 1000000) (hb : Bytes b) :
    Calls Tryz.prog 145 #[.int .i64 k,.pointer (some ⟨p,0,none⟩)] w (b6F b k w):=by
 have HF:=Lib.hid (b6G A cp b k w hr hl hb)
 clear hr hl hb
 go_enter Tryz.func145,Tryz.ntmps145
 go_wp2_with fail
 refine HF.out.mono ?_
 rintro e w1 ⟨v,rfl,hv,hb⟩
 have H1:=Lib.hid (And.intro hv hb)
 clear hv hb
 go_wp2_with fail
 go_ret
 exact ⟨v,rfl,H1.out.1,H1.out.2⟩
def a2e (b : List Int) (c : Nat) : List (List Int):=(List.range c).map (a1i b)
theorem b6M (b : List Int) (c : Nat) : a2e b (c + 1) = a2e b c ++ [a1i b c]:=by simp [a2e,List.range_succ]
theorem a7T (b : List Int) (c : Nat) : (a2e b c).length = c:=by simp [a2e]
def FMade (b : List Int) (r : Nat) (m0 m1 base c : Nat) (w wr : World) : Prop:=∃ A1 c1,wr.heap[m1]? = some (.cells #[.int .i64 r,.bool false,.slice A1 c c1] 26 (0,0)) /\ wr.heap[m0]? = some (.cells #[.int .i64 0,.bool false,.slice none 0 0] 26 (0,0)) /\ kq.R 84 wr base (λ _=>True) (.slice A1 c c1) (a2e b c) /\ Below m0 w wr /\ base <= wr.heap.size
theorem FMade.next {b : List Int} {r m0 m1 base c : Nat} {w w6 : World} {A1 : Option Addr} {c1 : Nat} (hm : m0 < base /\ m1 < base /\ m0 ≠ m1 /\ m0 <= m1) (h0 : w6.heap[m0]? = some (.cells #[.int .i64 0,.bool false,.slice none 0 0] 26 (0,0)))
    (h1 : w6.heap[m1]? = some (.cells #[.int .i64 r,.bool false,.slice A1 c c1] 26 (0,0))) {A2 : Option Addr} {c2 : Nat} (hq : kq.R 84 w6 base (λ _=>True) (.slice A2 (c + 1) c2) (a2e b (c + 1))) (hb : Below m0 w w6) (hsz : base <= w6.heap.size) :
    FMade b r m0 m1 base (c + 1) w (w6.setCell ⟨m1,2,none⟩ (.slice A2 (c + 1) c2)):=by
 refine ⟨A2,c2,a0n h1 2 _,a1o h0 (p:=⟨m1,2,none⟩) hm.2.2.1 _,?_,hb.setCell hm.2.2.2 _,by simpa using hsz⟩
 refine Kd.R_mono (Kd.R_far (p:=⟨m1,2,none⟩) (Kd.R_bound hq) (λ k hk=>?_) _) (λ _ _=>trivial)
 show k ≠ m1
 have:=hk.2.1
 omega
set_option maxRecDepth 100000 in
set_option maxHeartbeats 4000000 in
theorem c7E (p cp : Nat) (A : Option Addr) (b : List Int) (w : World) (hp : w.heap[p]? = some (.cells #[.slice A b.length cp] 22 (0,0))) (hr : (Kd.int .u8).C w A b.length b) (hl : b.length <= 1000000) (hb : Bytes b) :
    Calls Tryz.prog 142 #[.int .i64 (a0r b : Nat),.int .i64 256,.func (Fn.func 145) #[] #[.pointer (some ⟨p,0,none⟩)]] w (MadeM (a0r b : Nat) false (a0y b) w):=by
 obtain ⟨r,hrr⟩ : ∃ r,r = a0r b:=⟨_,rfl⟩
 have HRR:=Lib.hid hrr
 rw [<- hrr]
 clear hrr
 obtain ⟨W2,hW2⟩ : ∃ W2,W2 = (w.alloc (.cells #[.int .i64 0,.bool false,.slice none 0 0] 26)).alloc (.cells #[.int .i64 r,.bool false,.slice none 0 0] 26):=⟨_,rfl⟩
 have hb2 : Below w.heap.size w W2:=by rw [hW2]; exact ((Below.refl w.heap.size w).alloc (Nat.le_refl _) _).alloc (by simp) _
 have hs2 : W2.heap.size = w.heap.size + 2:=by rw [hW2]; simp
 have hm1 : W2.heap[w.heap.size + 1]? = some (.cells #[.int .i64 r,.bool false,.slice none 0 0] 26 (0,0)):=by rw [hW2]; exact a2h _ _ _
 have hm0 : W2.heap[w.heap.size]? = some (.cells #[.int .i64 0,.bool false,.slice none 0 0] 26 (0,0)):=by rw [hW2]; exact a0i (a0k _ _) _
 have HPl : Hid (w.heap.size <= w.heap.size + 1):=Nat.le_succ _
 have H2:=Lib.hid (And.intro hb2 (And.intro hs2 (And.intro hm1 hm0)))
 have HP:=Lib.hid hp
 have HR:=Lib.hid (And.intro hr (And.intro hl hb))
 clear hp hr hl hb hb2 hs2 hm1 hm0
 go_enter Tryz.func142,Tryz.ntmps142
 go_wp2_with fail
 rw [<- hW2]
 clear hW2
 obtain ⟨m0,hm0⟩ : ∃ m0,m0 = w.heap.size:=⟨_,rfl⟩
 have HM0:=Lib.hid hm0
 rw [<- hm0] at H2 ⊢
 clear hm0
 obtain ⟨m1,hm1⟩ : ∃ m1,m1 = m0 + 1:=⟨_,rfl⟩
 have HM1:=Lib.hid hm1
 rw [<- hm1] at H2 ⊢
 clear hm1
 go_loopw [16] (λ kv wr=>∃ c : Nat,c <= 256 /\ kv = .int .i64 c /\ Hid (FMade b r m0 m1 W2.heap.size c w wr)) (λ kv _=>256 - (intOf kv).toNat)
 case atStart=>exact ⟨0,by omega,rfl,Lib.hid ⟨none,0,H2.out.2.2.1,H2.out.2.2.2,Kd.R_nil _ _ _ _ _,H2.out.1,Nat.le_refl _⟩⟩
 case round=>
  obtain ⟨c,hc,rfl,H⟩:=hrel
  by_cases hlt : c < 256
  · obtain ⟨A1,c1,h1,h2,h3,h4,h5⟩:=H.out
    have hbw : Below w.heap.size w wr:=by have:=h4; rw [HM0.out] at this; exact this
    have hpc : wr.cell? ⟨p,0,none⟩ = some (.slice A b.length cp):=(a0a (a0g HP.out hbw) 0).trans rfl
    have HF:=Lib.hid (c7D A cp p b c wr hpc (Kd.C_below HR.out.1 hbw) HR.out.2.1 HR.out.2.2)
    have HH:=Lib.hid (And.intro h1 (And.intro h2 (And.intro h3 (And.intro h4 h5))))
    have hmm : Hid (m0 < W2.heap.size /\ m1 < W2.heap.size /\ m0 ≠ m1 /\ m0 <= m1):=by
     have:=a0f H2.out.2.2.1; have:=a0f H2.out.2.2.2; have:=HM1.out
     exact Lib.hid (by omega)
    have HPk:=Lib.hid (a4o b (c : Int) b.length)
    have HOwn : Hid (∀ k,(Value.slice A1 c c1).ownBlock = some k -> W2.heap.size <= k /\ k < wr.heap.size):=Lib.hid λ k hk=>⟨Kd.R_base h3 k hk,Kd.R_lt h3 k hk⟩
    clear h1 h2 h3 h4 h5 hbw hpc H
    go_wp2_with fail
    refine HF.out.mono ?_
    rintro e w3 ⟨vl,rfl,hvl,hb3⟩
    obtain ⟨Al,cl,rfl⟩:=Kd.R_slice hvl
    have hhl : (histL (a0p b (c : Int))).length = 256:=a1x _
    have hrd:=(Kd.R_reads' hvl).2.2
    have hmany:=a5Z Al cl (histL (a0p b (c : Int))) w3 hrd (a5U _ (a7R HR.out.2.2 c) (by have:=HPk.out; have:=HR.out.2.1; unfold a0p; omega))
    rw [hhl] at hrd hmany ⊢
    have HV:=Lib.hid hrd
    have HMa:=Lib.hid hmany
    have HB3:=Lib.hid hb3
    clear hvl hb3 hrd hmany hhl
    go_wp2_with fail
    refine HMa.out.mono ?_
    by_cases hp0 : 0 < (a0p b (c : Int)).length
    · have hmp : 0 < manyC (histL (a0p b (c : Int))):=b5X (a7R HR.out.2.2 c) (by have:=HPk.out; have:=HR.out.2.1; unfold a0p; omega) hp0
      have HCan:=Lib.hid (a5W HR.out.2.2 HR.out.2.1 hlt hp0)
      have HQ : Hid (a1i b c = normL (histL (a0p b (c : Int))) r):=by show _ = _; unfold a1i; rw [if_pos hp0,<- HRR.out]
      rw [<- HRR.out] at HCan
      obtain ⟨mn,hmn⟩ : ∃ mn,mn = manyC (histL (a0p b (c : Int))):=⟨_,rfl⟩
      rw [<- hmn] at hmp ⊢
      clear hmn hp0
      rintro e w' ⟨rfl,rfl⟩
      go_wp2_with fail
      refine (b5W Al cl _ r w3 HV.out HCan.out).mono ?_
      rintro e w5 ⟨vq,rfl,hq,hb5⟩
      rw [<- HQ.out] at hq
      obtain ⟨Aq,cq,rfl⟩:=Kd.R_slice hq
      obtain ⟨Q,hQ⟩ : ∃ Q,Q = a1i b c:=⟨_,rfl⟩
      rw [<- hQ] at hq ⊢
      have HQQ:=Lib.hid hQ
      obtain ⟨ql,hql⟩ : ∃ ql,ql = Q.length:=⟨_,rfl⟩
      rw [<- hql] at hq ⊢
      have HQr : Hid ((Kd.int .i64).R 3 w5 W2.heap.size (λ k=>wr.heap.size <= k) (.slice Aq ql cq) Q):=Lib.hid (Kd.R_mono (Kd.R_lower (Kd.R_bound hq) (Nat.le_trans HH.out.2.2.2.2 HB3.out.size)) (λ k hk=>by have:=hk.2.1; have:=HB3.out.size; omega))
      have hb35:=a0h HB3.out hb5
      have h15:=a0g HH.out.1 hb35
      have H05:=Lib.hid (a0g HH.out.2.1 hb35)
      obtain ⟨⟨ca,cb,cc⟩,fa,fb,fc⟩:=cell3 h15
      have H15:=Lib.hid h15
      have HB5:=Lib.hid hb35
      have hm1l:=a0f h15
      have hm1n : ¬ m1 = w5.heap.size:=by omega
      have hm1n' : ¬ w5.heap.size = m1:=by omega
      have HS5 : Hid (W2.heap.size <= w5.heap.size):=Lib.hid (Nat.le_trans HH.out.2.2.2.2 hb35.size)
      have HB5' : Hid (Below W2.heap.size w5 w5):=Below.refl _ _
      have HL : Hid (((a2e b c).length + 1) * 24 <= 140737488355328):=by show _ <= _; rw [a7T]; omega
      have HO5:=Lib.hid (Kd.R_below HH.out.2.2.1 hb35)
      clear hq hb5 h15 hql hQ hb35
      go_wp2_with (at_builtin; refine Kd.R_append kq (w0:=w5) (W:=w5) W2.heap.size rfl (.tmp 32) (.tmp 34) 24 84 (.slice none 0 0) 24 rfl Tryz.underlying24 a7C rfl (by decide) (by decide) (.slice A1 c c1) (a2e b c) Q [.slice Aq ql cq] (λ _=>True) (λ k=>wr.heap.size <= k) rfl (by simp [go_sem]) ⟨_,rfl,HQr.out⟩ (λ k hk=>⟨trivial,λ e=>by have:=(HOwn.out k e.symm).2; omega⟩) (λ _ _=>trivial) HO5.out HB5'.out HS5.out HL.out ?_; intro v1 w6 hr6 hb6 hg6 hat6; have h16:=a0V H15.out hg6 (λ e=>by have:=(HOwn.out _ e.symm).1; have:=hmm.out; omega); have H16:=Lib.hid h16; have H06:=Lib.hid (a0V H05.out hg6 (λ e=>by have:=(HOwn.out _ e.symm).1; have:=hmm.out; omega)); obtain ⟨⟨da,db,dc⟩,ga,gb,gc⟩:=cell3 h16; obtain ⟨A2,c2,rfl⟩:=Kd.R_slice hr6; have hlen : (a2e b c ++ [Q]).length = c + 1:=(by rw [List.length_append,a7T]; rfl); rw [hlen] at hr6; have HR6:=Lib.hid hr6; have HB6:=Lib.hid hb6; rw [hlen]; clear hr6 hb6 hg6 hat6 h16 hlen)
      go_roundw
      case rel=>
       refine ⟨c + 1,by omega,by go_num,Lib.hid (FMade.next hmm.out H06.out H16.out ?_ ?_ (Nat.le_trans HS5.out HB6.out.size))⟩
       · rw [b6M,<- HQQ.out]; exact HR6.out
       · have hm:=hmm.out
         have hs:=HH.out.2.2.2.2
         exact (HH.out.2.2.2.1.trans (HB5.out.mono (by omega))).trans (HB6.out.mono (by omega))
      case measure=>simp [intOf]; omega
    · have hpe : a0p b (c : Int) = []:=List.eq_nil_of_length_eq_zero (by omega)
      rw [hpe,b6K]
      have HQ : Hid (a1i b c = []):=by show _ = _; unfold a1i; rw [if_neg hp0]
      clear hp0 hpe
      rintro e w' ⟨rfl,rfl⟩
      have h15:=a0g HH.out.1 HB3.out
      have H05:=Lib.hid (a0g HH.out.2.1 HB3.out)
      obtain ⟨⟨ca,cb,cc⟩,fa,fb,fc⟩:=cell3 h15
      have H15:=Lib.hid h15
      have hm1l:=a0f h15
      have hm1n : ¬ m1 = w3.heap.size:=by omega
      have hm1n' : ¬ w3.heap.size = m1:=by omega
      have HS5 : Hid (W2.heap.size <= w3.heap.size):=Lib.hid (Nat.le_trans HH.out.2.2.2.2 HB3.out.size)
      have HB5' : Hid (Below W2.heap.size w3 w3):=Below.refl _ _
      have HL : Hid (((a2e b c).length + 1) * 24 <= 140737488355328):=by show _ <= _; rw [a7T]; omega
      have HO5:=Lib.hid (Kd.R_below HH.out.2.2.1 HB3.out)
      clear h15
      go_wp2_with (at_builtin; refine Kd.R_append kq (w0:=w3) (W:=w3) W2.heap.size rfl (.tmp 32) (.tmp 34) 24 84 (.slice none 0 0) 24 rfl Tryz.underlying24 a7C rfl (by decide) (by decide) (.slice A1 c c1) (a2e b c) [] [.slice none 0 0] (λ _=>True) (λ _=>False) rfl (by simp [go_sem]) ⟨_,rfl,Kd.R_nil _ _ _ _ _⟩ (λ _ h=>h.elim) (λ _ _=>trivial) HO5.out HB5'.out HS5.out HL.out ?_; intro v1 w6 hr6 hb6 hg6 hat6; have h16:=a0V H15.out hg6 (λ e=>by have:=(HOwn.out _ e.symm).1; have:=hmm.out; omega); have H16:=Lib.hid h16; have H06:=Lib.hid (a0V H05.out hg6 (λ e=>by have:=(HOwn.out _ e.symm).1; have:=hmm.out; omega)); obtain ⟨⟨da,db,dc⟩,ga,gb,gc⟩:=cell3 h16; obtain ⟨A2,c2,rfl⟩:=Kd.R_slice hr6; have hlen : (a2e b c ++ [([] : List Int)]).length = c + 1:=(by rw [List.length_append,a7T]; rfl); rw [hlen] at hr6; have HR6:=Lib.hid hr6; have HB6:=Lib.hid hb6; rw [hlen]; clear hr6 hb6 hg6 hat6 h16 hlen)
      go_roundw
      case rel=>
       refine ⟨c + 1,by omega,by go_num,Lib.hid (FMade.next hmm.out H06.out H16.out ?_ ?_ (Nat.le_trans HS5.out HB6.out.size))⟩
       · rw [b6M,HQ.out]; exact HR6.out
       · have hm:=hmm.out
         have hs:=HH.out.2.2.2.2
         exact (HH.out.2.2.2.1.trans (HB3.out.mono (by omega))).trans (HB6.out.mono (by omega))
      case measure=>simp [intOf]; omega
  · obtain rfl : c = 256:=by omega
    obtain ⟨A1,c1,h1,h2,h3,h4,h5⟩:=H.out
    obtain ⟨⟨ca,cb,cc⟩,fa,fb,fc⟩:=cell3 h1
    obtain ⟨⟨da,db,dc⟩,ga,gb,gc⟩:=cell3 h2
    have HH:=Lib.hid (And.intro h2 (And.intro h3 (And.intro h4 h5)))
    clear h1 h2 h3 h4 h5 H
    go_wp2_with fail
    have hmm : m0 < W2.heap.size:=a0f H2.out.2.2.2
    refine bodyPost_ret (results_cell_row (fn:=Tryz.f142) (p:=6) (ty:=26) rfl _ _ _ _ _ _ _ rfl (a1O HH.out.1 _ _ _) Tryz.underlying26 rfl a5X) rfl ?_
    have hw0:=HM0.out
    subst hw0
    refine ⟨_,rfl,?_,((HH.out.2.2.1.setCell (Nat.le_refl _) _).setCell (Nat.le_refl _) _).setCell (Nat.le_refl _) _⟩
    have e : a2e b 256 = a0y b:=rfl
    have h4 : kq.R 84 wr w.heap.size (λ k=>k ≠ w.heap.size) (.slice A1 256 c1) (a0y b):=Kd.R_mono (Kd.R_lower (Kd.R_bound HH.out.2.1) (by omega)) (λ k hk=>by have:=hk.2.1; omega)
    exact Kd.R_mono (a2X h4 _ _ _) (λ _ _=>trivial)
def b6N (b : List Int) (w : World) (e : Ending) (w' : World) : Prop:=
 (b.length = 0 /\ e = .returned (.tuple #[.agg #[.int .i64 0,.bool false,.slice none 0 0],.int .i64 1]) /\ Below w.heap.size w w') \/
 (0 < b.length /\ ∃ Av cv,e = .returned (.tuple #[.agg #[.int .i64 (a0r b : Nat),.bool false,.slice Av 256 cv],.int .i64 0]) /\ kq.R 84 w' w.heap.size (λ _=>True) (.slice Av 256 cv) (a0y b) /\ Below w.heap.size w w')
set_option maxRecDepth 100000 in
theorem c7F (A : Option Addr) (cp : Nat) (w : World) : Calls Tryz.prog 101 #[.slice A 0 cp] w (b6N [] w):=by
 obtain ⟨W1,hW1⟩ : ∃ W1,W1 = (w.alloc (.cells #[.slice A 0 cp] 22)).alloc (.cells #[.int .i64 0,.bool false,.slice none 0 0] 26):=⟨_,rfl⟩
 have hb1 : Below w.heap.size w W1:=by rw [hW1]; exact ((Below.refl w.heap.size w).alloc (Nat.le_refl _) _).alloc (by simp) _
 have hk1 : W1.heap[w.heap.size + 1]? = some (.cells #[.int .i64 0,.bool false,.slice none 0 0] 26 (0,0)):=by rw [hW1]; exact a2h _ _ _
 have hk0 : W1.heap[w.heap.size]? = some (.cells #[.slice A 0 cp] 22 (0,0)):=by rw [hW1]; exact a0i (a0k _ _) _
 have hc0 : W1.cell? ⟨w.heap.size,0,none⟩ = some (.slice A 0 cp):=(a0a hk0 0).trans rfl
 obtain ⟨m,hm⟩ : ∃ m,m = w.heap.size + 1:=⟨_,rfl⟩
 have HM:=Lib.hid hm
 rw [<- hm] at hk1
 obtain ⟨⟨ca,cb,cc⟩,fa,fb,fc⟩:=cell3 hk1
 have HB:=Lib.hid hb1
 have HK:=Lib.hid hk1
 clear hb1 hk1 hk0
 go_enter Tryz.func101,Tryz.ntmps101
 go_wp2_with fail
 rw [<- hW1,<- hm]
 clear hW1 hm
 go_wp2_with fail
 refine bodyPost_ret (a2d (fn:=Tryz.f101) (p:=2) (u:=3) (ty:=26) rfl _ _ _ _ rfl (a1P HK.out)) rfl ?_
 exact .inl ⟨rfl,rfl,HB.out⟩
theorem a4u {w w' : World} {m j : Nat} {c : Value} (hb : Below w.heap.size w w') (hc : w.cell? ⟨m,j,none⟩ = some c) (hf : w.frozen? ⟨m,j,none⟩ = false) : w'.frozen? ⟨m,j,none⟩ = false:=by
 rw [hb.frozen (p:=⟨m,j,none⟩) (World.block_lt_of_cell? w _ hc)]; exact hf
def SF (W1 : World) (p m n cp : Nat) (A : Option Addr) (W : World) : Prop:=Below W1.heap.size W1 W /\ W.cell? ⟨p,0,none⟩ = some (.slice A n cp) /\ W.cell? ⟨m,0,none⟩ = some (.int .i64 0) /\ W.cell? ⟨m,1,none⟩ = some (.bool false) /\ W.cell? ⟨m,2,none⟩ = some (.slice none 0 0) /\ W.frozen? ⟨m,0,none⟩ = false /\ W.frozen? ⟨m,1,none⟩ = false /\ W.frozen? ⟨m,2,none⟩ = false
theorem SF.keep {W1 W w' : World} {p m n cp : Nat} {A : Option Addr} (h : SF W1 p m n cp A W) (hb : Below W.heap.size W w') : SF W1 p m n cp A w':=
 ⟨a0h h.1 hb,a0s hb h.2.1,a0s hb h.2.2.1,a0s hb h.2.2.2.1,a0s hb h.2.2.2.2.1,a4u hb h.2.2.1 h.2.2.2.2.2.1,a4u hb h.2.2.2.1 h.2.2.2.2.2.2.1,a4u hb h.2.2.2.2.1 h.2.2.2.2.2.2.2⟩
theorem SF.drew {W1 W : World} {p m n cp : Nat} {A : Option Addr} (h : SF W1 p m n cp A W) : SF W1 p m n cp A W.drew:=
 ⟨h.1.drew,h.2.1,h.2.2.1,h.2.2.2.1,h.2.2.2.2.1,h.2.2.2.2.2.1,h.2.2.2.2.2.2.1,h.2.2.2.2.2.2.2⟩
set_option maxRecDepth 100000 in
set_option maxHeartbeats 4000000 in
theorem c7G (A : Option Addr) (cp : Nat) (b : List Int) (w : World) (hr : (Kd.int .u8).C w A b.length b) (hb : Bytes b) (hl : b.length <= 1000000) (h0 : 0 < b.length) :
    Calls Tryz.prog 101 #[.slice A b.length cp] w (b6N b w):=by
 have hne : ((b.length : Int) == 0) = false:=by simp; intro e; subst e; simp at h0
 have hne2 : ¬ b = []:=by intro e; subst e; simp at h0
 obtain ⟨n,hn⟩ : ∃ n,n = b.length:=⟨_,rfl⟩
 rw [<- hn] at hne
 obtain ⟨W1,hW1⟩ : ∃ W1,W1 = (w.alloc (.cells #[.slice A n cp] 22)).alloc (.cells #[.int .i64 0,.bool false,.slice none 0 0] 26):=⟨_,rfl⟩
 have hb1 : Below w.heap.size w W1:=by rw [hW1]; exact ((Below.refl w.heap.size w).alloc (Nat.le_refl _) _).alloc (by simp) _
 have hk1 : W1.heap[w.heap.size + 1]? = some (.cells #[.int .i64 0,.bool false,.slice none 0 0] 26 (0,0)):=by rw [hW1]; exact a2h _ _ _
 have hk0 : W1.heap[w.heap.size]? = some (.cells #[.slice A n cp] 22 (0,0)):=by rw [hW1]; exact a0i (a0k _ _) _
 have hc0 : W1.cell? ⟨w.heap.size,0,none⟩ = some (.slice A n cp):=(a0a hk0 0).trans rfl
 obtain ⟨m,hm⟩ : ∃ m,m = w.heap.size + 1:=⟨_,rfl⟩
 have HM:=Lib.hid hm
 rw [<- hm] at hk1
 obtain ⟨p,hp⟩ : ∃ p,p = w.heap.size:=⟨_,rfl⟩
 have HPp:=Lib.hid hp
 rw [<- hp] at hk0 hc0
 obtain ⟨⟨ca,cb,cc⟩,fa,fb,fc⟩:=cell3 hk1
 have s0 : SF W1 p m n cp A W1:=⟨Below.refl _ _,hc0,ca,cb,cc,fa,fb,fc⟩
 have HK:=Lib.hid (And.intro hk1 hk0)
 have hrz:=a2W b
 have HX:=Lib.hid (And.intro hb (And.intro hl (And.intro h0 (And.intro hb1 hn))))
 have HR1:=Lib.hid (Kd.C_below hr hb1)
 have hW256:=a7v b 256
 obtain ⟨wd,hwd⟩ : ∃ wd,wd = widN b 256:=⟨_,rfl⟩
 have hw256 : wd <= 256:=by omega
 have HWd:=Lib.hid hwd
 have hn6 : n <= 1000000:=by omega
 have HCW : Hid (∀ W : World,Below W1.heap.size W1 W -> Calls Tryz.prog 144 #[.slice A n cp] W λ e w'=>e = .returned (.int .i64 wd) /\ Below W.heap.size W w'):=Lib.hid λ W hW=>by
  have:=c7C A cp b W (Kd.C_below HR1.out hW) hl hb
  rw [<- hn,<- hwd] at this; exact this
 obtain ⟨rz,hrz1⟩ : ∃ rz,rz = a0r b:=⟨_,rfl⟩
 have HRZ:=Lib.hid hrz1
 have hpk : pickI n wd 9 = (rz : Int):=by rw [hn,hwd,hrz1]; exact hrz.1
 have HPk : Hid (∀ W : World,Calls Tryz.prog 143 #[.int .i64 n,.int .i64 wd,.int .i64 9] W λ e w'=>e = .returned (.int .i64 rz) /\ Below W.heap.size W w'):=Lib.hid λ W=>by
  have:=b5T n wd 9 W hn6 (by omega)
  rw [hpk] at this; exact this
 have HMd : Hid (∀ W : World,Below W1.heap.size W1 W -> Calls Tryz.prog 142 #[.int .i64 rz,.int .i64 256,.func (Fn.func 145) #[] #[.pointer (some ⟨p,0,none⟩)]] W λ e w'=>∃ Av cv,e = .returned (.agg #[.int .i64 rz,.bool false,.slice Av 256 cv]) /\ kq.R 84 w' W1.heap.size (λ _=>True) (.slice Av 256 cv) (a0y b) /\ Below W.heap.size W w'):=Lib.hid λ W hW=>by
  have h7:=a0g hk0 hW
  rw [hn] at h7
  have:=c7E p cp A b W h7 (Kd.C_below HR1.out hW) hl hb
  rw [<- hrz1] at this
  refine this.mono ?_
  rintro e w' ⟨v,rfl,hv,hb⟩
  obtain ⟨Av,cv,rfl⟩:=Kd.R_slice hv
  rw [a9L] at hv ⊢
  exact ⟨Av,cv,rfl,Kd.R_lower hv hW.size,hb⟩
 have hmf : ∀ (fn : Fn) (first cap : Array Value) (w : World),(Instr.makeFunc fn first cap).run Tryz.prog w = .ok (.func fn first cap) w:=λ _ _ _ _=>rfl
 rw [<- hn]
 clear hr hb hl h0 hb1 hk1 hk0 hn hrz hwd hrz1 hpk hW256
 go_enter Tryz.func101,Tryz.ntmps101
 go_wp2_with fail
 rw [<- hW1,<- hm,<- hp]
 clear hW1 hm hp
 go_wp2_with fail
 go_region_law (first
  | (go_simp; go_at_call 144; refine (HCW.out _ (by first | exact And.left ‹SF _ _ _ _ _ _ _› | exact (SF.drew ‹SF _ _ _ _ _ _ _›).1)).mono ?_; rintro e w' ⟨rfl,hb⟩; have s1:=(by first | exact SF.keep ‹_› hb | exact SF.keep (SF.drew ‹_›) hb : SF W1 p m n cp A w'); obtain ⟨g0,g1,g2,g3,g4,g5,g6,g7⟩:=id s1)
  | (go_simp; go_at_call 143; refine (HPk.out _).mono ?_; rintro e w' ⟨rfl,hb⟩; have s1:=(by first | exact SF.keep ‹_› hb | exact SF.keep (SF.drew ‹_›) hb : SF W1 p m n cp A w'); obtain ⟨g0,g1,g2,g3,g4,g5,g6,g7⟩:=id s1)
  | (go_simp; go_at_call 142; refine (HMd.out _ (by first | exact And.left ‹SF _ _ _ _ _ _ _› | exact (SF.drew ‹SF _ _ _ _ _ _ _›).1)).mono ?_; rintro e w' ⟨Av,cv,rfl,hv,hb⟩; have s1:=(by first | exact SF.keep ‹_› hb | exact SF.keep (SF.drew ‹_›) hb : SF W1 p m n cp A w'); obtain ⟨g0,g1,g2,g3,g4,g5,g6,g7⟩:=id s1))
 all_goals
  have HV:=Lib.hid hv
  have HS:=Lib.hid s1
  go_wp2_with fail
  refine bodyPost_ret (a2d (fn:=Tryz.f101) (p:=2) (u:=3) (ty:=26) rfl _ _ _ _ rfl (a1P (a1O (a0g HK.out.1 HS.out.1) _ _ _))) rfl ?_
  have hle : w.heap.size <= m:=by have:=HM.out; omega
  have hlt : m < W1.heap.size:=a0f HK.out.1
  have hB : Below w.heap.size w w':=a0h HX.out.2.2.2.1 HS.out.1
  have h4 : kq.R 84 w' w.heap.size (λ k=>k ≠ m) (.slice Av 256 cv) (a0y b):=Kd.R_mono (Kd.R_lower (Kd.R_bound HV.out) (by omega)) (λ k hk=>by have:=hk.2.1; omega)
  exact .inr ⟨HX.out.2.2.1,Av,cv,(by rw [<- HRZ.out]; rfl),Kd.R_mono (a2X h4 _ _ _) (λ _ _=>trivial),((hB.setCell hle _).setCell hle _).setCell hle _⟩
theorem a2J (A : Option Addr) (n c k : Nat) (hk : k <= n) : ∀ W : World,(Instr.slice 22 (.slice A n c) (some (.int .i64 (k : Int))) none none).run Tryz.prog W = .ok (.slice (if c = k then A else A.map (·.add (k * 1))) (n - k) (c - k)) W:=by
 intro W
 obtain ⟨i0,hi0,hz0,hz1,hz2⟩:=info_parts a0C
 have:=b8Q (P:=Tryz.prog) 22 5 .i64 Tryz.underlying22 hi0 1 hz1 A n c (k : Int) (by omega) (by omega) W
 simp only [Int.toNat_natCast] at this
 exact this
def a6d (ps : List Int) (w : World) (e : Ending) (w' : World) : Prop:=
 ((a0A ps).1 = 0 -> ∃ vm vp,e = .returned (.tuple #[.agg #[.int .i64 (a0A ps).2.1,.bool false,vm],vp,.int .i64 0]) /\ kq.R 84 w' w.heap.size (λ _=>True) vm (a0A ps).2.2.1 /\ (Kd.int .u8).R 5 w' w.heap.size (λ _=>True) vp (a0A ps).2.2.2) /\
 ((a0A ps).1 ≠ 0 -> e = .returned (.tuple #[.agg #[.int .i64 0,.bool false,.slice none 0 0],.slice none 0 0,.int .i64 (a0A ps).1])) /\ Below w.heap.size w w'
theorem a6e {ps : List Int} {k : Int} {w w' : World} (h : a0A ps = (k,0,[],[])) (hk : k ≠ 0) (hb : Below w.heap.size w w') : a6d ps w (.returned (.tuple #[.agg #[.int .i64 0,.bool false,.slice none 0 0],.slice none 0 0,.int .i64 k])) w':=by
 unfold a6d
 rw [h]
 exact ⟨λ e=>absurd e hk,λ _=>rfl,hb⟩
def SR (w5 : World) (mb rx m0 : Nat) (a b c q : Value) (W : World) : Prop:=Below w5.heap.size w5 W /\ W.cell? ⟨mb,0,none⟩ = some a /\ W.cell? ⟨mb,1,none⟩ = some b /\ W.cell? ⟨mb,2,none⟩ = some c /\ W.cell? ⟨rx,0,none⟩ = some q /\ W.cell? ⟨m0,0,none⟩ = some (.int .i64 0) /\ W.cell? ⟨m0,1,none⟩ = some (.bool false) /\ W.cell? ⟨m0,2,none⟩ = some (.slice none 0 0) /\ W.frozen? ⟨m0,0,none⟩ = false /\ W.frozen? ⟨m0,1,none⟩ = false /\ W.frozen? ⟨m0,2,none⟩ = false
theorem SR.keep {w5 W w' : World} {mb rx m0 : Nat} {a b c q : Value} (h : SR w5 mb rx m0 a b c q W) (hb : Below W.heap.size W w') : SR w5 mb rx m0 a b c q w':=by
 obtain ⟨h0,h1,h2,h3,h4,h5,h6,h7,h8,h9,h10⟩:=h
 exact ⟨a0h h0 hb,a0s hb h1,a0s hb h2,a0s hb h3,a0s hb h4,a0s hb h5,a0s hb h6,a0s hb h7,a4u hb h5 h8,a4u hb h6 h9,a4u hb h7 h10⟩
theorem SR.drew {w5 W : World} {mb rx m0 : Nat} {a b c q : Value} (h : SR w5 mb rx m0 a b c q W) : SR w5 mb rx m0 a b c q W.drew:=by
 obtain ⟨h0,h1,h2,h3,h4,h5,h6,h7,h8,h9,h10⟩:=h
 exact ⟨h0.drew,h1,h2,h3,h4,h5,h6,h7,h8,h9,h10⟩
set_option maxRecDepth 100000 in
set_option maxHeartbeats 4000000 in
theorem b6O (A : Option Addr) (c : Nat) (ps : List Int) (w : World) (hr : (Kd.int .u8).C w A ps.length ps) (hps : Bytes ps) (hl : ps.length <= 1000000) (hc : ps.length <= c) :
    Calls Tryz.prog 21 #[.slice A ps.length c] w (a6d ps w):=by
 obtain ⟨W,hW⟩ : ∃ W,W = w.alloc (.cells #[.int .i64 0,.bool false,.slice none 0 0] 26):=⟨_,rfl⟩
 have hb1 : Below w.heap.size w W:=by rw [hW]; exact (Below.refl _ _).alloc (Nat.le_refl _) _
 have hk1 : W.heap[w.heap.size]? = some (.cells #[.int .i64 0,.bool false,.slice none 0 0] 26 (0,0)):=by rw [hW]; exact a0k _ _
 have HB1:=Lib.hid hb1
 have HK1:=Lib.hid hk1
 have HR:=Lib.hid (And.intro (Kd.C_below hr hb1) (And.intro hps (And.intro hl hc)))
 obtain ⟨⟨ca,cb,cc⟩,fa,fb,fc⟩:=cell3 hk1
 by_cases h0 : ps.length = 0
 · have HE:=Lib.hid (show a0A ps = (3,0,[],[]) from by unfold a0A; rw [if_pos h0])
   rw [h0]
   clear hr hps hl hc hb1 hk1 h0
   go_enter Tryz.func21,Tryz.ntmps21
   go_wp2_with fail
   refine bodyPost_ret (a2F (fn:=Tryz.f21) (p:=2) (u:=3) (v:=4) (ty:=26) rfl _ _ _ _ rfl (a1P (a0k _ _))) rfl ?_
   exact a6e HE.out (by decide) ((Below.refl _ _).alloc (Nat.le_refl _) _)
 have hne : ((ps.length : Int) == 0) = false:=by simp; intro e; subst e; simp at h0
 obtain ⟨ad,hA,hcx⟩:=a0w (Kd.C_below hr hb1) 0 (by omega)
 subst hA
 have e0 : ad.add 0 = ad:=by simp [Addr.add]
 rw [e0] at hcx
 have hx:=hps _ (a1A (by omega : 0 < ps.length))
 obtain ⟨v,hv⟩ : ∃ v : Nat,v = (ps.getD 0 0).toNat:=⟨_,rfl⟩
 have hv2 : ps.getD 0 0 = (v : Int):=by omega
 rw [hv2] at hcx hx
 have hI0 : (0 : Int) < (ps.length : Int):=by omega
 by_cases hlog : 5 <= v /\ v <= 9
 · have d1 : decide ((v : Int) < 5) = false:=decide_eq_false (by omega)
   have d2 : decide ((9 : Int) < (v : Int)) = false:=decide_eq_false (by omega)
   have hcW:=hcx
   rw [hW] at hcx
   have hsl0:=a2J (some ad) ps.length c 1 (by omega)
   obtain ⟨A1,hA1⟩ : ∃ A1,A1 = (if c = 1 then some ad else (some ad).map (·.add (1 * 1))):=⟨_,rfl⟩
   rw [<- hA1] at hsl0
   have hsl : ∀ W : World,(Instr.slice 22 (.slice (some ad) ps.length c) (some (.int .i64 1)) none none).run Tryz.prog W = .ok (.slice A1 (ps.length - 1) (c - 1)) W:=hsl0
   have hC1 : (Kd.int .u8).C W A1 (ps.drop 1).length (ps.drop 1):=by
    have:=Kd.C_drop (c:=c) (m:=1) HR.out.1 (by omega) hc
    rw [hA1]; exact this
   have hl1 : (ps.drop 1).length = ps.length - 1:=List.length_drop
   have hDT:=c7p A1 (c - 1) (ps.drop 1) W hC1 (λ x hx=>hps x (List.mem_of_mem_drop hx)) (by omega) (by omega)
   rw [hl1] at hDT
   unfold a4t at hDT
   obtain ⟨dt,hdt⟩ : ∃ dt,dt = dirT (ps.drop 1):=⟨_,rfl⟩
   rw [<- hdt] at hDT
   have HDT:=Lib.hid hDT
   have HV:=Lib.hid (And.intro hv (And.intro hlog (And.intro hdt (And.intro h0 hcW))))
   clear hr hps hl hc hb1 hk1 h0 hv hv2 e0 hx hlog hA1 hC1 hl1 hDT hdt hcW hsl0
   go_enter Tryz.func21,Tryz.ntmps21
   go_wp2_with fail
   rw [<- hW]
   clear hW hcx
   refine HDT.out.mono ?_
   rintro e w1 ⟨vl,rfl,hvl,hb⟩
   have hk2:=a0g HK1.out hb
   have hcx1 : w1.cell? ad = some (.int .u8 v):=a0s hb HV.out.2.2.2.2
   have HB2:=Lib.hid (a0h HB1.out hb)
   have HWs:=Lib.hid (a0f HK1.out)
   have HK2:=Lib.hid hk2
   obtain ⟨⟨ca,cb,cc⟩,fa,fb,fc⟩:=cell3 hk2
   by_cases hz : dt.1 = 0
   · have hlst : dt.2.length <= 256 /\ (∀ x ∈ dt.2,0 <= x /\ x < 256) /\ 33 <= ps.length:=by
       have e:=HV.out.2.2.1
       unfold dirT at e
       split at e
       · rw [e] at hz; cases hz
       · split at e
         · rw [e] at hz; cases hz
         · rename_i h32 _
           rw [List.length_drop] at h32
           rw [e]
           refine ⟨b6k _ 256,λ x hx=>?_,by omega⟩
           obtain ⟨c,rfl,h1,_⟩:=b6l hx
           omega
     obtain ⟨Al,cl,rfl⟩:=Kd.R_slice hvl
     have HL:=Lib.hid (And.intro hvl (And.intro hlst hb))
     have hmk : ∀ w : World,(Instr.makeSlice 24 (.int .i64 256) (.int .i64 256)).run Tryz.prog w = .ok (.slice (some ⟨w.heap.size,0,none⟩) 256 256) (w.alloc (.cells (madeCells #[.slice none 0 0] 256) 84)):=λ w=>b5c 256 (by omega) w
     have hwr : IntKind.i64.wrap (v : Int) = (v : Int):=i64_in _ (by have:=HV.out.2.1; omega)
     have hca1 : ∀ o : Obj,(w1.alloc o).cell? ad = some (.int .u8 v):=λ o=>a0s ((Below.refl _ _).alloc (Nat.le_refl _) o) hcx1
     have hca2 : ∀ o o' : Obj,((w1.alloc o).alloc o').cell? ad = some (.int .u8 v):=λ o o'=>a0s (((Below.refl w1.heap.size w1).alloc (Nat.le_refl _) o).alloc (by simp) o') hcx1
     clear hvl hlst hb hk2
     rw [hz]
     go_wp2_with fail
     go_cut [7] (λ s7 wx=>a9N v w1 s7 wx)
     case first=>
      go_region
      all_goals
       go_wp2_with fail
       go_meet
       refine' b5l _ ?_ ?_ ?_ ?_ ?_ ?_
       rotate_left 1
       · repeat' (with_reducible (first | exact a0k _ _ | exact a2h _ _ _ | refine b5f ?_ | refine a0i ?_ _))
       · repeat' (with_reducible (first | refine a7F _ _ _ ?_ ?_ | refine b5e _ _ _ _ ?_ ?_ | refine Kd.R_drew ?_ | refine Kd.R_alloc ?_ _))
         all_goals omega
       · exact (((Below.refl w1.heap.size w1).alloc (Nat.le_refl _) _).alloc (by simp) _).drew
       all_goals omega
     case rest=>
      obtain ⟨mb,g,rfl,hmb,hg,hne7,hblk,hrow,hbl⟩:=hcut
      have h33:=HL.out.2.1.2.2
      have hsl0:=a2J (some ad) ps.length c 33 h33
      obtain ⟨A3,hA3⟩ : ∃ A3,A3 = (if c = 33 then some ad else (some ad).map (·.add (33 * 1))):=⟨_,rfl⟩
      rw [<- hA3] at hsl0
      have hsl3 : ∀ W : World,(Instr.slice 22 (.slice (some ad) ps.length c) (some (.int .i64 33)) none none).run Tryz.prog W = .ok (.slice A3 (ps.length - 33) (c - 33)) W:=hsl0
      have hBc : Below W.heap.size W wc:=a0h HL.out.2.2 hbl
      have hC3 : (Kd.int .u8).C wc A3 (ps.drop 33).length (ps.drop 33):=by
       have:=Kd.C_drop (c:=c) (m:=33) (Kd.C_below HR.out.1 hBc) h33 HR.out.2.2.2
       rw [hA3]; exact this
      obtain ⟨ps3,hps3⟩ : ∃ ps3,ps3 = ps.drop 33:=⟨_,rfl⟩
      have hl3 : ps3.length = ps.length - 33:=by rw [hps3]; exact List.length_drop
      have hb3 : Bytes ps3:=by rw [hps3]; exact λ x hx=>HR.out.2.1 x (List.mem_of_mem_drop hx)
      rw [<- hps3] at hC3
      have hnw:=a9V A3 (c - 33) ps3 wc hC3 (by have:=HR.out.2.2.1; omega) (by have:=HR.out.2.2.2; omega) (λ h=>by
       rw [hA3] at h; split at h <;> cases h)
      rw [hl3] at hnw
      have HNw:=Lib.hid hnw
      have HM:=Lib.hid (And.intro hmb (And.intro hg (And.intro hne7 (And.intro hblk (And.intro hrow hbl)))))
      have HP3:=Lib.hid (And.intro hps3 (And.intro hl3 (And.intro hb3 hBc)))
      clear hmb hg hne7 hblk hrow hbl h33 hsl0 hA3 hBc hC3 hps3 hl3 hb3 hnw
      have hmf : ∀ (fn : Fn) (first cap : Array Value) (w : World),(Instr.makeFunc fn first cap).run Tryz.prog w = .ok (.func fn first cap) w:=λ _ _ _ _=>rfl
      go_wp2_with fail
      refine HNw.out.mono ?_
      rintro e w2 ⟨p,rfl,hp,hrd,hb⟩
      obtain ⟨w3,hw3⟩ : ∃ w3,w3 = w2.alloc (.cells #[.pointer (some ⟨p,0,none⟩)] 87):=⟨_,rfl⟩
      obtain ⟨rx,hrx⟩ : ∃ rx,rx = w2.heap.size:=⟨_,rfl⟩
      have hb23 : Below w2.heap.size w2 w3:=by rw [hw3]; exact (Below.refl _ _).alloc (Nat.le_refl _) _
      have hkx : w3.heap[rx]? = some (.cells #[.pointer (some ⟨p,0,none⟩)] 87 (0,0)):=by rw [hw3,hrx]; exact a0k _ _
      obtain ⟨_,_,hpb,_⟩:=hrd.ex
      have hprx : p < rx:=by rw [hrx]; exact a0f hpb
      have hbc3 : Below wc.heap.size wc w3:=a0h hb hb23
      have hmbl:=a0f HM.out.2.2.2.1
      have hgl:=((Kd.R_bound HM.out.2.2.2.2.1).1 g rfl).2.2.1
      have h1s:=HB2.out.size
      have h2s:=HL.out.2.2.size
      have hS1 : S1 rx mb g p wc.heap.size v W.heap.size ps3 (List.replicate 256 []) 0 W w3:=by
       refine ⟨hrd.below hb23,hkx,a0g HM.out.2.2.2.1 hbc3,?_,a0h (a0h HL.out.2.2 HM.out.2.2.2.2.2) hbc3⟩
       exact Kd.R_below (Kd.R_lower (Kd.R_mono (Kd.R_bound HM.out.2.2.2.2.1) (λ k hk=>⟨by have:=hk.2.2.1; omega,by have:=hk.2.2.1; omega,hk.1⟩)) h2s) hbc3
      have hL1 : (Kd.int .i64).R 3 w3 W.heap.size (λ k=>k < g /\ k < mb) (.slice Al dt.2.length cl) dt.2:=by
       have hx:=HL.out.1
       have h3:=HM.out.1
       have h4:=HM.out.2.1
       exact Kd.R_below (Kd.R_below (Kd.R_mono (Kd.R_bound hx) (λ k hk=>⟨by have:=hk.2.2.1; omega,by have:=hk.2.2.1; omega⟩)) HM.out.2.2.2.2.2) hbc3
      have hEa:=c7s Al cl dt.2 rx mb g p wc.heap.size v W.heap.size ps3 (List.replicate 256 []) 0 W w3 hS1 hL1 HL.out.2.1.2.1 HL.out.2.1.1 HP3.out.2.2.1 (by have:=HP3.out.2.1; have:=HR.out.2.2.1; omega) (Nat.zero_le _) (by have:=HV.out.2.1; omega) (by have:=HV.out.2.1; omega) (by have:=HM.out.2.1; omega) hgl hp hprx hmbl (by have:=HM.out.1; omega) HM.out.2.2.1
      unfold b6E at hEa
      have hHe : (hdrsT ps3 v dt.2 (List.replicate 256 []) 0).1 = 0 -> (hdrsT ps3 v dt.2 (List.replicate 256 []) 0).2.2 <= 8 * ps3.length:=b6q _ _ _ _ _ (Nat.zero_le _)
      obtain ⟨T,hT⟩ : ∃ T,T = hdrsT ps3 v dt.2 (List.replicate 256 []) 0:=⟨_,rfl⟩
      rw [<- hT] at hEa hHe
      have HEa:=Lib.hid (And.intro hEa (And.intro hHe (And.intro hT hbc3)))
      have HPx:=Lib.hid (And.intro hp (And.intro hprx (And.intro hmbl hgl)))
      clear hS1 hL1 hEa hHe hT hrd hb hb23 hkx hpb hbc3 hmbl hgl h1s h2s hp hprx
      go_wp2_with fail
      rw [<- hw3,<- hrx]
      clear hw3 hrx
      have HSM:=Lib.hid (show a0A ps = if T.1 ≠ 0 then (T.1,0,[],[]) else if T.2.2 % 8 ≠ 0 /\ (ps3.getD (T.2.2 / 8) 0).toNat / 2 ^ (T.2.2 % 8) ≠ 0 then (4,0,[],[]) else (0,v,T.2.1,ps3.drop ((T.2.2 + 7) / 8)) from by
       have hlg:=HV.out.2.1
       unfold a0A
       rw [if_neg HV.out.2.2.2.1,<- HV.out.1,if_neg (by omega),<- HV.out.2.2.1,if_neg (λ h=>h hz),<- HP3.out.1]
       have e : a2G = List.replicate 256 []:=rfl
       rw [e,<- HEa.out.2.2.1])
      refine HEa.out.1.mono ?_
      rintro e w4 ⟨t1,t2⟩
      by_cases hT0 : T.1 = 0
      · obtain ⟨rfl,hS4⟩:=t1 hT0
        have HS4:=Lib.hid hS4
        have hkx4:=hS4.kb
        have hcx4 : w4.cell? ⟨rx,0,none⟩ = some (.pointer (some ⟨p,0,none⟩)):=(a0a hkx4 0).trans rfl
        have HPd:=Lib.hid (b5w wc.heap.size p ps3 T.2.2 w4 hS4.rd HP3.out.2.2.1 (by have:=HP3.out.2.1; have:=HR.out.2.2.1; omega) (HEa.out.2.1 hT0))
        clear t1 t2 hS4 hkx4
        go_wp2_with fail
        refine HPd.out.mono ?_
        rintro e w5 ⟨rfl,p2,p3⟩
        have hO5:=Lib.hid p3
        have hk5 : w5.heap[w.heap.size]? = some (.cells #[.int .i64 0,.bool false,.slice none 0 0] 26 (0,0)):=by
         rw [p3.block _ (by have:=HS4.out.on.size; have:=HWs.out; omega) (by have:=HPx.out.1; have:=HP3.out.2.2.2.size; have:=HWs.out; omega)]
         exact (HS4.out.on.block _ HWs.out).trans HK1.out
        have HK5:=Lib.hid hk5
        have HB5 : Hid (Below w.heap.size w w5):=Lib.hid ((HB1.out.trans (HS4.out.on.mono HB1.out.size)).trans (p3.below (by have:=HB1.out.size; have:=HS4.out.on.size; omega) (λ k hk=>by have:=HPx.out.1; have:=HP3.out.2.2.2.size; have:=HB1.out.size; omega)))
        have hcx5 : w5.cell? ⟨rx,0,none⟩ = some (.pointer (some ⟨p,0,none⟩)):=(a0a ((p3.block rx (a0f HS4.out.kb) (by have:=HPx.out.2.1; omega)).trans HS4.out.kb) 0).trans rfl
        obtain ⟨⟨ca,cb,cc⟩,fa,fb,fc⟩:=cell3 hk5
        cases hpd : padOk ps3 T.2.2 with
        | false=>
         have HE : Hid (a0A ps = (4,0,[],[])):=by
          have:=HSM.out
          rw [if_neg (λ h=>h hT0)] at this
          unfold padOk at hpd
          rw [if_pos (by have h:=of_decide_eq_false hpd; exact Classical.not_not.1 h)] at this; exact Lib.hid this
         clear p2 p3 hk5 hpd hT0
         go_wp2_with fail
         refine bodyPost_ret (a2F (fn:=Tryz.f21) (p:=2) (u:=3) (v:=4) (ty:=26) rfl _ _ _ _ rfl (a1P (a1O HK5.out _ _ _))) rfl ?_
         exact a6e HE.out (by decide) (((HB5.out.setCell (Nat.le_refl _) _).setCell (Nat.le_refl _) _).setCell (Nat.le_refl _) _)
        | true=>
         have HE : Hid (a0A ps = (0,v,T.2.1,ps3.drop ((T.2.2 + 7) / 8))):=by
          have:=HSM.out
          rw [if_neg (λ h=>h hT0)] at this
          unfold padOk at hpd
          rw [if_neg (of_decide_eq_true hpd)] at this; exact Lib.hid this
         have km5 : w5.heap[mb]? = some (.cells #[.int .i64 v,.bool false,.slice (some ⟨g,0,none⟩) 256 256] 26 (0,0)):=(p3.block mb (a0f HS4.out.km) (by have:=HPx.out.2.2.1; have:=HPx.out.1; omega)).trans HS4.out.km
         obtain ⟨⟨b0,b1,b2⟩,-⟩:=cell3 km5
         have hle5 : 8 * ((T.2.2 + 7) / 8) <= 8 * ps3.length:=by have:=HEa.out.2.1 hT0; omega
         have hl35 : ps3.length <= 1000000:=by have:=HP3.out.2.1; have:=HR.out.2.2.1; omega
         have HRs : Hid (∀ W' : World,Below w5.heap.size w5 W' -> Calls Tryz.prog 70 #[.pointer (some ⟨p,0,none⟩)] W' (b5x ps3 (8 * ((T.2.2 + 7) / 8)) W')):=Lib.hid λ W' hW'=>b5y wc.heap.size p ps3 _ W' ((p2 hpd).below hW') hl35 hle5
         have s0 : SR w5 mb rx w.heap.size (.int .i64 v) (.bool false) (.slice (some ⟨g,0,none⟩) 256 256) (.pointer (some ⟨p,0,none⟩)) w5:=⟨Below.refl _ _,b0,b1,b2,hcx5,ca,cb,cc,fa,fb,fc⟩
         clear p2 p3 hk5 hpd km5 hle5 hl35
         go_wp2_with fail
         go_region_law (go_simp; go_at_call 70; refine (HRs.out _ (by first | exact And.left ‹SR _ _ _ _ _ _ _ _ _› | exact (SR.drew ‹SR _ _ _ _ _ _ _ _ _›).1)).mono ?_; rintro e w6 ⟨vp,rfl,hvp,hb⟩; have s1:=(by first | exact SR.keep ‹_› hb | exact SR.keep (SR.drew ‹_›) hb : SR w5 mb rx w.heap.size (.int .i64 v) (.bool false) (.slice (some ⟨g,0,none⟩) 256 256) (.pointer (some ⟨p,0,none⟩)) w6); obtain ⟨g0,g1,g2,g3,g4,g5,g6,g7,g8,g9,g10⟩:=id s1)
         all_goals
          have HV6:=Lib.hid (And.intro hvp s1)
          clear hvp hb
          go_wp2_with fail
          refine bodyPost_ret (a2F (fn:=Tryz.f21) (p:=2) (u:=3) (v:=4) (ty:=26) rfl _ _ _ _ rfl (a1P (a1O (a0g HK5.out HV6.out.2.1) _ _ _))) rfl ?_
          have hlt5 : w.heap.size < w5.heap.size:=a0f HK5.out
          have hB6 : Below w.heap.size w w6:=a0h HB5.out HV6.out.2.1
          refine ⟨(λ _=>?_),(λ h=>by rw [HE.out] at h; exact absurd rfl h),((hB6.setCell (Nat.le_refl _) _).setCell (Nat.le_refl _) _).setCell (Nat.le_refl _) _⟩
          rw [HE.out]
          have e8 : (8 * ((T.2.2 + 7) / 8) + 7) / 8 = (T.2.2 + 7) / 8:=by omega
          have hp6:=HV6.out.1
          rw [e8] at hp6
          have hWlt:=HWs.out
          refine ⟨_,_,rfl,?_,?_⟩
          · have h4 : kq.R 84 w5 W.heap.size (λ k=>W.heap.size <= k) (.slice (some ⟨g,0,none⟩) 256 256) T.2.1:=Kd.R_mono (Kd.R_bound (Kd.R_step HS4.out.row (λ k hk hlt=>hO5.out.block k hlt hk.1))) (λ k hk=>hk.2.1)
            have h5 : kq.R 84 w6 w.heap.size (λ k=>k ≠ w.heap.size) (.slice (some ⟨g,0,none⟩) 256 256) T.2.1:=Kd.R_mono (Kd.R_lower (Kd.R_below h4 HV6.out.2.1) (Nat.le_of_lt hWlt)) (λ k hk=>by omega)
            exact Kd.R_mono (a2X h5 _ _ _) (λ _ _=>trivial)
          · have h4 : (Kd.int .u8).R 5 w6 w.heap.size (λ k=>k ≠ w.heap.size) vp (ps3.drop ((T.2.2 + 7) / 8)):=Kd.R_mono (Kd.R_lower (Kd.R_bound hp6) (Nat.le_of_lt hlt5)) (λ k hk=>Nat.ne_of_gt (Nat.lt_of_lt_of_le hlt5 hk.2.1))
            exact Kd.R_mono (a2X h4 _ _ _) (λ _ _=>trivial)
      · obtain ⟨rfl,hb4⟩:=t2 hT0
        have HE : Hid (a0A ps = (T.1,0,[],[])):=by have:=HSM.out; rw [if_pos hT0] at this; exact Lib.hid this
        have HB4:=Lib.hid (HB1.out.trans (hb4.mono HB1.out.size))
        have hk4 : w4.heap[w.heap.size]? = some (.cells #[.int .i64 0,.bool false,.slice none 0 0] 26 (0,0)):=(hb4.block _ HWs.out).trans HK1.out
        have HK4:=Lib.hid hk4
        obtain ⟨⟨ca,cb,cc⟩,fa,fb,fc⟩:=cell3 hk4
        have hT2 : (T.1 != 0) = true:=by simpa using hT0
        clear t1 t2 hb4 hk4
        go_wp2_with fail
        refine bodyPost_ret (a2F (fn:=Tryz.f21) (p:=2) (u:=3) (v:=4) (ty:=26) rfl _ _ _ _ rfl (a1P (a1O HK4.out _ _ _))) rfl ?_
        exact a6e HE.out hT0 (((HB4.out.setCell (Nat.le_refl _) _).setCell (Nat.le_refl _) _).setCell (Nat.le_refl _) _)
   · have HE:=Lib.hid (show a0A ps = (dt.1,0,[],[]) from by
       have hlg:=HV.out.2.1
       unfold a0A
       rw [if_neg HV.out.2.2.2.1,<- HV.out.1,if_neg (by omega),<- HV.out.2.2.1,if_pos hz])
     have hz2 : (dt.1 != 0) = true:=by simpa using hz
     obtain ⟨Al,cl,rfl⟩:=Kd.R_slice hvl
     clear hvl hb hk2
     go_wp2_with fail
     refine bodyPost_ret (a2F (fn:=Tryz.f21) (p:=2) (u:=3) (v:=4) (ty:=26) rfl _ _ _ _ rfl (a1P (a1O HK2.out _ _ _))) rfl ?_
     exact a6e HE.out hz (((HB2.out.setCell (Nat.le_refl _) _).setCell (Nat.le_refl _) _).setCell (Nat.le_refl _) _)
 · have HE:=Lib.hid (show a0A ps = (13,0,[],[]) from by unfold a0A; rw [if_neg h0,<- hv,if_pos (by omega)])
   have hd : (decide ((v : Int) < 5) = true) \/ (decide ((v : Int) < 5) = false /\ decide ((9 : Int) < (v : Int)) = true):=by
    by_cases h5 : v < 5
    · exact .inl (decide_eq_true (by omega))
    · exact .inr ⟨decide_eq_false (by omega),decide_eq_true (by omega)⟩
   rw [hW] at hcx
   clear hr hps hl hc hb1 hk1 h0 hv hv2 e0 hx hlog ca cb cc fa fb fc HB1 HK1 HR hW
   rcases hd with hd | ⟨hd,hd2⟩
   all_goals
    go_enter Tryz.func21,Tryz.ntmps21
    go_wp2_with fail
    refine bodyPost_ret (a2F (fn:=Tryz.f21) (p:=2) (u:=3) (v:=4) (ty:=26) rfl _ _ _ _ rfl (a1P (a0k _ _))) rfl ?_
    exact a6e HE.out (by decide) ((Below.refl _ _).alloc (Nat.le_refl _) _)
theorem cell2 {w : World} {mb : Nat} {a b : Value} {t : Nat} (h : w.heap[mb]? = some (.cells #[a,b] t (0,0))) : (w.cell? ⟨mb,0,none⟩ = some a /\ w.cell? ⟨mb,1,none⟩ = some b) /\ (w.frozen? ⟨mb,0,none⟩ = false /\ w.frozen? ⟨mb,1,none⟩ = false):=
 ⟨⟨(a0a h 0).trans rfl,(a0a h 1).trans rfl⟩,a0e h 0,a0e h 1⟩
set_option maxRecDepth 100000 in
set_option maxHeartbeats 1000000 in
theorem a3s (n k : Nat) (w : World) (hn : n < 4294967296) (hk : k <= 4) :
    Calls Tryz.prog 84 #[.int .u32 n,.int .i64 k] w (λ e w'=>∃ v,e = .returned v /\ (Kd.int .u8).R 5 w' w.heap.size (λ _=>True) v (leN n k) /\ Below w.heap.size w w'):=by
 go_enter Tryz.func84,Tryz.ntmps84
 go_wp2_with fail
 go_loopw [5,6,8] (λ v _ kv wr=>∃ i : Nat,i <= k /\ kv = .int .i64 i /\ Hid ((Kd.int .u8).R 5 wr w.heap.size (λ _=>True) v (leN n i) /\ Below w.heap.size w wr)) (λ _ _ kv _=>k - (intOf kv).toNat)
 case atStart=>exact ⟨0,by omega,rfl,Lib.hid ⟨Kd.R_nil _ _ _ _ _,Below.refl _ _⟩⟩
 case round=>
  obtain ⟨i,hi,rfl,H⟩:=hrel
  by_cases hlt : i < k
  · obtain ⟨Av,cv,rfl⟩:=Kd.R_slice H.out.1
    have hI : (i : Int) < (k : Int):=by omega
    have HN:=Lib.hid (b0w n i)
    have hLl : (leN n i).length = i:=a1R n i
    obtain ⟨L,hL⟩ : ∃ L,L = leN n i:=⟨_,rfl⟩
    rw [<- hL] at H HN hLl ⊢
    have HLn : Hid ((L.length + 1) * 1 <= 140737488355328):=Lib.hid (by omega)
    have HE : Hid (∀ y : Int,y = ((n / 256 ^ i % 256 : Nat) : Int) -> leN n (i + 1) = L ++ [y]):=Lib.hid (λ y hy=>by rw [hy]; exact HN.out)
    have hi4 : i = 0 \/ i = 1 \/ i = 2 \/ i = 3:=by omega
    clear hL HN
    rcases hi4 with rfl | rfl | rfl | rfl
    all_goals
     go_wp2_with (at_builtin; refine b2w .u8 (w0:=w) (W:=wr) rfl (.tmp 11) (.tmp 17) 22 5 1 rfl Tryz.underlying22 a0C (by decide) _ _ _ rfl rfl H.out.1 H.out.2 HLn.out ?_; intro v1 w3 hr3 hb3 hg3 hat3; have HA:=Lib.hid (And.intro hr3 hb3); clear hr3 hb3 hg3 hat3)
     go_roundw
     case rel=>
      have hnn:=hn
      have HV:=HA.out.1
      first
       | exact ⟨0 + 1,by omega,by go_num,Lib.hid ⟨by rw [HE.out ((n : Int) % 256) (by clear HA HV; first | rfl | (simp; done) | (simp; omega))]; exact HV,HA.out.2⟩⟩
       | exact ⟨1 + 1,by omega,by go_num,Lib.hid ⟨by rw [HE.out ((n : Int) / 256 % 256) (by clear HA HV; first | rfl | (simp; done) | (simp; omega))]; exact HV,HA.out.2⟩⟩
       | exact ⟨2 + 1,by omega,by go_num,Lib.hid ⟨by rw [HE.out ((n : Int) / 65536 % 256) (by clear HA HV; first | rfl | (simp; done) | (simp; omega))]; exact HV,HA.out.2⟩⟩
       | exact ⟨3 + 1,by omega,by go_num,Lib.hid ⟨by rw [HE.out ((n : Int) / 16777216) (by clear HA HV; simp; omega)]; exact HV,HA.out.2⟩⟩
     case measure=>simp [intOf]; omega
  · obtain rfl : i = k:=by omega
    go_wp2_with fail
    go_ret
    exact ⟨_,rfl,H.out.1,H.out.2⟩
theorem c7H (fs : List Int) (i : Nat) : rdN fs (i + 1) = rdN fs i + (fs.getD i 0).toNat * 256 ^ i:=rfl
theorem a7U (a : Nat) (ha : a < 9223372036854775808) : (BitVec.ofInt 64 (a : Int)).toNat = a:=by
 have h : BitVec.ofInt 64 (a : Int) = BitVec.ofNat 64 a:=BitVec.ofInt_natCast 64 a
 rw [h,BitVec.toNat_ofNat,Nat.mod_eq_of_lt (by omega)]
theorem b6P (a b : Nat) (ha : a < 4294967296) (hb : b < 4294967296) : bits .or .i64 (a : Int) (b : Int) = ((a ||| b : Nat) : Int):=by
 have hx : a ||| b < 2 ^ 32:=Nat.or_lt_two_pow (by omega) (by omega)
 show IntKind.i64.wrap ((BitVec.ofInt 64 (a : Int) ||| BitVec.ofInt 64 (b : Int)).toNat : Int) = _
 rw [BitVec.toNat_or,a7U a (by omega),a7U b (by omega),IntKind.wrap_i64]
 omega
theorem c7I {n x : Nat} (i : Nat) (hi : i <= 3) (hn : n < 256 ^ i) (hx : x < 256) : bits .or .i64 (n : Int) ((x * 256 ^ i : Nat) : Int) = ((n + x * 256 ^ i : Nat) : Int):=by
 have h3 : (256 : Nat) ^ i = 2 ^ (8 * i):=by rw [Nat.pow_mul]
 have h4 : (256 : Nat) ^ i <= 256 ^ 3:=Nat.pow_le_pow_right (by decide) hi
 have h5 : x * 256 ^ i <= 255 * 256 ^ 3:=Nat.mul_le_mul (by omega) h4
 have h6 : (256 : Nat) ^ 3 = 16777216:=by decide
 rw [b6P n _ (by omega) (by omega)]
 congr 1
 rw [Nat.or_comm,nat_join (8 * i) _ _ (by rw [<- h3]; exact Nat.mul_mod_left _ _) (by rw [<- h3]; exact hn),Nat.add_comm]
structure RdB (w0 : World) (p : Nat) (fs : List Int) (sh : Bool) (w : World) : Prop where
 ex : ∃ A c,w.heap[p]? = some (.cells #[.slice A fs.length c,.bool sh] 179 (0,0)) /\ (Kd.int .u8).C w0 A fs.length fs /\ fs.length <= c
 lo : w0.heap.size <= p
 bel : Below w0.heap.size w0 w
theorem RdB.later {w0 : World} {p : Nat} {fs : List Int} {sh : Bool} {w w' : World} (h : RdB w0 p fs sh w) (ho : Only (λ j=>j ≠ p /\ w0.heap.size <= j) w w') : RdB w0 p fs sh w':=by
 obtain ⟨A,c,h1,h2,h3⟩:=h.ex
 refine ⟨⟨A,c,(ho.block p (a0f h1) (λ h=>h.1 rfl)).trans h1,h2,h3⟩,h.lo,h.bel.trans (ho.below h.bel.size (λ k hk=>hk.2))⟩
def b6Q (w0 : World) (p k : Nat) (fs : List Int) (sh : Bool) (w : World) (e : Ending) (w' : World) : Prop:=
 e = .returned (.int .i64 (rdN fs (min k fs.length) : Nat)) /\ RdB w0 p (fs.drop k) (sh || decide (fs.length < k)) w' /\ Only (λ j=>j = p) w w'
def NumAt (w0 : World) (p i : Nat) (fs : List Int) (sh : Bool) (w wr : World) : Prop:=RdB w0 p (fs.drop i) sh wr /\ Only (λ j=>j = p) w wr
theorem c7J (A : Option Addr) (n c : Nat) (hn : 1 <= n) : ∀ W : World,(Instr.slice 22 (.slice A n c) (some (.int .i64 1)) none none).run Tryz.prog W = .ok (.slice (if c = 1 then A else A.map (·.add (1 * 1))) (n - 1) (c - 1)) W:=a2J A n c 1 hn
set_option maxRecDepth 100000 in
set_option maxHeartbeats 1000000 in
theorem a4v (w0 : World) (p k : Nat) (fs : List Int) (sh : Bool) (w : World) (h : RdB w0 p fs sh w) (hk : k <= 4) (hb : Bytes fs) (hl : fs.length <= 1000000) :
    Calls Tryz.prog 137 #[.pointer (some ⟨p,0,none⟩),.int .i64 k] w (b6Q w0 p k fs sh w):=by
 have HH:=Lib.hid h
 have HB:=Lib.hid hb
 clear h hb
 go_enter Tryz.func137,Tryz.ntmps137
 go_wp2_with fail
 go_step3
 go_wp2_with fail
 go_step3
 go_wp2_with fail
 go_loopw [5,6,8] (λ nv _ kv wr=>∃ i : Nat,i <= k /\ i <= fs.length /\ nv = .int .i64 (rdN fs i : Nat) /\ kv = .int .i64 i /\ Hid (NumAt w0 p i fs sh w wr)) (λ _ _ kv _=>k - (intOf kv).toNat)
 case atStart=>exact ⟨0,by omega,by omega,rfl,rfl,Lib.hid ⟨HH.out,Only.refl _ _⟩⟩
 case round=>
  obtain ⟨i,hi,hif,rfl,rfl,H⟩:=hrel
  by_cases hlt : i < k
  · have hI : (i : Int) < (k : Int):=by omega
    obtain ⟨A,c,kb,kC,kc⟩:=H.out.1.ex
    have hdl : (fs.drop i).length = fs.length - i:=List.length_drop
    by_cases hlf : i < fs.length
    · obtain ⟨m,hm⟩ : ∃ m,m = (fs.drop i).length:=⟨_,rfl⟩
      have hm1 : 1 <= m:=by omega
      have hm0 : ((m : Int) == 0) = false:=by simp; omega
      have hm2 : (0 : Int) < (m : Int):=by omega
      have hm6 : m <= 1000000:=by omega
      rw [<- hm] at kb kc
      obtain ⟨⟨ca,cb⟩,fa,fb⟩:=cell2 kb
      obtain ⟨ad,hA,hcx0⟩:=a0w kC 0 (by omega)
      have hcx:=a0s H.out.1.bel hcx0
      have e0 : ad.add 0 = ad:=by simp [Addr.add]
      rw [e0] at hcx
      have hg0 : (fs.drop i).getD 0 0 = fs.getD i 0:=by rw [List.getD_eq_getElem?_getD,List.getElem?_drop,Nat.add_zero,<- List.getD_eq_getElem?_getD]
      rw [hg0] at hcx
      have hby:=HB.out.get i
      obtain ⟨x,hx⟩ : ∃ x : Nat,fs.getD i 0 = x:=⟨(fs.getD i 0).toNat,by omega⟩
      rw [hx] at hcx hby
      have hxl : x < 256:=by omega
      have hrn : rdN fs (i + 1) = rdN fs i + x * 256 ^ i:=by rw [c7H,hx,Int.toNat_natCast]
      have hr0:=a2I HB.out i
      have hor:=c7I i (by omega) hr0 hxl
      rw [<- hrn] at hor
      obtain ⟨r,hr⟩ : ∃ r,r = rdN fs i:=⟨_,rfl⟩
      rw [<- hr] at hor hr0
      have hsl:=c7J A m c hm1
      have hdd:=Kd.C_drop (c:=c) (m:=1) kC (by omega) (by omega)
      obtain ⟨A',hA'⟩ : ∃ A',A' = (if c = 1 then A else A.map (·.add (1 * 1))):=⟨_,rfl⟩
      have hdd2 : (Kd.int .u8).C w0 A' ((fs.drop i).drop 1).length ((fs.drop i).drop 1):=by rw [hA']; exact hdd
      rw [<- hA'] at hsl
      rw [List.drop_drop] at hdd2
      have hml : m - 1 = (fs.drop (i + 1)).length:=by rw [List.length_drop]; omega
      have HK:=Lib.hid (And.intro kb (And.intro hdd2 (And.intro (by rw [<- hml]; omega : (fs.drop (i + 1)).length <= c - 1) hml)))
      have HO:=Lib.hid (H.out)
      have HOr:=Lib.hid hor
      rw [<- hr]
      subst hA
      have hi4 : i = 0 \/ i = 1 \/ i = 2 \/ i = 3:=by omega
      clear hdl hm hg0 hx hby hrn hr hdd hA' hdd2 hml kC kb e0 hor hcx0
      rcases hi4 with rfl | rfl | rfl | rfl
      all_goals
       go_wp2_with fail
       go_roundw
       case rel=>exact ⟨_,by omega,by omega,by first | exact congrArg _ HOr.out | (simp at HOr ⊢; exact HOr.out),by go_num,Lib.hid ⟨⟨⟨A',c - 1,by rw [<- HK.out.2.2.2]; exact a0n HK.out.1 0 _,HK.out.2.1,HK.out.2.2.1⟩,HO.out.1.lo,HO.out.1.bel.setCell HO.out.1.lo _⟩,HO.out.2.setCell rfl _⟩⟩
       case measure=>simp [intOf]; omega
    · obtain rfl : i = fs.length:=by omega
      rw [List.drop_length] at kb kC kc
      obtain ⟨⟨ca,cb⟩,fa,fb⟩:=cell2 kb
      have HK:=Lib.hid (And.intro kb (And.intro kC kc))
      have HO:=Lib.hid (H.out)
      have HM : Hid (min k fs.length = fs.length /\ fs.drop k = [] /\ (sh || decide (fs.length < k)) = true):=Lib.hid ⟨by omega,List.drop_eq_nil_of_le (by omega),by rw [decide_eq_true hlt]; simp⟩
      clear kb kC kc hdl
      go_wp2_with fail
      go_ret
      refine ⟨by rw [HM.out.1]; rfl,?_,HO.out.2.setCell rfl _⟩
      rw [HM.out.2.1,HM.out.2.2]
      exact ⟨⟨A,c,a0n HK.out.1 1 _,HK.out.2.1,HK.out.2.2⟩,HO.out.1.lo,HO.out.1.bel.setCell HO.out.1.lo _⟩
  · obtain rfl : i = k:=by omega
    have HM : Hid (min i fs.length = i /\ (sh || decide (fs.length < i)) = sh):=Lib.hid ⟨by omega,by rw [decide_eq_false (by omega)]; simp⟩
    go_wp2_with fail
    go_ret
    refine ⟨by rw [HM.out.1]; rfl,?_,H.out.2⟩
    rw [HM.out.2]
    exact H.out.1
theorem b6R : a0t 0 1 = [false]:=by decide
theorem b6S : a0t 1 1 = [true]:=by decide
theorem c7K {l : List Int} (h : Asc l) {i : Nat} (hi : i <= l.length) : putN l i <= 256:=by
 cases i with
 | zero=>exact Nat.zero_le _
 | succ i=>
  show (l.getD i 0).toNat + 1 <= 256
  have:=h.hi _ (a1A (show i < l.length by omega)); omega
theorem a7V {l : List Int} {n : Nat} (hn : n <= 256) : ((dirB l).take n).length = n:=by
 rw [List.length_take,a3M]; omega
def DRel (P : Nat) (l : List Int) (n : Nat) (W wr : World) : Prop:=PutRel P P (.slice none 0 0) ((dirB l).take n) W wr
theorem DRel.cell {P n : Nat} {l : List Int} {W wr : World} (h : DRel P l n W wr) (hn : n <= 256) : wr.cell? ⟨P,1,none⟩ = some (.int .i64 n):=by
 obtain ⟨v,h1,_⟩:=h
 have:=(a0a h1.blk 1).trans rfl
 rw [a7V hn] at this; exact this
theorem DRel.below {P n : Nat} {l : List Int} {w W wr : World} (h : DRel P l n W wr) (hb : Below w.heap.size w W) (hp : w.heap.size <= P) : Below w.heap.size w wr:=PutRel.bel h hb hp (λ k hk=>by simp [Value.ownBlock] at hk)
def c7L (l : List Int) (w : World) (e : Ending) (w' : World) : Prop:=∃ v,e = .returned (.tuple #[v,.bool true]) /\ (Kd.int .u8).R 5 w' w.heap.size (λ _=>True) v (dirL l) /\ Below w.heap.size w w'
set_option maxRecDepth 100000 in
set_option maxHeartbeats 4000000 in
theorem c7M (A : Option Addr) (cp : Nat) (l : List Int) (w : World) (hr : (Kd.int .i64).C w A l.length l) (hA : Asc l) (hl : l.length <= 256) :
    Calls Tryz.prog 151 #[.slice A l.length cp] w (c7L l w):=by
 obtain ⟨ad,rfl,hcs⟩:=a5C hr hA.pos
 have h00:=hcs 0 hA.pos
 rw [hA.zero,Addr.add_zero'] at h00
 obtain ⟨W,hW⟩ : ∃ W,W = w.alloc (.cells #[.slice none 0 0,.int .i64 0] 229):=⟨_,rfl⟩
 have hb1 : Below w.heap.size w W:=by rw [hW]; exact (Below.refl _ _).alloc (Nat.le_refl _) _
 have hw0 : WrVal W w.heap.size w.heap.size (.slice none 0 0) []:=by rw [hW]; exact b0i w
 obtain ⟨P,hP⟩ : ∃ P,P = w.heap.size:=⟨_,rfl⟩
 have HPW : Hid (P <= W.heap.size):=by rw [hP]; exact Lib.hid hb1.size
 rw [<- hP] at hw0
 have HP:=Lib.hid hP
 have HR:=Lib.hid (And.intro hr (And.intro hA hl))
 have HW0:=Lib.hid (And.intro hb1 hw0)
 have hne : ((l.length : Int) == 0) = false:=by have:=hA.pos; simp; intro e; subst e; simp at this
 have hpos : 0 < l.length:=hA.pos
 have hl256 : l.length <= 256:=hl
 have hne0 : ¬ l = []:=by intro e; subst e; simp at hpos
 clear hr hA hl hb1 hw0 hcs
 go_enter Tryz.func151,Tryz.ntmps151
 go_wp2_with fail
 refine (a6X _).mono ?_
 rw [<- hW,<- hP]
 clear hW hP h00
 rintro e w1 ⟨rfl,rfl⟩
 go_wp2_with fail
 go_loopw [19] (λ kv wr=>∃ i : Nat,i <= l.length /\ kv = .int .i64 i /\ Hid (DRel P l (putN l i) w1 wr)) (λ kv _=>l.length - (intOf kv).toNat)
 case atStart=>exact ⟨0,by omega,rfl,Lib.hid ⟨_,HW0.out.2,.inl rfl,Only.refl _ _⟩⟩
 case round=>
  obtain ⟨i,hi,rfl,H⟩:=hrel
  by_cases hlt : i < l.length
  · obtain ⟨c,hc,hc256⟩:=HR.out.2.1.get hlt
    have hB:=H.out.below HW0.out.1 (by have:=HP.out; omega)
    obtain ⟨ad2,hA2,hcx⟩:=a0w (Kd.C_below HR.out.1 hB) i hlt
    cases hA2
    rw [hc] at hcx
    have hgap : Hid ((¬ 0 < i /\ i = 0) \/ (0 < i /\ ∃ j c' : Nat,(i : Int) - 1 = (j : Int) /\ wr.cell? (ad.add j) = some (.int .i64 c') /\ c' < c /\ (j : Int) < (l.length : Int))):=by
     rcases Nat.eq_zero_or_pos i with h0 | h0
     · exact Lib.hid (.inl ⟨by omega,h0⟩)
     · obtain ⟨c',hc',_⟩:=HR.out.2.1.get (i:=i - 1) (by omega)
       obtain ⟨ad3,hA3,hcx'⟩:=a0w (Kd.C_below HR.out.1 hB) (i - 1) (by omega)
       cases hA3
       rw [hc'] at hcx'
       have h2:=HR.out.2.1.asc (i - 1) (by omega)
       rw [show i - 1 + 1 = i by omega] at h2
       exact Lib.hid (.inr ⟨h0,i - 1,c',by omega,hcx',by omega,by omega⟩)
    have hpl:=HR.out.2.1.put_le hlt hc
    have HC:=Lib.hid (And.intro hc (And.intro hc256 (And.intro hpl hlt)))
    have hc2 : c < 256:=hc256
    have HZ1:=Lib.hid (c6O (l:=l) hlt hc hc2)
    have HZ0 : Hid (∀ n,putN l i <= n -> n < c -> (dirB l).take (n + 1) = (dirB l).take n ++ [false]):=Lib.hid λ n g1 g2=>c6N HR.out.2.1 hlt hc hc2 g1 g2
    obtain ⟨i1,hi1⟩ : ∃ i1,i1 = i + 1:=⟨_,rfl⟩
    rw [<- hi1] at HZ1
    have HI : Hid (DRel P l (putN l i1) w1 wr -> i1 <= l.length /\ (i1 : Int) = (i : Int) + 1):=Lib.hid λ _=>⟨by omega,by omega⟩
    have HI1 : Hid (i1 <= l.length /\ (i1 : Int) = (i : Int) + 1):=Lib.hid ⟨by omega,by omega⟩
    obtain ⟨N0,hN0⟩ : ∃ N0,N0 = putN l i:=⟨_,rfl⟩
    rw [<- hN0] at H hpl HZ0
    have HPl:=Lib.hid hpl
    clear hc hc256 hB hpl hN0 hi1 HC HI
    have hd256 : decide ((256 : Int) <= (c : Int)) = false:=decide_eq_false (by omega)
    rcases hgap.out with ⟨hz,hz0⟩ | ⟨hz,j,c',hij,hcy,hcc,hjl⟩
    · subst hz0
      rw [Addr.add_zero'] at hcx
      rw [show ((0 : Nat) : Int) = 0 from rfl] at HI1 ⊢
      clear hz hgap
      go_wp2_with fail
      go_loopw [] (λ wr=>Hid (∃ n,N0 <= n /\ n <= c /\ DRel P l n w1 wr)) (λ wr=>c - (intOf ((wr.cell? ⟨P,1,none⟩).getD undef)).toNat)
      case atStart=>exact Lib.hid ⟨_,Nat.le_refl _,HPl.out,H.out⟩
      case round=>
       obtain ⟨n,hn1,hn2,hn3⟩:=hrel.out
       obtain ⟨v1,k1,k2,k3⟩:=hn3
       have hcell:=DRel.cell ⟨v1,k1,k2,k3⟩ (show n <= 256 by omega)
       have hlen:=a7V (l:=l) (show n <= 256 by omega)
       have HK:=Lib.hid (And.intro k1 (And.intro k2 k3))
       have HBs : Hid (P <= wr.heap.size):=Lib.hid (Nat.le_trans HPW.out k3.size)
       have HN:=Lib.hid (And.intro hn1 hn2)
       have HBt:=Lib.hid (b3C P P v1 _ wr k1)
       rw [hlen] at HBt
       have HLe : Hid (((dirB l).take n).length <= 900000):=Lib.hid (by omega)
       have HCell:=Lib.hid hcell
       clear k1 k2 k3 hn1 hlen hrel hcell
       go_wp2_with fail
       refine HBt.out.mono ?_
       rintro e w2 ⟨rfl,rfl⟩
       by_cases hnc : n < c
       · have hz2:=HZ0.out n HN.out.1 hnc
         have HZ2:=Lib.hid hz2
         clear hz2
         go_wp2_with fail
         refine (a2o P P v1 _ 0 1 wr HK.out.1 HBs.out HLe.out (by decide) (by decide)).mono ?_
         rintro e w3 ⟨rfl,hp⟩
         have HP3 : Hid (DRel P l (n + 1) w1 w3):=Lib.hid (by
          have:=PutRel.trans HK.out hp
          unfold DRel
          rw [HZ2.out,<- b6R]; exact this)
         clear hp
         go_wp2_with fail
         go_roundw
         case rel=>exact Lib.hid ⟨n + 1,by have:=HN.out.1; omega,by omega,HP3.out⟩
         case measure=>
          rw [HP3.out.cell (by omega),HCell.out]
          simp [intOf]; omega
       · obtain rfl : n = c:=by omega
         go_wp2_with fail
         refine (a2o P P v1 _ 1 1 wr HK.out.1 HBs.out HLe.out (by decide) (by decide)).mono ?_
         rintro e w3 ⟨rfl,hp⟩
         have HP3 : Hid (DRel P l (putN l i1) w1 w3):=Lib.hid (by
          have:=PutRel.trans HK.out hp
          unfold DRel
          rw [HZ1.out,<- b6S]; exact this)
         clear hp
         go_wp2_with fail
         go_roundw
         case rel=>exact ⟨i1,HI1.out.1,by first | (rw [HI1.out.2]; done) | (rw [HI1.out.2]; rfl) | (rw [HI1.out.2]; go_num),HP3.out⟩
         case measure=>first | (simp [intOf]; done) | (simp [intOf]; omega)
    · clear hgap
      have hcd : decide (c <= c') = false:=decide_eq_false (by omega)
      clear hcc
      go_wp2_with fail
      go_loopw [] (λ wr=>Hid (∃ n,N0 <= n /\ n <= c /\ DRel P l n w1 wr)) (λ wr=>c - (intOf ((wr.cell? ⟨P,1,none⟩).getD undef)).toNat)
      case atStart=>exact Lib.hid ⟨_,Nat.le_refl _,HPl.out,H.out⟩
      case round=>
       obtain ⟨n,hn1,hn2,hn3⟩:=hrel.out
       obtain ⟨v1,k1,k2,k3⟩:=hn3
       have hcell:=DRel.cell ⟨v1,k1,k2,k3⟩ (show n <= 256 by omega)
       have hlen:=a7V (l:=l) (show n <= 256 by omega)
       have HK:=Lib.hid (And.intro k1 (And.intro k2 k3))
       have HBs : Hid (P <= wr.heap.size):=Lib.hid (Nat.le_trans HPW.out k3.size)
       have HN:=Lib.hid (And.intro hn1 hn2)
       have HBt:=Lib.hid (b3C P P v1 _ wr k1)
       rw [hlen] at HBt
       have HLe : Hid (((dirB l).take n).length <= 900000):=Lib.hid (by omega)
       have HCell:=Lib.hid hcell
       clear k1 k2 k3 hn1 hlen hrel hcell
       go_wp2_with fail
       refine HBt.out.mono ?_
       rintro e w2 ⟨rfl,rfl⟩
       by_cases hnc : n < c
       · have hz2:=HZ0.out n HN.out.1 hnc
         have HZ2:=Lib.hid hz2
         clear hz2
         go_wp2_with fail
         refine (a2o P P v1 _ 0 1 wr HK.out.1 HBs.out HLe.out (by decide) (by decide)).mono ?_
         rintro e w3 ⟨rfl,hp⟩
         have HP3 : Hid (DRel P l (n + 1) w1 w3):=Lib.hid (by
          have:=PutRel.trans HK.out hp
          unfold DRel
          rw [HZ2.out,<- b6R]; exact this)
         clear hp
         go_wp2_with fail
         go_roundw
         case rel=>exact Lib.hid ⟨n + 1,by have:=HN.out.1; omega,by omega,HP3.out⟩
         case measure=>
          rw [HP3.out.cell (by omega),HCell.out]
          simp [intOf]; omega
       · obtain rfl : n = c:=by omega
         go_wp2_with fail
         refine (a2o P P v1 _ 1 1 wr HK.out.1 HBs.out HLe.out (by decide) (by decide)).mono ?_
         rintro e w3 ⟨rfl,hp⟩
         have HP3 : Hid (DRel P l (putN l i1) w1 w3):=Lib.hid (by
          have:=PutRel.trans HK.out hp
          unfold DRel
          rw [HZ1.out,<- b6S]; exact this)
         clear hp
         go_wp2_with fail
         go_roundw
         case rel=>exact ⟨i1,HI1.out.1,by first | (rw [HI1.out.2]; done) | (rw [HI1.out.2]; rfl) | (rw [HI1.out.2]; go_num),HP3.out⟩
         case measure=>first | (simp [intOf]; omega) | (simp [intOf]; done)
  · obtain rfl : i = l.length:=by omega
    have hB:=H.out.below HW0.out.1 (by have:=HP.out; omega)
    have hpn:=c7K HR.out.2.1 (Nat.le_refl l.length)
    obtain ⟨v1,k1,k2,k3⟩:=H.out
    have hE:=c6Q HR.out.2.1
    obtain ⟨n,hn⟩ : ∃ n,n = putN l l.length:=⟨_,rfl⟩
    rw [<- hn] at k1 hE hpn
    have hlen:=a7V (l:=l) hpn
    obtain ⟨bs,hbs⟩ : ∃ bs,bs = (dirB l).take n:=⟨_,rfl⟩
    rw [<- hbs] at k1 hE hlen
    have HK:=Lib.hid k1
    have HE:=Lib.hid hE
    have HB:=Lib.hid hB
    have hbl : (packB bs).length = (n + 7) / 8:=by rw [a0x,hlen]
    have HL:=Lib.hid (And.intro hlen hbl)
    obtain ⟨pb,hpb⟩ : ∃ pb,pb = packB bs:=⟨_,rfl⟩
    obtain ⟨q,hq⟩ : ∃ q,q = (n + 7) / 8:=⟨_,rfl⟩
    have hq32 : q <= 32:=by omega
    rw [<- hpb,<- hq] at HE
    have hpq : pb.length = q:=by rw [hpb,hq]; exact hbl
    have HPQ:=Lib.hid (And.intro hpb hpq)
    clear k1 k2 k3 hE hB hn hlen hbs hbl hpb hq hpq
    go_wp2_with fail
    refine (a7H P P v1 bs wr HK.out (by have:=HL.out.1; omega)).mono ?_
    rintro e w2 ⟨u2,rfl,hu2,hb2⟩
    rw [<- HPQ.out.1] at hu2
    obtain ⟨A2,c2,rfl⟩:=Kd.R_slice hu2
    rw [HPQ.out.2] at hu2 ⊢
    have HK2 : Hid (WrVal w2 P P v1 bs):=Lib.hid ⟨a0g HK.out.blk hb2,Kd.R_below HK.out.row hb2⟩
    have HU2:=Lib.hid hu2
    have HB2:=Lib.hid (a0h HB.out hb2)
    clear hu2 hb2
    go_wp2_with fail
    refine (a7H P P v1 bs w2 HK2.out (by have:=HL.out.1; omega)).mono ?_
    rintro e w3 ⟨u3,rfl,hu3,hb3⟩
    rw [<- HPQ.out.1] at hu3
    obtain ⟨A3,c3,rfl⟩:=Kd.R_slice hu3
    rw [HPQ.out.2] at hu3 ⊢
    have HU3 : Hid ((Kd.int .u8).R 5 w3 w.heap.size (λ _=>True) (.slice A2 q c2) pb):=Lib.hid (Kd.R_lower (Kd.R_below HU2.out hb3) HB.out.size)
    have HB3:=Lib.hid (a0h HB2.out hb3)
    have HS3:=Lib.hid HB3.out.size
    have HLn : Hid ((pb.length + ((32 : Int) - (q : Int)).toNat) * 1 <= 140737488355328):=Lib.hid (by have:=HPQ.out.2; omega)
    have hge : (0 : Int) <= 32 - (q : Int):=by omega
    have HGe:=Lib.hid hge
    clear hu3 hb3
    go_wp2_with (at_builtin; refine Kd.R_append_zeros (Kd.int .u8) (w0:=w) (W:=w3) w.heap.size rfl (.tmp 49) (.tmp 53) 22 3 5 (.int .u8 0) 1 rfl Tryz.underlying22 (k:=.i64) Tryz.underlying3 a0C rfl (by decide) (by decide) (.slice A2 q c2) pb (0 : Int) (kx:=.i64) (32 - (q : Int)) (λ _=>True) rfl rfl rfl (λ _ _=>trivial) HU3.out HGe.out HB3.out HS3.out HLn.out ?_; intro v4 w4 hr4 hb4 hg4 hat4; have HA4:=Lib.hid (And.intro hr4 hb4); clear hr4 hb4 hg4 hat4)
    go_ret2
    refine ⟨v4,rfl,?_,HA4.out.2⟩
    rw [HE.out]
    have h9:=HA4.out.1
    rw [show ((32 : Int) - (q : Int)).toNat = 32 - q by omega] at h9
    exact h9
theorem b6T (r : Nat) (qs : List (List Int)) (c : Int) : ∀ l : List Int,hdrsB r qs (l ++ [c]) = hdrsB r qs l ++ hdrB (qs.getD c.toNat []) 257 0 (2 ^ r)
 | []=>by simp [hdrsB]
 | x :: l=>by
  show hdrB _ 257 0 (2 ^ r) ++ hdrsB r qs (l ++ [c]) = (hdrB _ 257 0 (2 ^ r) ++ hdrsB r qs l) ++ _
  rw [b6T r qs c l,List.append_assoc]
theorem a7W {r : Nat} {qs : List (List Int)} (hr9 : r <= 9) : ∀ l : List Int,(∀ c ∈ l,Nrm (qs.getD c.toNat []) r) -> (hdrsB r qs l).length <= l.length * 3072
 | [],_=>by simp [hdrsB]
 | x :: l,h=>by
  have hn:=h x (by simp)
  have ih:=a7W hr9 l (λ c hc=>h c (by simp [hc]))
  have e2 : (2 : Int) ^ r = ((2 ^ r : Nat) : Int):=by simp
  have h1:=a5g hn.r12 hn.len hn.nn 257 0 (2 ^ r) (by omega) (by rw [List.drop_zero,hn.sum,e2]) (by rw [Nat.pow_succ]; have:=Nat.two_pow_pos r; omega)
  have h2 : (256 - 0) * (r + 3) <= 256 * 12:=Nat.mul_le_mul (by omega) (by omega)
  show (hdrB _ 257 0 (2 ^ r) ++ hdrsB r qs l).length <= _
  rw [List.length_append,List.length_cons]; omega
def a3N (r : Nat) (qs : List (List Int)) (l : List Int) : List Int:=[(r : Int)] ++ dirL l ++ packB (hdrsB r qs l)
def c7N (r : Nat) (qs : List (List Int)) (l : List Int) (w : World) (e : Ending) (w' : World) : Prop:=∃ v,e = .returned v /\ (Kd.int .u8).R 5 w' w.heap.size (λ _=>True) v (a3N r qs l) /\ Below w.heap.size w w'
set_option maxRecDepth 100000 in
set_option maxHeartbeats 4000000 in
theorem c7O (r c cl : Nat) (A Al : Option Addr) (qs : List (List Int)) (l : List Int) (w : World) (hr : kq.C w A qs.length qs) (hq : qs.length = 256) (hl : (Kd.int .i64).C w Al l.length l) (hA : Asc l) (hll : l.length <= 256) (hr9 : r <= 9) (hN : ∀ c ∈ l,Nrm (qs.getD c.toNat []) r) :
    Calls Tryz.prog 103 #[.agg #[.int .i64 r,.bool false,.slice A 256 c],.slice Al l.length cl] w (c7N r qs l w):=by
 obtain ⟨W,hW⟩ : ∃ W,W = w.alloc (.cells #[.int .i64 r,.bool false,.slice A 256 c] 26):=⟨_,rfl⟩
 have hb1 : Below w.heap.size w W:=by rw [hW]; exact (Below.refl _ _).alloc (Nat.le_refl _) _
 have hk1 : W.heap[w.heap.size]? = some (.cells #[.int .i64 r,.bool false,.slice A 256 c] 26 (0,0)):=by rw [hW]; exact a0k _ _
 obtain ⟨mb,hmb⟩ : ∃ mb,mb = w.heap.size:=⟨_,rfl⟩
 rw [<- hmb] at hk1
 have HMb:=Lib.hid hmb
 have HR:=Lib.hid (And.intro hr (And.intro hl (And.intro hA (And.intro hll (And.intro hN hq)))))
 have H1:=Lib.hid (And.intro hb1 hk1)
 have hll2 : l.length <= 256:=hll
 clear hr hq hl hA hll hN hb1 hk1
 go_enter Tryz.func103,Tryz.ntmps103
 go_wp2_with fail
 rw [<- hW,<- hmb]
 clear hW hmb
 refine (c7M Al cl l W (Kd.C_below HR.out.2.1 H1.out.1) HR.out.2.2.1 HR.out.2.2.2.1).mono ?_
 rintro e w2 ⟨vd,rfl,hvd,hb2⟩
 obtain ⟨Ad,cd,rfl⟩:=Kd.R_slice hvd
 rw [a4s] at hvd ⊢
 have HD:=Lib.hid (Kd.R_reads' hvd).2.2
 have HB2:=Lib.hid (a0h H1.out.1 hb2)
 have HK2:=Lib.hid (a0g H1.out.2 hb2)
 clear hvd hb2
 go_wp2_with fail
 refine (a6X _).mono ?_
 rintro e w3 ⟨rfl,hw3⟩
 have hw0 : WrVal w3 w2.heap.size w2.heap.size (.slice none 0 0) []:=by rw [hw3]; exact b0i w2
 have hb3 : Below w2.heap.size w2 w3:=by rw [hw3]; exact (Below.refl _ _).alloc (Nat.le_refl _) _
 obtain ⟨P,hP⟩ : ∃ P,P = w2.heap.size:=⟨_,rfl⟩
 rw [<- hP] at hw0 ⊢
 have HW0:=Lib.hid (And.intro hw0 (And.intro hb3 hP))
 have HB3:=Lib.hid (a0h HB2.out hb3)
 clear hw3 hw0 hb3 hP
 go_wp2_with fail
 go_loopw [18] (λ kv wr=>∃ i : Nat,i <= l.length /\ kv = .int .i64 i /\ Hid (PutRel P P (.slice none 0 0) (hdrsB r qs (l.take i)) w3 wr)) (λ kv _=>l.length - (intOf kv).toNat)
 case atStart=>exact ⟨0,by omega,rfl,Lib.hid ⟨_,HW0.out.1,.inl rfl,Only.refl _ _⟩⟩
 case round=>
  obtain ⟨i,hi,rfl,H⟩:=hrel
  have hBw2 : Below w2.heap.size w2 wr:=PutRel.bel H.out HW0.out.2.1 (by have:=HW0.out.2.2; omega) (λ k hk=>by simp [Value.ownBlock] at hk)
  have hBw : Below w.heap.size w wr:=HB2.out.trans (hBw2.mono HB2.out.size)
  obtain ⟨⟨ka,kb,kc⟩,-⟩:=cell3 (a0g HK2.out hBw2)
  by_cases hlt : i < l.length
  · obtain ⟨cx,hc,hc256⟩:=HR.out.2.2.1.get hlt
    obtain ⟨ad,hA2,hcx⟩:=a0w (Kd.C_below HR.out.2.1 hBw) i hlt
    subst hA2
    rw [hc] at hcx
    have hm:=a1A hlt
    rw [hc] at hm
    have hn:=HR.out.2.2.2.2.1 _ hm
    rw [Int.toNat_natCast] at hn
    obtain ⟨aq,B,cq,hA3,hcq',-,hCq⟩:=kq_at HR.out.1 cx (by rw [HR.out.2.2.2.2.2]; exact hc256)
    subst hA3
    rw [hn.len] at hcq' hCq
    have hcq:=a0s hBw hcq'
    have HCq:=Lib.hid hCq
    have HBw:=Lib.hid (And.intro hBw hBw2)
    clear hcq'
    have ht : l.take (i + 1) = l.take i ++ [(cx : Int)]:=by rw [List.take_succ_eq_append_getElem hlt,<- hc,List.getD_eq_getElem?_getD,List.getElem?_eq_getElem hlt,Option.getD_some]
    have hs : hdrsB r qs (l.take (i + 1)) = hdrsB r qs (l.take i) ++ hdrB (qs.getD cx []) 257 0 (2 ^ r):=by rw [ht,b6T,Int.toNat_natCast]
    have hlb:=a7W (r:=r) (qs:=qs) hr9 (l.take i) (λ x hx=>HR.out.2.2.2.2.1 x (List.mem_of_mem_take hx))
    have hlb2 : (hdrsB r qs (l.take i)).length <= 800000:=by rw [List.length_take] at hlb; omega
    have HS:=Lib.hid hs
    have HN:=Lib.hid (And.intro hn hlb2)
    have hc2 : (cx : Int) < 256:=by omega
    obtain ⟨v1,k1,k2,k3⟩:=H.out
    have HK:=Lib.hid (And.intro k1 (And.intro k2 k3))
    have HBs : Hid (P <= wr.heap.size):=Lib.hid (Nat.le_trans (by have:=HW0.out.2.2; have:=HW0.out.2.1.size; omega) k3.size)
    clear hc hm hn hCq ht hs hlb hlb2 k1 k2 k3 hBw2 hBw
    go_wp2_with fail
    refine (b6b P P cq r B v1 (hdrsB r qs (l.take i)) (qs.getD cx []) w wr HK.out.1 HBs.out HN.out.2 HCq.out HBw.out.1 (by have:=HW0.out.2.2; have:=HB2.out.size; omega) (by have:=HW0.out.2.2; have:=HB2.out.size; omega) HN.out.1).mono ?_
    rintro e w5 ⟨rfl,hp⟩
    have HP5:=Lib.hid (PutRel.trans HK.out hp)
    clear hp
    go_wp2_with fail
    go_roundw
    case rel=>exact ⟨i + 1,by omega,by go_num,Lib.hid (by rw [HS.out]; exact HP5.out)⟩
    case measure=>first | (simp [intOf]; done) | (simp [intOf]; omega)
  · obtain rfl : i = l.length:=by omega
    rw [List.take_length] at H
    obtain ⟨v1,k1,k2,k3⟩:=H.out
    have hlb:=a7W (r:=r) (qs:=qs) hr9 l HR.out.2.2.2.2.1
    have HX:=Lib.hid (And.intro k1 (by omega : (hdrsB r qs l).length <= 800000))
    obtain ⟨X,hX⟩ : ∃ X,X = packB (hdrsB r qs l):=⟨_,rfl⟩
    have HXX:=Lib.hid hX
    have HXl : Hid (X.length <= 100001):=Lib.hid (by rw [hX,a0x]; omega)
    have HBw:=Lib.hid hBw
    have HD2:=Lib.hid (Kd.C_below HD.out hBw2)
    have hDl:=a4s l
    obtain ⟨D,hD⟩ : ∃ D,D = dirL l:=⟨_,rfl⟩
    rw [<- hD] at HD2 hDl
    have HDD:=Lib.hid (And.intro hD hDl)
    clear k1 k2 k3 hlb hBw hBw2 hX hD hDl H
    have hrw : IntKind.u8.wrap (r : Int) = (r : Int):=by rw [IntKind.wrap_u8]; omega
    have hWl : Below w.heap.size w (wr.alloc (.cells #[.int .u8 (r : Int)] 5)):=HBw.out.alloc HBw.out.size _
    have HWl:=Lib.hid (And.intro hWl hWl.size)
    have HO1 : Hid ((Kd.int .u8).R 5 (wr.alloc (.cells #[.int .u8 (r : Int)] 5)) w.heap.size (λ _=>True) (.slice (some ⟨wr.heap.size,0,none⟩) 1 1) [(r : Int)]):=Lib.hid (a2i .u8 5 wr w.heap.size (λ _=>True) trivial HBw.out.size [(r : Int)] (by simp))
    have HD3 : Hid ((Kd.int .u8).C (wr.alloc (.cells #[.int .u8 (r : Int)] 5)) Ad 32 D):=Lib.hid (by have:=Kd.C_alloc HD2.out (.cells #[.int .u8 (r : Int)] 5); rw [HDD.out.2] at this; exact this)
    have HL1 : Hid ((([(r : Int)] : List Int).length + 32) * 1 <= 140737488355328):=Lib.hid (by simp)
    have HWr : Hid (WrVal wr P P v1 (hdrsB r qs l)):=HX.out.1
    have HWr2 : Hid (WrVal (wr.alloc (.cells #[.int .u8 (r : Int)] 5)) P P v1 (hdrsB r qs l)):=Lib.hid ⟨a0i HX.out.1.blk _,Kd.R_alloc HX.out.1.row _⟩
    have HZ33 : Hid (([(r : Int)] ++ D).length = 33):=Lib.hid (by rw [List.length_append,HDD.out.2]; rfl)
    clear hWl
    go_wp2_with (at_builtin; refine Kd.R_append_rows (Kd.int .u8) (Rr:=(Kd.int .u8).K (wr.alloc (.cells #[.int .u8 (r : Int)] 5))) (w0:=w) (W:=wr.alloc (.cells #[.int .u8 (r : Int)] 5)) w.heap.size rfl (.tmp 33) (.tmp 34) 22 5 (.int .u8 0) 1 rfl Tryz.underlying22 a0C rfl (by decide) (by decide) (.slice (some ⟨wr.heap.size,0,none⟩) 1 1) [(r : Int)] D Ad 32 cd (λ _=>True) (λ _=>False) rfl rfl HO1.out HD3.out (λ _ _ h=>h) (λ _ h=>h.elim) (λ _ _=>trivial) HWl.out.1 HWl.out.2 HL1.out ?_; intro vi w5 hr5 hb5 hg5 hat5; have HG5:=Lib.hid (And.intro hg5 hat5); obtain ⟨A5,c5,rfl⟩:=Kd.R_slice hr5; rw [HZ33.out] at hr5 ⊢; have HR5:=Lib.hid (And.intro hr5 hb5); clear hr5 hb5 hg5 hat5)
    have HW5 : Hid (WrVal w5 P P v1 (hdrsB r qs l)):=Lib.hid ⟨a0V HWr2.out.blk HG5.out.1 (λ e=>by have:=a0f HWr.out.blk; simp [Value.ownBlock] at e; omega),Kd.R_mono (Kd.R_grown (Kd.R_alloc (Kd.R_bound HWr.out.row) _) HG5.out.1 (λ k hk e=>by have:=hk.2.2.1; simp [Value.ownBlock] at e; omega)) (λ k hk=>hk.1)⟩
    have HX8 : Hid ((hdrsB r qs l).length <= 900000):=Lib.hid (by have:=HX.out.2; omega)
    obtain ⟨Z,hZ⟩ : ∃ Z,Z = [(r : Int)] ++ D:=⟨_,rfl⟩
    rw [<- hZ] at HR5
    have HZ:=Lib.hid (And.intro hZ (by rw [hZ]; exact HZ33.out : Z.length = 33))
    clear hZ
    refine (a7H P P v1 _ w5 HW5.out HX8.out).mono ?_
    rintro e w6 ⟨v6,rfl,hv6,hb6⟩
    rw [<- HXX.out] at hv6
    obtain ⟨A6,c6,rfl⟩:=Kd.R_slice hv6
    have HO6:=Lib.hid (Kd.R_below HR5.out.1 hb6)
    have HX6:=Lib.hid (Kd.R_reads' hv6).2.2
    have HB6:=Lib.hid (And.intro (a0h HR5.out.2 hb6) (a0h HR5.out.2 hb6).size)
    have HL6 : Hid ((Z.length + X.length) * 1 <= 140737488355328):=Lib.hid (by have:=HZ.out.2; have:=HXl.out; omega)
    clear hv6 hb6
    go_wp2_with (at_builtin; refine Kd.R_append_rows (Kd.int .u8) (Rr:=(Kd.int .u8).K w6) (w0:=w) (W:=w6) w.heap.size rfl (.tmp 35) (.tmp 37) 22 5 (.int .u8 0) 1 rfl Tryz.underlying22 a0C rfl (by decide) (by decide) (.slice A5 33 c5) Z X A6 X.length c6 (λ _=>True) (λ _=>False) rfl rfl HO6.out HX6.out (λ _ _ h=>h) (λ _ h=>h.elim) (λ _ _=>trivial) HB6.out.1 HB6.out.2 HL6.out ?_; intro v7 w7 hr7 hb7 hg7 hat7; have HR7:=Lib.hid (And.intro hr7 hb7); clear hr7 hb7 hg7 hat7)
    go_ret
    refine ⟨v7,rfl,?_,HR7.out.2⟩
    unfold a3N
    rw [<- HXX.out,<- HDD.out.1,<- HZ.out.1]
    exact HR7.out.1
theorem c7P {b : List Int} (hb : Bytes b) (hl : b.length <= 1000000) : ∀ c ∈ presN b 256,Nrm ((a0y b).getD c.toNat []) (a0r b):=by
 intro c hc
 have hr:=a2W b
 obtain ⟨i,hi,e⟩:=b0o hc
 obtain ⟨c',h1,h2,h3⟩:=a7G b hi
 have : c = (c' : Int):=by rw [<- e,h1]
 subst this
 rw [Int.toNat_natCast,a7B b h2]
 obtain ⟨n1,n2,n3⟩:=b0n hb hl h2 h3
 exact ⟨n1,n2,n3,by omega,by omega⟩
def SLater (W1 W : World) : Prop:=Below W1.heap.size W1 W
theorem SLater.keep {W1 W w' : World} (h : SLater W1 W) (hb : Below W.heap.size W w') : SLater W1 w':=a0h h hb
theorem SLater.drew {W1 W : World} (h : SLater W1 W) : SLater W1 W.drew:=Below.drew h
def c7Q (b : List Int) (w : World) (e : Ending) (w' : World) : Prop:=∃ v,e = .returned (.tuple #[v,.int .i64 0]) /\ (Kd.int .u8).R 5 w' w.heap.size (λ _=>True) v (a1m b) /\ Below w.heap.size w w'
set_option maxRecDepth 100000 in
theorem c7R (A : Option Addr) (cp : Nat) (w : World) : Calls Tryz.prog 63 #[.slice A 0 cp] w (λ e w'=>e = .returned (.tuple #[.slice none 0 0,.int .i64 1]) /\ Below w.heap.size w w'):=by
 have HZ:=Lib.hid (c7F A cp w)
 go_enter Tryz.func63,Tryz.ntmps63
 go_wp2_with fail
 refine HZ.out.mono ?_
 rintro e w1 (⟨_,rfl,hb1⟩ | ⟨h,_⟩)
 · have HB1:=Lib.hid hb1
   clear hb1
   go_wp2_with fail
   go_ret2
   exact ⟨rfl,HB1.out.alloc HB1.out.size _⟩
 · cases h
set_option maxRecDepth 100000 in
set_option maxHeartbeats 4000000 in
theorem c7S (A : Option Addr) (cp : Nat) (b : List Int) (w : World) (hr : (Kd.int .u8).C w A b.length b) (hb : Bytes b) (hl : b.length <= 40000) (h0 : 0 < b.length) :
    Calls Tryz.prog 63 #[.slice A b.length cp] w (c7Q b w):=by
 have HR:=Lib.hid (And.intro hr (And.intro hb (And.intro hl h0)))
 have HCan : Hid (canM (a0r b : Nat) false (a0y b) b = true):=a5f (one:=false) hb (by omega) h0
 have HZ:=Lib.hid (c7G A cp b w hr hb (by omega) h0)
 have HRok:=Lib.hid (a2W b)
 have HFit:=Lib.hid (a5N (a5O HCan.out).1 hb)
 have HNr:=Lib.hid (c7P hb (by omega : b.length <= 1000000))
 obtain ⟨r,hr'⟩ : ∃ r,r = a0r b:=⟨_,rfl⟩
 obtain ⟨q,hq'⟩ : ∃ q,q = a0y b:=⟨_,rfl⟩
 have HQl : Hid (q.length = 256):=Lib.hid (by rw [hq']; exact a9L b)
 have HRQ:=Lib.hid (And.intro hr' hq')
 rw [<- hr',<- hq'] at HCan HFit HNr
 rw [<- hr'] at HRok
 obtain ⟨L,hL⟩ : ∃ L,L = presN b 256:=⟨_,rfl⟩
 have HL : Hid (L = presN b 256 /\ Asc L /\ L.length <= 256):=Lib.hid ⟨hL,by rw [hL]; exact c6R h0,by rw [hL]; exact a5a b 256⟩
 rw [<- hL] at HNr
 clear hr hb hl h0 hL
 go_enter Tryz.func63,Tryz.ntmps63
 go_wp2_with fail
 refine HZ.out.mono ?_
 rintro e w1 (⟨h,_⟩ | ⟨_,Av,cv,rfl,hv,hb1⟩)
 · have:=HR.out.2.2.2; omega
 rw [<- hr']
 rw [<- hq'] at hv
 have HV:=Lib.hid (Kd.R_reads' hv).2.2
 have HB1:=Lib.hid hb1
 clear hv hb1 hr' hq'
 obtain ⟨w2,hw2⟩ : ∃ w2,w2 = w1.alloc (.cells #[.int .i64 r,.bool false,.slice Av 256 cv] 26):=⟨_,rfl⟩
 have HB2 : Hid (Below w.heap.size w w2):=Lib.hid (by rw [hw2]; exact HB1.out.alloc HB1.out.size _)
 have HV2 : Hid (kq.C w2 Av q.length q):=Lib.hid (by rw [hw2]; exact Kd.C_alloc HV.out _)
 have hk2 : w2.heap[w1.heap.size]? = some (.cells #[.int .i64 r,.bool false,.slice Av 256 cv] 26 (0,0)):=by rw [hw2]; exact a0k _ _
 obtain ⟨mb,hmb⟩ : ∃ mb,mb = w1.heap.size:=⟨_,rfl⟩
 rw [<- hmb] at hk2
 have HK2:=Lib.hid hk2
 clear hk2
 have HEnc:=b4b (r : Nat) false Av cv q A cp b w2 HV2.out (by have:=HQl.out; omega) (Kd.C_below HR.out.1 HB2.out) HR.out.2.1 (by have:=HR.out.2.2.1; omega)
 rw [HQl.out] at HEnc
 have HE:=Lib.hid HEnc
 clear HEnc
 go_wp2_with fail
 rw [<- hw2,<- hmb]
 clear hw2 hmb
 refine HE.out.mono ?_
 rintro e w3 ⟨_,h2,hb3⟩
 obtain ⟨vp,rfl,hvp⟩:=h2 HCan.out
 obtain ⟨Ap,cpp,rfl⟩:=Kd.R_slice hvp
 have HB3 : Hid (Below w.heap.size w w3):=Lib.hid (HB2.out.trans (hb3.mono HB2.out.size))
 have hk3:=a0g HK2.out hb3
 have HV3 : Hid (kq.C w3 Av q.length q):=Lib.hid (Kd.C_below HV2.out hb3)
 have HP3:=Lib.hid (Kd.R_reads' hvp).2.2
 obtain ⟨Pl,hPl⟩ : ∃ Pl,Pl = packB (a0Z (r : Nat) false q b ++ [true]):=⟨_,rfl⟩
 have HPl:=Lib.hid hPl
 rw [<- hPl] at HP3 ⊢
 have HPlen : Hid (Pl.length <= 700000):=Lib.hid (by
  rw [hPl,a0x,List.length_append]
  have:=HFit.out; have:=HR.out.2.2.1; simp only [List.length_singleton]; omega)
 have HK3:=Lib.hid hk3
 obtain ⟨⟨ka,kb,kc⟩,-⟩:=cell3 hk3
 have s0 : SLater w3 w3:=Below.refl _ _
 have HPres : Hid (∀ W : World,SLater w3 W -> Calls Tryz.prog 104 #[.slice A b.length cp] W λ e w'=>∃ Al cl,e = .returned (.slice Al L.length cl) /\ (Kd.int .i64).C w' Al L.length L /\ Below W.heap.size W w'):=Lib.hid λ W hW=>by
  refine (b6J A cp b W (Kd.C_below HR.out.1 (HB3.out.trans (Below.mono hW HB3.out.size))) (by have:=HR.out.2.2.1; omega) HR.out.2.1).mono ?_
  rintro e w' ⟨v,rfl,hv,hb⟩
  obtain ⟨Al,cl,rfl⟩:=Kd.R_slice hv
  rw [<- HL.out.1] at hv ⊢
  exact ⟨Al,cl,rfl,(Kd.R_reads' hv).2.2,hb⟩
 have HHead : Hid (∀ (W : World) (Al : Option Addr) (cl : Nat),SLater w3 W -> (Kd.int .i64).C W Al L.length L -> Calls Tryz.prog 103 #[.agg #[.int .i64 r,.bool false,.slice Av 256 cv],.slice Al L.length cl] W λ e w'=>∃ Ah ch,e = .returned (.slice Ah (a3N r q L).length ch) /\ (Kd.int .u8).R 5 w' w3.heap.size (λ _=>True) (.slice Ah (a3N r q L).length ch) (a3N r q L) /\ Below W.heap.size W w'):=Lib.hid λ W Al cl hW hC=>by
  refine (c7O r cv cl Av Al q L W (Kd.C_below HV3.out hW) HQl.out hC HL.out.2.1 HL.out.2.2 (by have:=HRok.out; omega) HNr.out).mono ?_
  rintro e w' ⟨v,rfl,hv,hb⟩
  obtain ⟨Ah,ch,rfl⟩:=Kd.R_slice hv
  exact ⟨Ah,ch,rfl,Kd.R_lower hv (Below.size hW),hb⟩
 have HHl : Hid ((a3N r q L).length <= 200000):=Lib.hid (by
  have h1:=a7W (r:=r) (qs:=q) (by have:=HRok.out; omega) L HNr.out
  have h2:=HL.out.2.2
  unfold a3N
  rw [List.length_append,List.length_append,a4s,a0x,List.length_singleton]; omega)
 obtain ⟨Hd,hHd⟩ : ∃ Hd,Hd = a3N r q L:=⟨_,rfl⟩
 rw [<- hHd] at HHead HHl
 have HHd:=Lib.hid hHd
 have HLn : Hid ((Hd.length + Pl.length) * 1 <= 140737488355328):=Lib.hid (by have:=HHl.out; have:=HPlen.out; omega)
 clear h2 hb3 hvp hk3 hPl hHd
 go_wp2_with fail
 go_region_law (first
  | (go_simp; go_at_call 104; refine (HPres.out _ (by first | assumption | exact SLater.drew ‹_›)).mono ?_; rintro e w' ⟨Al,cl,rfl,hcl,hb⟩; have s1:=(by first | exact SLater.keep ‹_› hb | exact SLater.keep (SLater.drew ‹_›) hb : SLater w3 w'); obtain ⟨⟨ka,kb,kc⟩,-⟩:=cell3 (a0g HK3.out s1))
  | (go_simp; go_at_call 103; refine (HHead.out _ _ _ (by first | assumption | exact SLater.drew ‹_›) (by first | assumption | exact Kd.C_drew ‹_›)).mono ?_; rintro e w' ⟨Ah,ch,rfl,hvh,hb⟩; have s1:=(by first | exact SLater.keep ‹_› hb | exact SLater.keep (SLater.drew ‹_›) hb : SLater w3 w'); have HVH:=Lib.hid (And.intro hvh s1); clear hvh hb)
  | (refine Kd.R_append_rows_step (Kd.int .u8) (Rr:=(Kd.int .u8).K w') (w0:=w) (W:=w') w.heap.size rfl (.tmp 27) (.tmp 28) 22 5 (.int .u8 0) 1 rfl Tryz.underlying22 a0C rfl (by decide) (by decide) _ Hd Pl Ap Pl.length cpp (λ _=>True) (λ _=>False) rfl rfl (Kd.R_lower HVH.out.1 HB3.out.size) (Kd.C_below HP3.out HVH.out.2) (λ _ _ h=>h) (λ _ h=>h.elim) (λ _ _=>trivial) (HB3.out.trans (Below.mono HVH.out.2 HB3.out.size)) (Nat.le_trans HB3.out.size (Below.size HVH.out.2)) HLn.out ?_; intro v9 w9 hr9 hb9 hg9 hat9; have HA:=Lib.hid (And.intro hr9 hb9); clear hr9 hb9 hg9 hat9))
 all_goals
  go_wp2_with fail
  go_ret2
  refine ⟨v9,rfl,?_,HA.out.2⟩
  have h9:=HA.out.1
  have e : a1m b = Hd ++ Pl:=by unfold a1m; rw [HHd.out,HPl.out,HRQ.out.1,HRQ.out.2,HL.out.1]; rfl
  rw [e]; exact h9
theorem b6U (A : Option Addr) (cp : Nat) (b : List Int) (w : World) (hr : (Kd.int .u8).C w A b.length b) (hb : Bytes b) (hl : b.length <= 40000) (h0 : 0 < b.length) :
    Calls Tryz.prog 63 #[.slice A b.length cp] w (Told 0 (a1m b) w):=by
 refine (c7S A cp b w hr hb hl h0).mono ?_
 rintro e w' ⟨v,rfl,hv,hbl⟩
 obtain ⟨A1,c1,rfl⟩:=Kd.R_slice hv
 exact ⟨A1,c1,rfl,hv,hbl⟩
set_option maxRecDepth 100000 in
set_option maxHeartbeats 400000 in
theorem c7T (A : Option Addr) (c : Nat) (xs : List Int) (w : World) (hr : (Kd.int .u8).C w A xs.length xs) (hl : xs.length <= 1000000) (hn : A = none -> xs = []) :
    Calls Tryz.prog 106 #[.slice A xs.length c] w (b3I xs w):=by
 cases A with
 | none=>
  have h0:=hn rfl
  subst h0
  have hq:=Lib.run_eql_slice_nil (P:=Tryz.prog) w 22 5 none 0 c 0 0 Tryz.underlying22
  go_enter Tryz.func106,Tryz.ntmps106
  go_wp2_with fail
  go_ret
  exact ⟨_,rfl,Kd.R_nil _ _ _ _ _,Below.refl _ _⟩
 | some ad=>
  have HR:=Lib.hid (Kd.C_alloc hr (.cells #[] 5))
  have HE:=Lib.hid (a6V .u8 5 w w.heap.size (λ _=>True) (Nat.le_refl _) trivial)
  have HL : Hid ((([] : List Int).length + xs.length) * 1 <= 140737488355328):=by show _ <= _; simp; omega
  have hq:=Lib.run_eql_slice_nil (P:=Tryz.prog) w 22 5 (some ad) xs.length c 0 0 Tryz.underlying22
  clear hr
  go_enter Tryz.func106,Tryz.ntmps106
  go_wp2_with (at_builtin; refine Kd.R_append_rows (Kd.int .u8) (Rr:=(Kd.int .u8).K (w.alloc (.cells #[] 5))) (w0:=w) (W:=w.alloc (.cells #[] 5)) w.heap.size rfl (.tmp 5) (.tmp 6) 22 5 (.int .u8 0) 1 rfl Tryz.underlying22 a0C rfl (by decide) (by decide) (.slice (some ⟨w.heap.size,0,none⟩) 0 0) [] xs (some ad) xs.length c (λ _=>True) (λ _=>False) rfl rfl HE.out HR.out (λ _ _ h=>h) (λ _ h=>h.elim) (λ _ _=>trivial) ((Below.refl _ _).alloc (Nat.le_refl _) _) (by simp) HL.out ?_; intro vi w2 hr2 hb2 hg2 hat2; have HR2:=Lib.hid hr2; have HB2:=Lib.hid hb2; clear hr2 hb2 hg2 hat2)
  go_ret
  rw [List.nil_append] at HR2
  exact ⟨_,rfl,HR2.out,HB2.out⟩
set_option maxRecDepth 100000 in
theorem a6f (k : Int) (w : World) : Calls Tryz.prog 221 #[.int .i64 k] w λ e w'=>e = .returned (.bool (decide (k = 0 \/ k = 1))) /\ w = w':=by
 by_cases h0 : k = 0
 · subst h0
   go_enter Tryz.func221,Tryz.ntmps221
   go_wp2_with fail
   go_ret
   exact ⟨rfl,rfl⟩
 · have d0 : (k == 0) = false:=by simpa using h0
   by_cases h1 : k = 1
   · subst h1
     go_enter Tryz.func221,Tryz.ntmps221
     go_wp2_with fail
     go_ret
     exact ⟨rfl,rfl⟩
   · have d1 : (k == 1) = false:=by simpa using h1
     have d2 : decide (k = 0 \/ k = 1) = false:=decide_eq_false (λ h=>h.elim h0 h1)
     rw [d2]
     clear h0 h1 d2
     go_enter Tryz.func221,Tryz.ntmps221
     go_wp2_with fail
     go_ret
     exact ⟨by simp,rfl⟩
def notB (b0 x : Int) : Bool:=!decide (x = b0)
set_option maxRecDepth 100000 in
theorem c7U (ad : Addr) (c p n : Nat) (x y : Int) (w : World) (hp : w.cell? ⟨p,0,none⟩ = some (.slice (some ad) n c)) (h0 : 0 < n) (hx : w.cell? (ad.add 0) = some (.int .u8 x)) :
    Calls Tryz.prog 244 #[.int .u8 y,.pointer (some ⟨p,0,none⟩)] w λ e w'=>e = .returned (.bool (notB x y)) /\ w = w':=by
 have hz : (0 : Int) < (n : Int):=by omega
 have hx2 : w.cell? ad = some (.int .u8 x):=by have e : ad.add 0 = ad:=by simp [Addr.add]
                                               rwa [e] at hx
 unfold notB
 by_cases h : y = x
 · have hd:=decide_eq_true h
   rw [hd]
   clear h
   go_enter Tryz.func244,Tryz.ntmps244
   go_wp2_with fail
   go_ret
   exact ⟨by simp_all,rfl⟩
 · have hd:=decide_eq_false h
   rw [hd]
   clear h
   go_enter Tryz.func244,Tryz.ntmps244
   go_wp2_with fail
   go_ret
   exact ⟨by simp_all,rfl⟩
set_option maxRecDepth 100000 in
set_option maxHeartbeats 400000 in
theorem c7V (ad : Addr) (c p : Nat) (b : List Int) (w : World) (hp : w.cell? ⟨p,0,none⟩ = some (.slice (some ad) b.length c)) (hr : (Kd.int .u8).C w (some ad) b.length b) (hl : b.length <= 1000000) (h0 : 0 < b.length) :
    Calls Tryz.prog 264 #[.slice (some ad) b.length c,.func (.func 244) #[] #[.pointer (some ⟨p,0,none⟩)]] w λ e w'=>∃ i : Int,e = .returned (.int .i64 i) /\ (0 <= i ↔ b.any (notB (b.getD 0 0)) = true) /\ w = w':=by
 obtain ⟨a0,e0,hc0⟩:=a0w hr 0 h0
 injection e0 with e0
 subst e0
 have HR:=Lib.hid (And.intro hr (And.intro hp hc0))
 clear hr hp hc0
 obtain ⟨x0,hx0⟩ : ∃ x0,x0 = b.getD 0 0:=⟨_,rfl⟩
 rw [<- hx0] at HR ⊢
 clear hx0
 go_enter Tryz.func264,Tryz.ntmps264
 go_wp2_with fail
 go_loop [8] (λ kv=>∃ (k : Nat),kv = .int .i64 k /\ k <= b.length /\ Hid (∀ q ∈ b.take k,notB x0 q = false)) (λ kv=>b.length - (intOf kv).toNat)
 case atStart=>exact ⟨0,rfl,by omega,λ q hq=>by simp at hq⟩
 case round=>
  obtain ⟨k,rfl,hk,H⟩:=hrel
  by_cases hlt : k < b.length
  · obtain ⟨a1,e1,hc⟩:=a0w HR.out.1 k hlt
    injection e1 with e1
    subst e1
    have hkI : (k : Int) < (b.length : Int):=by omega
    obtain ⟨q,hq⟩ : ∃ q,q = b.getD k 0:=⟨_,rfl⟩
    rw [<- hq] at hc
    have HQ:=Lib.hid hq
    clear hq
    go_wp2_with fail
    refine (c7U ad c p b.length x0 q w HR.out.2.1 h0 HR.out.2.2).mono ?_
    obtain ⟨b1,hb⟩ : ∃ b1,b1 = notB x0 q:=⟨_,rfl⟩
    rw [<- hb]
    rintro e w' ⟨rfl,rfl⟩
    have hq2 : b[k] = q:=by rw [HQ.out,List.getD_eq_getElem?_getD,List.getElem?_eq_getElem hlt]; rfl
    have HB:=Lib.hid (And.intro hb hq2)
    clear hb hq2
    cases b1 with
    | true=>
     go_wp2_with fail
     go_ret
     exact ⟨k,rfl,⟨λ _=>List.any_eq_true.2 ⟨q,HB.out.2 ▸ List.getElem_mem hlt,HB.out.1.symm⟩,λ _=>by omega⟩,rfl⟩
    | false=>
     go_wp2_with fail
     go_round
     case rel=>
      refine ⟨k + 1,by go_num,by omega,λ x hx=>?_⟩
      rw [List.take_succ_eq_append_getElem hlt] at hx
      rcases List.mem_append.1 hx with h | h
      · exact H.out x h
      · rw [List.mem_singleton.1 h,HB.out.2]; exact HB.out.1.symm
     case measure=>simp [intOf]; omega
  · have hkn : k = b.length:=by omega
    go_wp2_with fail
    go_ret
    refine ⟨-1,rfl,⟨λ h=>by omega,λ h=>?_⟩,rfl⟩
    obtain ⟨x,hx,hb⟩:=h
    have:=H.out x (by rw [hkn,List.take_length]; exact hx)
    rw [this] at hb; cases hb
set_option maxRecDepth 100000 in
theorem c7W (ad : Addr) (c p : Nat) (b : List Int) (w : World) (hp : w.cell? ⟨p,0,none⟩ = some (.slice (some ad) b.length c)) (hr : (Kd.int .u8).C w (some ad) b.length b) (hl : b.length <= 1000000) (h0 : 0 < b.length) :
    Calls Tryz.prog 243 #[.slice (some ad) b.length c,.func (.func 244) #[] #[.pointer (some ⟨p,0,none⟩)]] w λ e w'=>e = .returned (.bool (b.any (notB (b.getD 0 0)))) /\ w = w':=by
 have HI:=Lib.hid (c7V ad c p b w hp hr hl h0)
 clear hr hp hl h0
 obtain ⟨z,hz⟩ : ∃ z,z = b.any (notB (b.getD 0 0)):=⟨_,rfl⟩
 rw [<- hz] at HI ⊢
 clear hz
 go_enter Tryz.func243,Tryz.ntmps243
 go_wp2_with fail
 refine HI.out.mono ?_
 rintro e w' ⟨i,rfl,hi,rfl⟩
 cases z with
 | true=>
  have h0 : 0 <= i:=hi.2 rfl
  clear hi
  go_wp2_with fail
  go_ret
  exact ⟨rfl,rfl⟩
 | false=>
  have h0 : decide (0 <= i) = false:=decide_eq_false (λ h=>by have:=hi.1 h; cases this)
  clear hi
  go_wp2_with fail
  go_ret
  exact ⟨by simp,rfl⟩
theorem c7X (b : List Int) : a1Q b = (decide (1 < b.length) && !b.any (notB (b.getD 0 0))):=by
 unfold a1Q
 congr 1
 rw [List.not_any_eq_all_not]
 congr 1
 funext x
 unfold notB
 simp
set_option maxRecDepth 100000 in
theorem c7Y (A : Option Addr) (c : Nat) (b : List Int) (w : World) (hr : (Kd.int .u8).C w A b.length b) (hl : b.length <= 1000000) :
    Calls Tryz.prog 222 #[.slice A b.length c] w λ e w'=>e = .returned (.bool (a1Q b)) /\ Below w.heap.size w w':=by
 rw [c7X]
 have hmf : ∀ (fn : Fn) (first cap : Array Value) (w : World),(Instr.makeFunc fn first cap).run Tryz.prog w = .ok (.func fn first cap) w:=λ _ _ _ _=>rfl
 obtain ⟨W,hW⟩ : ∃ W,W = w.alloc (.cells #[.slice A b.length c] 22):=⟨_,rfl⟩
 have hb1 : Below w.heap.size w W:=by rw [hW]; exact (Below.refl _ _).alloc (Nat.le_refl _) _
 have hc1 : W.cell? ⟨w.heap.size,0,none⟩ = some (.slice A b.length c):=by rw [hW]; exact (a0a (a0k _ _) 0).trans rfl
 by_cases h1 : 1 < b.length
 · obtain ⟨ad,hA,_⟩:=a0w hr 0 (by omega)
   subst hA
   have HP:=Lib.hid (c7W ad c w.heap.size b W hc1 (Kd.C_below hr hb1) hl (by omega))
   have HB:=Lib.hid hb1
   obtain ⟨z,hz⟩ : ∃ z,z = b.any (notB (b.getD 0 0)):=⟨_,rfl⟩
   rw [<- hz] at HP ⊢
   have d1:=decide_eq_true h1
   rw [d1]
   have hI : (1 : Int) < (b.length : Int):=by omega
   clear hr hz hb1 d1 h1
   go_enter Tryz.func222,Tryz.ntmps222
   go_wp2_with fail
   rw [<- hW]
   clear hW
   go_wp2_with fail
   refine HP.out.mono ?_
   rintro e w' ⟨rfl,rfl⟩
   go_wp2_with fail
   go_ret
   exact ⟨rfl,HB.out⟩
 · have d1:=decide_eq_false h1
   rw [d1]
   have hI : decide ((1 : Int) < (b.length : Int)) = false:=decide_eq_false (by omega)
   have HB:=Lib.hid hb1
   clear hr d1 h1 hb1
   go_enter Tryz.func222,Tryz.ntmps222
   go_wp2_with fail
   rw [<- hW]
   clear hW
   go_wp2_with fail
   go_ret
   exact ⟨by simp,HB.out⟩
theorem c_nil {A : Option Addr} {b : List Int} {w : World} (hr : (Kd.int .u8).C w A b.length b) (h : A = none) : b = []:=by
 rcases Nat.eq_zero_or_pos b.length with h0 | h0
 · exact List.eq_nil_of_length_eq_zero h0
 · obtain ⟨ad,hA,_⟩:=a0w hr 0 h0
   rw [h] at hA; cases hA
theorem b0G {b : List Int} (hl : b.length <= 40000) : a1u 0 b = (0,b):=by
 unfold a1u; rw [if_neg (by omega),if_pos rfl]
theorem b0H {b : List Int} (hl : b.length <= 40000) (ha : a1Q b = true) : a1u 1 b = (0,[b.getD 0 0]):=by
 unfold a1u; rw [if_neg (λ h=>by rcases h with h | h | h; (· omega); (· omega); rw [ha] at h; cases h.2),if_neg (by decide)]
theorem b6V {b : List Int} (ha : a1Q b = false) : a1u 1 b = (1,[]):=by
 unfold a1u; rw [if_pos (.inr (.inr ⟨rfl,ha⟩))]
theorem Told.nil (k : Int) {w w' : World} (hb : Below w.heap.size w w') : Told k [] w (.returned (.tuple #[.slice none 0 0,.int .i64 k])) w':=⟨none,0,rfl,Kd.R_nil _ _ _ _ _,hb⟩
set_option maxRecDepth 100000 in
set_option maxHeartbeats 400000 in
theorem c7Z (A : Option Addr) (c : Nat) (b : List Int) (w : World) (hr : (Kd.int .u8).C w A b.length b) (hl : b.length <= 40000) :
    Calls Tryz.prog 177 #[.int .i64 0,.slice A b.length c] w (Told 0 b w):=by
 have HR:=Lib.hid hr
 have HN:=Lib.hid (c_nil hr)
 have hI : decide ((131072 : Int) < (b.length : Int)) = false:=decide_eq_false (by omega)
 have HL:=Lib.hid hl
 clear hr hl
 go_enter Tryz.func177,Tryz.ntmps177
 go_wp2_with fail
 refine (a6f 0 w).mono ?_
 rintro e w' ⟨rfl,rfl⟩
 go_wp2_with fail
 refine (c7T A c b w HR.out (by have:=HL.out; omega) HN.out).mono ?_
 rintro e w' ⟨v,rfl,hv,hb⟩
 obtain ⟨A1,c1,rfl⟩:=Kd.R_slice hv
 have H1:=Lib.hid (And.intro hv hb)
 clear hv hb
 go_wp2_with fail
 go_ret2
 exact ⟨A1,c1,rfl,H1.out.1,H1.out.2⟩
set_option maxRecDepth 100000 in
set_option maxHeartbeats 400000 in
theorem c8a (A : Option Addr) (c : Nat) (b : List Int) (w : World) (hr : (Kd.int .u8).C w A b.length b) (hl : b.length <= 40000) :
    Calls Tryz.prog 177 #[.int .i64 1,.slice A b.length c] w (Told (a1u 1 b).1 (a1u 1 b).2 w):=by
 have hI : decide ((131072 : Int) < (b.length : Int)) = false:=decide_eq_false (by omega)
 have HA:=Lib.hid (c7Y A c b w hr (by omega))
 obtain ⟨z,hz⟩ : ∃ z,z = a1Q b:=⟨_,rfl⟩
 rw [<- hz] at HA
 cases z with
 | false=>
  rw [b6V hz.symm]
  clear hr hl hz
  go_enter Tryz.func177,Tryz.ntmps177
  go_wp2_with fail
  refine (a6f 1 w).mono ?_
  rintro e w' ⟨rfl,rfl⟩
  go_wp2_with fail
  refine HA.out.mono ?_
  rintro e w' ⟨rfl,hb⟩
  have HB:=Lib.hid hb
  clear hb
  go_wp2_with fail
  go_ret2
  exact Told.nil 1 HB.out
 | true=>
  rw [b0H hl hz.symm]
  have h1:=(b0v hz.symm).2
  obtain ⟨ad,hA,hc⟩:=a0w hr 0 (by omega)
  subst hA
  have e0 : ad.add 0 = ad:=by simp [Addr.add]
  rw [e0] at hc
  have HC:=Lib.hid hc
  obtain ⟨x,hx⟩ : ∃ x,x = b.getD 0 0:=⟨_,rfl⟩
  rw [<- hx] at HC ⊢
  have hI0 : (0 : Int) < (b.length : Int):=by omega
  clear hr hl hz hx h1 e0 hc
  go_enter Tryz.func177,Tryz.ntmps177
  go_wp2_with fail
  refine (a6f 1 w).mono ?_
  rintro e w' ⟨rfl,rfl⟩
  go_wp2_with fail
  refine HA.out.mono ?_
  rintro e w' ⟨rfl,hb⟩
  have hc2:=a0s hb HC.out
  have HB:=Lib.hid hb
  clear hb
  go_wp2_with fail
  go_ret2
  have hrow : (Kd.int .u8).R 5 (w'.alloc (.cells #[.int .u8 x] 5)) w.heap.size (λ _=>True) (.slice (some ⟨w'.heap.size,0,none⟩) 1 1) [x]:=a2i .u8 5 w' w.heap.size (λ _=>True) trivial HB.out.size [x] (by simp)
  exact ⟨_,1,rfl,hrow,HB.out.alloc HB.out.size _⟩
def b0I (p : Nat) (may : FuncId) : Value:=.agg #[.func (.func 176) #[] #[.pointer (some ⟨p,0,none⟩)],.func (.func 178) #[] #[.pointer (some ⟨p,0,none⟩)],.func (.func may) #[] #[]]
theorem a6g : (Tryz.prog.info? 102).map (·.size) = some 3:=by kernel_rfl
set_option maxRecDepth 100000 in
theorem b6W (k : Int) (may : FuncId) (w : World) :
    Calls Tryz.prog 127 #[.int .i64 k,.func (.func may) #[] #[]] w λ e w'=>e = .returned (b0I w.heap.size may) /\ Below w.heap.size w w' /\ w'.heap[w.heap.size]? = some (.cells #[.int .i64 k] 3 (0,0)):=by
 have hmf : ∀ (fn : Fn) (first cap : Array Value) (w : World),(Instr.makeFunc fn first cap).run Tryz.prog w = .ok (.func fn first cap) w:=λ _ _ _ _=>rfl
 go_enter Tryz.func127,Tryz.ntmps127
 go_wp2_with fail
 refine bodyPost_ret (results_cell_row (fn:=Tryz.f127) (p:=4) (ty:=102) rfl _ _ _ _ _ _ _ rfl (a2h _ _ _) Tryz.underlying102 rfl a6g) rfl ?_
 exact ⟨rfl,((Below.refl w.heap.size w).alloc (Nat.le_refl _) _).alloc (by simp) _,a0i (a0k _ _) _⟩
theorem c8b : (Tryz.prog.info? 103).map (·.size) = some 12:=by kernel_rfl
theorem c8c {w : World} {m t : Nat} (h : w.heap[m]? = some (.cells #[.nilFunc,.nilFunc,.nilFunc,.nilFunc,.nilFunc,.nilFunc,.nilFunc,.nilFunc,.nilFunc,.nilFunc,.nilFunc,.nilFunc] t (0,0))) : (w.cell? ⟨m,0,none⟩ = some .nilFunc /\ w.cell? ⟨m,1,none⟩ = some .nilFunc /\ w.cell? ⟨m,2,none⟩ = some .nilFunc /\ w.cell? ⟨m,3,none⟩ = some .nilFunc /\ w.cell? ⟨m,4,none⟩ = some .nilFunc /\ w.cell? ⟨m,5,none⟩ = some .nilFunc /\ w.cell? ⟨m,6,none⟩ = some .nilFunc /\ w.cell? ⟨m,7,none⟩ = some .nilFunc /\ w.cell? ⟨m,8,none⟩ = some .nilFunc /\ w.cell? ⟨m,9,none⟩ = some .nilFunc /\ w.cell? ⟨m,10,none⟩ = some .nilFunc /\ w.cell? ⟨m,11,none⟩ = some .nilFunc) /\ (w.frozen? ⟨m,0,none⟩ = false /\ w.frozen? ⟨m,1,none⟩ = false /\ w.frozen? ⟨m,2,none⟩ = false /\ w.frozen? ⟨m,3,none⟩ = false /\ w.frozen? ⟨m,4,none⟩ = false /\ w.frozen? ⟨m,5,none⟩ = false /\ w.frozen? ⟨m,6,none⟩ = false /\ w.frozen? ⟨m,7,none⟩ = false /\ w.frozen? ⟨m,8,none⟩ = false /\ w.frozen? ⟨m,9,none⟩ = false /\ w.frozen? ⟨m,10,none⟩ = false /\ w.frozen? ⟨m,11,none⟩ = false):=⟨⟨(a0a h 0).trans rfl,(a0a h 1).trans rfl,(a0a h 2).trans rfl,(a0a h 3).trans rfl,(a0a h 4).trans rfl,(a0a h 5).trans rfl,(a0a h 6).trans rfl,(a0a h 7).trans rfl,(a0a h 8).trans rfl,(a0a h 9).trans rfl,(a0a h 10).trans rfl,(a0a h 11).trans rfl⟩,a0e h 0,a0e h 1,a0e h 2,a0e h 3,a0e h 4,a0e h 5,a0e h 6,a0e h 7,a0e h 8,a0e h 9,a0e h 10,a0e h 11⟩
theorem c8d {w : World} {m t : Nat} (h : w.heap[m]? = some (.cells #[.nilFunc,.nilFunc,.nilFunc,.nilFunc,.nilFunc,.nilFunc,.nilFunc,.nilFunc,.nilFunc,.nilFunc,.nilFunc,.nilFunc] t (0,0))) (x0 x1 x2 x3 x4 x5 x6 x7 x8 x9 x10 x11 : Value) : ((((((((((((w.setCell ⟨m,0,none⟩ x0).setCell ⟨m,1,none⟩ x1).setCell ⟨m,2,none⟩ x2).setCell ⟨m,3,none⟩ x3).setCell ⟨m,4,none⟩ x4).setCell ⟨m,5,none⟩ x5).setCell ⟨m,6,none⟩ x6).setCell ⟨m,7,none⟩ x7).setCell ⟨m,8,none⟩ x8).setCell ⟨m,9,none⟩ x9).setCell ⟨m,10,none⟩ x10).setCell ⟨m,11,none⟩ x11).heap[m]? = some (.cells #[x0,x1,x2,x3,x4,x5,x6,x7,x8,x9,x10,x11] t (0,0)):=by
 have h0 : (w.setCell ⟨m,0,none⟩ x0).heap[m]? = some (.cells #[x0,.nilFunc,.nilFunc,.nilFunc,.nilFunc,.nilFunc,.nilFunc,.nilFunc,.nilFunc,.nilFunc,.nilFunc,.nilFunc] t (0,0)):=(a0n h 0 x0).trans rfl
 have h1 : ((w.setCell ⟨m,0,none⟩ x0).setCell ⟨m,1,none⟩ x1).heap[m]? = some (.cells #[x0,x1,.nilFunc,.nilFunc,.nilFunc,.nilFunc,.nilFunc,.nilFunc,.nilFunc,.nilFunc,.nilFunc,.nilFunc] t (0,0)):=(a0n h0 1 x1).trans rfl
 have h2 : (((w.setCell ⟨m,0,none⟩ x0).setCell ⟨m,1,none⟩ x1).setCell ⟨m,2,none⟩ x2).heap[m]? = some (.cells #[x0,x1,x2,.nilFunc,.nilFunc,.nilFunc,.nilFunc,.nilFunc,.nilFunc,.nilFunc,.nilFunc,.nilFunc] t (0,0)):=(a0n h1 2 x2).trans rfl
 have h3 : ((((w.setCell ⟨m,0,none⟩ x0).setCell ⟨m,1,none⟩ x1).setCell ⟨m,2,none⟩ x2).setCell ⟨m,3,none⟩ x3).heap[m]? = some (.cells #[x0,x1,x2,x3,.nilFunc,.nilFunc,.nilFunc,.nilFunc,.nilFunc,.nilFunc,.nilFunc,.nilFunc] t (0,0)):=(a0n h2 3 x3).trans rfl
 have h4 : (((((w.setCell ⟨m,0,none⟩ x0).setCell ⟨m,1,none⟩ x1).setCell ⟨m,2,none⟩ x2).setCell ⟨m,3,none⟩ x3).setCell ⟨m,4,none⟩ x4).heap[m]? = some (.cells #[x0,x1,x2,x3,x4,.nilFunc,.nilFunc,.nilFunc,.nilFunc,.nilFunc,.nilFunc,.nilFunc] t (0,0)):=(a0n h3 4 x4).trans rfl
 have h5 : ((((((w.setCell ⟨m,0,none⟩ x0).setCell ⟨m,1,none⟩ x1).setCell ⟨m,2,none⟩ x2).setCell ⟨m,3,none⟩ x3).setCell ⟨m,4,none⟩ x4).setCell ⟨m,5,none⟩ x5).heap[m]? = some (.cells #[x0,x1,x2,x3,x4,x5,.nilFunc,.nilFunc,.nilFunc,.nilFunc,.nilFunc,.nilFunc] t (0,0)):=(a0n h4 5 x5).trans rfl
 have h6 : (((((((w.setCell ⟨m,0,none⟩ x0).setCell ⟨m,1,none⟩ x1).setCell ⟨m,2,none⟩ x2).setCell ⟨m,3,none⟩ x3).setCell ⟨m,4,none⟩ x4).setCell ⟨m,5,none⟩ x5).setCell ⟨m,6,none⟩ x6).heap[m]? = some (.cells #[x0,x1,x2,x3,x4,x5,x6,.nilFunc,.nilFunc,.nilFunc,.nilFunc,.nilFunc] t (0,0)):=(a0n h5 6 x6).trans rfl
 have h7 : ((((((((w.setCell ⟨m,0,none⟩ x0).setCell ⟨m,1,none⟩ x1).setCell ⟨m,2,none⟩ x2).setCell ⟨m,3,none⟩ x3).setCell ⟨m,4,none⟩ x4).setCell ⟨m,5,none⟩ x5).setCell ⟨m,6,none⟩ x6).setCell ⟨m,7,none⟩ x7).heap[m]? = some (.cells #[x0,x1,x2,x3,x4,x5,x6,x7,.nilFunc,.nilFunc,.nilFunc,.nilFunc] t (0,0)):=(a0n h6 7 x7).trans rfl
 have h8 : (((((((((w.setCell ⟨m,0,none⟩ x0).setCell ⟨m,1,none⟩ x1).setCell ⟨m,2,none⟩ x2).setCell ⟨m,3,none⟩ x3).setCell ⟨m,4,none⟩ x4).setCell ⟨m,5,none⟩ x5).setCell ⟨m,6,none⟩ x6).setCell ⟨m,7,none⟩ x7).setCell ⟨m,8,none⟩ x8).heap[m]? = some (.cells #[x0,x1,x2,x3,x4,x5,x6,x7,x8,.nilFunc,.nilFunc,.nilFunc] t (0,0)):=(a0n h7 8 x8).trans rfl
 have h9 : ((((((((((w.setCell ⟨m,0,none⟩ x0).setCell ⟨m,1,none⟩ x1).setCell ⟨m,2,none⟩ x2).setCell ⟨m,3,none⟩ x3).setCell ⟨m,4,none⟩ x4).setCell ⟨m,5,none⟩ x5).setCell ⟨m,6,none⟩ x6).setCell ⟨m,7,none⟩ x7).setCell ⟨m,8,none⟩ x8).setCell ⟨m,9,none⟩ x9).heap[m]? = some (.cells #[x0,x1,x2,x3,x4,x5,x6,x7,x8,x9,.nilFunc,.nilFunc] t (0,0)):=(a0n h8 9 x9).trans rfl
 have h10 : (((((((((((w.setCell ⟨m,0,none⟩ x0).setCell ⟨m,1,none⟩ x1).setCell ⟨m,2,none⟩ x2).setCell ⟨m,3,none⟩ x3).setCell ⟨m,4,none⟩ x4).setCell ⟨m,5,none⟩ x5).setCell ⟨m,6,none⟩ x6).setCell ⟨m,7,none⟩ x7).setCell ⟨m,8,none⟩ x8).setCell ⟨m,9,none⟩ x9).setCell ⟨m,10,none⟩ x10).heap[m]? = some (.cells #[x0,x1,x2,x3,x4,x5,x6,x7,x8,x9,x10,.nilFunc] t (0,0)):=(a0n h9 10 x10).trans rfl
 have h11 : ((((((((((((w.setCell ⟨m,0,none⟩ x0).setCell ⟨m,1,none⟩ x1).setCell ⟨m,2,none⟩ x2).setCell ⟨m,3,none⟩ x3).setCell ⟨m,4,none⟩ x4).setCell ⟨m,5,none⟩ x5).setCell ⟨m,6,none⟩ x6).setCell ⟨m,7,none⟩ x7).setCell ⟨m,8,none⟩ x8).setCell ⟨m,9,none⟩ x9).setCell ⟨m,10,none⟩ x10).setCell ⟨m,11,none⟩ x11).heap[m]? = some (.cells #[x0,x1,x2,x3,x4,x5,x6,x7,x8,x9,x10,x11] t (0,0)):=(a0n h10 11 x11).trans rfl
 exact h11
theorem far12 {w : World} {m p : Nat} {v : Value} (h : w.cell? ⟨p,0,none⟩ = some v) (hm : m ≠ p) (x0 x1 x2 x3 x4 x5 x6 x7 x8 x9 x10 x11 : Value) : ((((((((((((w.setCell ⟨m,0,none⟩ x0).setCell ⟨m,1,none⟩ x1).setCell ⟨m,2,none⟩ x2).setCell ⟨m,3,none⟩ x3).setCell ⟨m,4,none⟩ x4).setCell ⟨m,5,none⟩ x5).setCell ⟨m,6,none⟩ x6).setCell ⟨m,7,none⟩ x7).setCell ⟨m,8,none⟩ x8).setCell ⟨m,9,none⟩ x9).setCell ⟨m,10,none⟩ x10).setCell ⟨m,11,none⟩ x11).cell? ⟨p,0,none⟩ = some v:=by
 have hne : ∀ k,(⟨m,k,none⟩ : Addr) ≠ ⟨p,0,none⟩:=λ k e=>by injection e with e1; exact hm e1
 exact ((World.cell?_setCell_other _ _ _ _ (hne 11)).trans ((World.cell?_setCell_other _ _ _ _ (hne 10)).trans ((World.cell?_setCell_other _ _ _ _ (hne 9)).trans ((World.cell?_setCell_other _ _ _ _ (hne 8)).trans ((World.cell?_setCell_other _ _ _ _ (hne 7)).trans ((World.cell?_setCell_other _ _ _ _ (hne 6)).trans ((World.cell?_setCell_other _ _ _ _ (hne 5)).trans ((World.cell?_setCell_other _ _ _ _ (hne 4)).trans ((World.cell?_setCell_other _ _ _ _ (hne 3)).trans ((World.cell?_setCell_other _ _ _ _ (hne 2)).trans ((World.cell?_setCell_other _ _ _ _ (hne 1)).trans ((World.cell?_setCell_other _ _ _ _ (hne 0)).trans h))))))))))))
def a1n (p q : Nat) : Array Value:=#[.func (.func 176) #[] #[.pointer (some ⟨p,0,none⟩)],.func (.func 178) #[] #[.pointer (some ⟨p,0,none⟩)],.func (.func 128) #[] #[],
 .func (.func 176) #[] #[.pointer (some ⟨q,0,none⟩)],.func (.func 178) #[] #[.pointer (some ⟨q,0,none⟩)],.func (.func 129) #[] #[],
 .func (.func 130) #[] #[],.func (.func 131) #[] #[],.func (.func 132) #[] #[],
 .func (.func 63) #[] #[],.func (.func 23) #[] #[],.func (.func 132) #[] #[]]
def c8e (w : World) (e : Ending) (w' : World) : Prop:=∃ p q,e = .returned (.agg (a1n p q)) /\ w'.cell? ⟨p,0,none⟩ = some (.int .i64 0) /\ w'.cell? ⟨q,0,none⟩ = some (.int .i64 1) /\ Below w.heap.size w w'
set_option maxRecDepth 100000 in
set_option maxHeartbeats 1000000 in
theorem a2r (w : World) : Calls Tryz.prog 80 #[] w (c8e w):=by
 obtain ⟨W0,hW0⟩ : ∃ W0,W0 = w.alloc (.cells #[.nilFunc,.nilFunc,.nilFunc,.nilFunc,.nilFunc,.nilFunc,.nilFunc,.nilFunc,.nilFunc,.nilFunc,.nilFunc,.nilFunc] 103):=⟨_,rfl⟩
 have hb0 : Below w.heap.size w W0:=by rw [hW0]; exact (Below.refl _ _).alloc (Nat.le_refl _) _
 have hk0 : W0.heap[w.heap.size]? = some (.cells #[.nilFunc,.nilFunc,.nilFunc,.nilFunc,.nilFunc,.nilFunc,.nilFunc,.nilFunc,.nilFunc,.nilFunc,.nilFunc,.nilFunc] 103 (0,0)):=by rw [hW0]; exact a0k _ _
 have hs0 : W0.heap.size = w.heap.size + 1:=by rw [hW0]; simp
 obtain ⟨m,hm⟩ : ∃ m,m = w.heap.size:=⟨_,rfl⟩
 rw [<- hm] at hk0
 have HK:=Lib.hid (And.intro hk0 (And.intro hb0 (And.intro hm hs0)))
 clear hk0 hb0 hs0
 go_enter Tryz.func80,Tryz.ntmps80
 go_wp2_with fail
 rw [<- hW0,<- hm]
 clear hW0 hm
 refine (b6W 0 128 W0).mono ?_
 rintro e w1 ⟨rfl,hb1,hp1⟩
 obtain ⟨p,hp⟩ : ∃ p,p = W0.heap.size:=⟨_,rfl⟩
 rw [<- hp] at hp1 ⊢
 have H1:=Lib.hid (And.intro hb1 (And.intro hp1 hp))
 clear hb1 hp1 hp
 unfold b0I
 go_wp2_with fail
 refine (b6W 1 129 w1).mono ?_
 rintro e w2 ⟨rfl,hb2,hq2⟩
 obtain ⟨q,hq⟩ : ∃ q,q = w1.heap.size:=⟨_,rfl⟩
 rw [<- hq] at hq2 ⊢
 have H2:=Lib.hid (And.intro hb2 (And.intro hq2 hq))
 have hk2:=a0g (a0g HK.out.1 H1.out.1) hb2
 obtain ⟨⟨c0,c1,c2,c3,c4,c5,c6,c7,c8,c9,c10,c11⟩,f0,f1,f2,f3,f4,f5,f6,f7,f8,f9,f10,f11⟩:=c8c hk2
 have HK2:=Lib.hid hk2
 clear hb2 hq2 hq hk2
 unfold b0I
 go_wp2_with fail
 refine bodyPost_ret (results_cell_row (fn:=Tryz.f80) (p:=0) (ty:=103) rfl _ _ _ _ _ _ _ rfl (c8d HK2.out _ _ _ _ _ _ _ _ _ _ _ _) Tryz.underlying103 rfl c8b) rfl ?_
 have hm : w.heap.size <= m:=by have:=HK.out.2.2.1; omega
 have hpm : m ≠ p:=by have h1:=H1.out.2.2; have h2:=HK.out.2.2.1; have h3:=HK.out.2.2.2; omega
 have hqm : m ≠ q:=by have h1:=H2.out.2.2; have h2:=HK.out.2.2.1; have h3:=HK.out.2.2.2; have h4:=H1.out.1.size; omega
 have HB : Below w.heap.size w w2:=a0h (a0h HK.out.2.1 H1.out.1) H2.out.1
 have hp2 : w2.cell? ⟨p,0,none⟩ = some (.int .i64 0):=a0s H2.out.1 ((a0a H1.out.2.1 0).trans rfl)
 have hq2 : w2.cell? ⟨q,0,none⟩ = some (.int .i64 1):=(a0a H2.out.2.1 0).trans rfl
 exact ⟨p,q,rfl,far12 hp2 hpm _ _ _ _ _ _ _ _ _ _ _ _,far12 hq2 hqm _ _ _ _ _ _ _ _ _ _ _ _,((((((((((((HB.setCell hm _).setCell hm _).setCell hm _).setCell hm _).setCell hm _).setCell hm _).setCell hm _).setCell hm _).setCell hm _).setCell hm _).setCell hm _).setCell hm _)⟩
set_option maxRecDepth 100000 in
theorem a2K (k : Int) (w : World) : Calls Tryz.prog 83 #[.int .i64 k] w λ e w'=>e = .returned (.bool (decide (0 <= k /\ k < 4))) /\ w = w':=by
 by_cases h0 : 0 <= k
 · by_cases h1 : k < 4
   · have d : decide (0 <= k /\ k < 4) = true:=decide_eq_true ⟨h0,h1⟩
     rw [d]
     have d0:=decide_eq_true h0
     have d1:=decide_eq_true h1
     clear d
     go_enter Tryz.func83,Tryz.ntmps83
     go_wp2_with fail
     go_ret
     exact ⟨rfl,rfl⟩
   · have d : decide (0 <= k /\ k < 4) = false:=decide_eq_false (λ h=>h1 h.2)
     rw [d]
     have d1:=decide_eq_false h1
     clear d h1
     go_enter Tryz.func83,Tryz.ntmps83
     go_wp2_with fail
     go_ret
     exact ⟨by simp,rfl⟩
 · have d : decide (0 <= k /\ k < 4) = false:=decide_eq_false (λ h=>h0 h.1)
   rw [d]
   have d0:=decide_eq_false h0
   clear d h0
   go_enter Tryz.func83,Tryz.ntmps83
   go_wp2_with fail
   go_ret
   exact ⟨by simp,rfl⟩
set_option maxRecDepth 100000 in
theorem b6X {x : Int × List Int} (A : Option Addr) (c p : Nat) (k : Int) (b : List Int) (w : World) (hp : w.cell? ⟨p,0,none⟩ = some (.int .i64 k)) (h : Calls Tryz.prog 177 #[.int .i64 k,.slice A b.length c] w (Told x.1 x.2 w)) :
    Calls Tryz.prog 176 #[.slice A b.length c,.pointer (some ⟨p,0,none⟩)] w (Told x.1 x.2 w):=by
 have H:=Lib.hid h
 clear h
 go_enter Tryz.func176,Tryz.ntmps176
 go_wp2_with fail
 refine H.out.mono ?_
 rintro e w' ⟨A1,c1,rfl,hv,hb⟩
 have H1:=Lib.hid (And.intro hv hb)
 clear hv hb
 go_wp2_with fail
 go_ret2
 exact ⟨A1,c1,rfl,H1.out.1,H1.out.2⟩
theorem b0J (p q : Nat) (w : World) : (Instr.index 103 (.agg (a1n p q)) (.int .i64 0)).run Tryz.prog w = .ok (.agg #[.func (.func 176) #[] #[.pointer (some ⟨p,0,none⟩)],.func (.func 178) #[] #[.pointer (some ⟨p,0,none⟩)],.func (.func 128) #[] #[]]) w:=by
 obtain ⟨i0,hi0,hsz⟩:=Option.map_eq_some_iff.1 a6g
 have hag : (isAgg 102).run Tryz.prog w = .ok true w:=by simp [isAgg,Tryz.underlying102,go_sem,run_underlying]
 unfold Instr.index a1n
 simp [run_underlying (P:=Tryz.prog) Tryz.underlying103,asIntOf,sizeOf,typeInfo,hi0,hsz,part,hag,Result.andThen]
theorem b0K (p q : Nat) (w : World) : (Instr.index 103 (.agg (a1n p q)) (.int .i64 1)).run Tryz.prog w = .ok (.agg #[.func (.func 176) #[] #[.pointer (some ⟨q,0,none⟩)],.func (.func 178) #[] #[.pointer (some ⟨q,0,none⟩)],.func (.func 129) #[] #[]]) w:=by
 obtain ⟨i0,hi0,hsz⟩:=Option.map_eq_some_iff.1 a6g
 have hag : (isAgg 102).run Tryz.prog w = .ok true w:=by simp [isAgg,Tryz.underlying102,go_sem,run_underlying]
 unfold Instr.index a1n
 simp [run_underlying (P:=Tryz.prog) Tryz.underlying103,asIntOf,sizeOf,typeInfo,hi0,hsz,part,hag,Result.andThen]
theorem b0L (p q : Nat) (w : World) : (Instr.index 103 (.agg (a1n p q)) (.int .i64 2)).run Tryz.prog w = .ok (.agg #[.func (.func 130) #[] #[],.func (.func 131) #[] #[],.func (.func 132) #[] #[]]) w:=by
 obtain ⟨i0,hi0,hsz⟩:=Option.map_eq_some_iff.1 a6g
 have hag : (isAgg 102).run Tryz.prog w = .ok true w:=by simp [isAgg,Tryz.underlying102,go_sem,run_underlying]
 unfold Instr.index a1n
 simp [run_underlying (P:=Tryz.prog) Tryz.underlying103,asIntOf,sizeOf,typeInfo,hi0,hsz,part,hag,Result.andThen]
theorem b0M (p q : Nat) (w : World) : (Instr.index 103 (.agg (a1n p q)) (.int .i64 3)).run Tryz.prog w = .ok (.agg #[.func (.func 63) #[] #[],.func (.func 23) #[] #[],.func (.func 132) #[] #[]]) w:=by
 obtain ⟨i0,hi0,hsz⟩:=Option.map_eq_some_iff.1 a6g
 have hag : (isAgg 102).run Tryz.prog w = .ok true w:=by simp [isAgg,Tryz.underlying102,go_sem,run_underlying]
 unfold Instr.index a1n
 simp [run_underlying (P:=Tryz.prog) Tryz.underlying103,asIntOf,sizeOf,typeInfo,hi0,hsz,part,hag,Result.andThen]
theorem a7X (a b c : Value) (w : World) : (Instr.field 102 (.agg #[a,b,c]) 0).run Tryz.prog w = .ok a w:=by kernel_rfl
theorem a7Y (a b c : Value) (w : World) : (Instr.field 102 (.agg #[a,b,c]) 1).run Tryz.prog w = .ok b w:=by kernel_rfl
theorem a7Z (a b c : Value) (w : World) : (Instr.field 102 (.agg #[a,b,c]) 2).run Tryz.prog w = .ok c w:=by kernel_rfl
theorem b6Y {k : Int} {b : List Int} (h : ¬ (0 <= k /\ k < 4)) : pickE k b = (10,[]):=by unfold pickE; rw [if_pos (by omega)]
theorem a5q {k : Int} {b : List Int} (h0 : 0 <= k) (h1 : k <= 1) : pickE k b = a1u k b:=by unfold pickE; rw [if_neg (by omega),if_pos h1]
theorem c8f {k : Int} {b : List Int} (h0 : 2 <= k) (h1 : k <= 3) (hb : b.length = 0) : pickE k b = (1,[]):=by unfold pickE; rw [if_neg (by omega),if_neg (by omega),if_pos hb]
theorem b6Z {b : List Int} (hb : 0 < b.length) : pickE 2 b = (0,a1q b):=by unfold pickE; rw [if_neg (by decide),if_neg (by decide),if_neg (by omega),if_pos rfl]
theorem b7a {b : List Int} (hb : 0 < b.length) : pickE 3 b = (0,a1m b):=by unfold pickE; rw [if_neg (by decide),if_neg (by decide),if_neg (by omega),if_neg (by decide)]
set_option maxRecDepth 100000 in
theorem c8g (A : Option Addr) (c : Nat) (k : Int) (b : List Int) (w : World) (h : ¬ (0 <= k /\ k < 4)) :
    Calls Tryz.prog 126 #[.int .i64 k,.slice A b.length c] w (Told 10 [] w):=by
 have hd:=decide_eq_false h
 have HI:=Lib.hid (a2K k w)
 rw [hd] at HI
 clear hd h
 go_enter Tryz.func126,Tryz.ntmps126
 go_wp2_with fail
 refine HI.out.mono ?_
 rintro e w' ⟨rfl,rfl⟩
 go_wp2_with fail
 go_ret2
 exact Told.nil 10 (Below.refl _ _)
set_option maxRecDepth 100000 in
theorem c8h {x : Int × List Int} (A : Option Addr) (c : Nat) (b : List Int) (w : World) (h : ∀ (W : World) (p q : Nat),Below w.heap.size w W -> W.cell? ⟨p,0,none⟩ = some (.int .i64 0) -> W.cell? ⟨q,0,none⟩ = some (.int .i64 1) -> Calls Tryz.prog 176 #[.slice A b.length c,.pointer (some ⟨p,0,none⟩)] W (Told x.1 x.2 W)) :
    Calls Tryz.prog 126 #[.int .i64 0,.slice A b.length c] w (Told x.1 x.2 w):=by
 have H:=Lib.hid h
 clear h
 go_enter Tryz.func126,Tryz.ntmps126
 go_wp2_with fail
 refine (a2K 0 w).mono ?_
 rintro e w' ⟨rfl,rfl⟩
 go_wp2_with fail
 refine (a2r w).mono ?_
 rintro e w1 ⟨p,q,rfl,hp,hq,hb⟩
 have H1:=Lib.hid (H.out w1 p q hb hp hq)
 have HB:=Lib.hid hb
 have hix:=λ W=>b0J p q W
 have hkf:=a7X
 obtain ⟨V,hV⟩ : ∃ V,V = a1n p q:=⟨_,rfl⟩
 rw [<- hV] at hix ⊢
 clear hb hp hq hV
 go_wp2_with fail
 refine H1.out.mono ?_
 rintro e w2 ⟨A1,c1,rfl,hv,hb⟩
 have H2:=Lib.hid (And.intro hv hb)
 clear hv hb hix hkf
 go_wp2_with fail
 go_ret2
 exact ⟨A1,c1,rfl,Kd.R_lower H2.out.1 HB.out.size,a0h HB.out H2.out.2⟩
set_option maxRecDepth 100000 in
theorem c8i {x : Int × List Int} (A : Option Addr) (c : Nat) (b : List Int) (w : World) (h : ∀ (W : World) (p q : Nat),Below w.heap.size w W -> W.cell? ⟨p,0,none⟩ = some (.int .i64 0) -> W.cell? ⟨q,0,none⟩ = some (.int .i64 1) -> Calls Tryz.prog 176 #[.slice A b.length c,.pointer (some ⟨q,0,none⟩)] W (Told x.1 x.2 W)) :
    Calls Tryz.prog 126 #[.int .i64 1,.slice A b.length c] w (Told x.1 x.2 w):=by
 have H:=Lib.hid h
 clear h
 go_enter Tryz.func126,Tryz.ntmps126
 go_wp2_with fail
 refine (a2K 1 w).mono ?_
 rintro e w' ⟨rfl,rfl⟩
 go_wp2_with fail
 refine (a2r w).mono ?_
 rintro e w1 ⟨p,q,rfl,hp,hq,hb⟩
 have H1:=Lib.hid (H.out w1 p q hb hp hq)
 have HB:=Lib.hid hb
 have hix:=λ W=>b0K p q W
 have hkf:=a7X
 obtain ⟨V,hV⟩ : ∃ V,V = a1n p q:=⟨_,rfl⟩
 rw [<- hV] at hix ⊢
 clear hb hp hq hV
 go_wp2_with fail
 refine H1.out.mono ?_
 rintro e w2 ⟨A1,c1,rfl,hv,hb⟩
 have H2:=Lib.hid (And.intro hv hb)
 clear hv hb hix hkf
 go_wp2_with fail
 go_ret2
 exact ⟨A1,c1,rfl,Kd.R_lower H2.out.1 HB.out.size,a0h HB.out H2.out.2⟩
set_option maxRecDepth 100000 in
theorem b7b {x : Int × List Int} (A : Option Addr) (c : Nat) (b : List Int) (w : World) (h : ∀ (W : World) (p q : Nat),Below w.heap.size w W -> W.cell? ⟨p,0,none⟩ = some (.int .i64 0) -> W.cell? ⟨q,0,none⟩ = some (.int .i64 1) -> Calls Tryz.prog 130 #[.slice A b.length c] W (Told x.1 x.2 W)) :
    Calls Tryz.prog 126 #[.int .i64 2,.slice A b.length c] w (Told x.1 x.2 w):=by
 have H:=Lib.hid h
 clear h
 go_enter Tryz.func126,Tryz.ntmps126
 go_wp2_with fail
 refine (a2K 2 w).mono ?_
 rintro e w' ⟨rfl,rfl⟩
 go_wp2_with fail
 refine (a2r w).mono ?_
 rintro e w1 ⟨p,q,rfl,hp,hq,hb⟩
 have H1:=Lib.hid (H.out w1 p q hb hp hq)
 have HB:=Lib.hid hb
 have hix:=λ W=>b0L p q W
 have hkf:=a7X
 obtain ⟨V,hV⟩ : ∃ V,V = a1n p q:=⟨_,rfl⟩
 rw [<- hV] at hix ⊢
 clear hb hp hq hV
 go_wp2_with fail
 refine H1.out.mono ?_
 rintro e w2 ⟨A1,c1,rfl,hv,hb⟩
 have H2:=Lib.hid (And.intro hv hb)
 clear hv hb hix hkf
 go_wp2_with fail
 go_ret2
 exact ⟨A1,c1,rfl,Kd.R_lower H2.out.1 HB.out.size,a0h HB.out H2.out.2⟩
set_option maxRecDepth 100000 in
theorem b7c {x : Int × List Int} (A : Option Addr) (c : Nat) (b : List Int) (w : World) (h : ∀ (W : World) (p q : Nat),Below w.heap.size w W -> W.cell? ⟨p,0,none⟩ = some (.int .i64 0) -> W.cell? ⟨q,0,none⟩ = some (.int .i64 1) -> Calls Tryz.prog 63 #[.slice A b.length c] W (Told x.1 x.2 W)) :
    Calls Tryz.prog 126 #[.int .i64 3,.slice A b.length c] w (Told x.1 x.2 w):=by
 have H:=Lib.hid h
 clear h
 go_enter Tryz.func126,Tryz.ntmps126
 go_wp2_with fail
 refine (a2K 3 w).mono ?_
 rintro e w' ⟨rfl,rfl⟩
 go_wp2_with fail
 refine (a2r w).mono ?_
 rintro e w1 ⟨p,q,rfl,hp,hq,hb⟩
 have H1:=Lib.hid (H.out w1 p q hb hp hq)
 have HB:=Lib.hid hb
 have hix:=λ W=>b0M p q W
 have hkf:=a7X
 obtain ⟨V,hV⟩ : ∃ V,V = a1n p q:=⟨_,rfl⟩
 rw [<- hV] at hix ⊢
 clear hb hp hq hV
 go_wp2_with fail
 refine H1.out.mono ?_
 rintro e w2 ⟨A1,c1,rfl,hv,hb⟩
 have H2:=Lib.hid (And.intro hv hb)
 clear hv hb hix hkf
 go_wp2_with fail
 go_ret2
 exact ⟨A1,c1,rfl,Kd.R_lower H2.out.1 HB.out.size,a0h HB.out H2.out.2⟩
theorem c8j (A : Option Addr) (c : Nat) (k : Int) (b : List Int) (w : World) (hr : (Kd.int .u8).C w A b.length b) (hb : Bytes b) (hl : b.length <= 40000) :
    Calls Tryz.prog 126 #[.int .i64 k,.slice A b.length c] w (Told (pickE k b).1 (pickE k b).2 w):=by
 by_cases h : 0 <= k /\ k < 4
 · by_cases k0 : k = 0
   · subst k0
     exact c8h A c b w (λ W p q hB hp _=>b6X A c p 0 b W hp (by rw [a5q (by decide) (by decide),b0G hl]; exact c7Z A c b W (Kd.C_below hr hB) hl))
   by_cases k1 : k = 1
   · subst k1
     exact c8i A c b w (λ W p q hB _ hq=>b6X A c q 1 b W hq (by rw [a5q (by decide) (by decide)]; exact c8a A c b W (Kd.C_below hr hB) hl))
   rcases Nat.eq_zero_or_pos b.length with h0 | h0
   · rw [c8f (by omega) (by omega) h0]
     by_cases k2 : k = 2
     · subst k2
       exact b7b (x:=(1,[])) A c b w (λ W p q hB _ _=>(b6d A c b W (Kd.C_below hr hB) hb hl).mono λ e w' h=>by
        rcases h with ⟨_,rfl,hbl⟩ | ⟨h,_⟩
        · exact Told.nil 1 hbl
        · omega)
     · obtain rfl : k = 3:=by omega
       exact b7c (x:=(1,[])) A c b w (λ W p q hB _ _=>by
        rw [h0]
        exact (c7R A c W).mono λ e w' ⟨he,hbl⟩=>by subst he; exact Told.nil 1 hbl)
   · by_cases k2 : k = 2
     · subst k2
       rw [b6Z h0]
       exact b7b (x:=(0,a1q b)) A c b w (λ W p q hB _ _=>c6v A c b W (Kd.C_below hr hB) hb hl h0)
     · obtain rfl : k = 3:=by omega
       rw [b7a h0]
       exact b7c (x:=(0,a1m b)) A c b w (λ W p q hB _ _=>b6U A c b W (Kd.C_below hr hB) hb hl h0)
 · rw [b6Y h]; exact c8g A c k b w h
set_option maxRecDepth 100000 in
theorem c8k (n m : Int) (w : World) : Calls Tryz.prog 128 #[.int .i64 n,.int .i64 m] w λ e w'=>e = .returned (.bool (mayB 0 n m)) /\ w = w':=by
 go_enter Tryz.func128,Tryz.ntmps128
 go_wp2_with fail
 go_ret
 exact ⟨rfl,rfl⟩
set_option maxRecDepth 100000 in
theorem c8l (n m : Int) (w : World) : Calls Tryz.prog 129 #[.int .i64 n,.int .i64 m] w λ e w'=>e = .returned (.bool (mayB 1 n m)) /\ w = w':=by
 by_cases h : 1 < n
 · have d:=decide_eq_true h
   have e : mayB 1 n m = decide (m = 1):=by unfold mayB; rw [if_neg (by decide),if_pos rfl]; simp [h]
   rw [e]
   go_enter Tryz.func129,Tryz.ntmps129
   go_wp2_with fail
   go_ret
   exact ⟨rfl,rfl⟩
 · have d:=decide_eq_false h
   have e : mayB 1 n m = false:=by unfold mayB; rw [if_neg (by decide),if_pos rfl]; simp [h]
   rw [e]
   clear h e
   go_enter Tryz.func129,Tryz.ntmps129
   go_wp2_with fail
   go_ret
   exact ⟨by simp,rfl⟩
set_option maxRecDepth 100000 in
theorem b7d (k n m : Int) (hk : 2 <= k) (w : World) : Calls Tryz.prog 132 #[.int .i64 n,.int .i64 m] w λ e w'=>e = .returned (.bool (mayB k n m)) /\ w = w':=by
 by_cases h : 1 <= m
 · have d:=decide_eq_true h
   have e : mayB k n m = decide (m < n):=by unfold mayB; rw [if_neg (by omega),if_neg (by omega)]; simp [h]
   rw [e]
   go_enter Tryz.func132,Tryz.ntmps132
   go_wp2_with fail
   go_ret
   exact ⟨by first | rfl | simp,rfl⟩
 · have d:=decide_eq_false h
   have e : mayB k n m = false:=by unfold mayB; rw [if_neg (by omega),if_neg (by omega)]; simp [h]
   rw [e]
   clear h e
   go_enter Tryz.func132,Tryz.ntmps132
   go_wp2_with fail
   go_ret
   exact ⟨by simp,rfl⟩
def a1v (k n m : Int) (w : World) (e : Ending) (w' : World) : Prop:=e = .returned (.int .i64 (a0B k n m)) /\ Below w.heap.size w w'
theorem c8m {k n m : Int} (h : ¬ (0 <= k /\ k < 4)) : a0B k n m = 10:=by unfold a0B; rw [if_pos (by omega)]
theorem c8n {k n m : Int} (h : 0 <= k /\ k < 4) (hn : n < 0 \/ 131072 < n) : a0B k n m = 11:=by unfold a0B; rw [if_neg (by omega),if_pos (by omega)]
theorem a8a {k n m : Int} (h : 0 <= k /\ k < 4) (hn : 0 <= n /\ n <= 131072) (hm : mayB k n m = true) : a0B k n m = 0:=by unfold a0B; rw [if_neg (by omega),if_neg (by rw [hm]; simp; omega)]
theorem a8b {k n m : Int} (h : 0 <= k /\ k < 4) (hm : mayB k n m = false) : a0B k n m = 11:=by unfold a0B; rw [if_neg (by omega),if_pos (.inr (.inr hm))]
set_option maxRecDepth 100000 in
theorem c8o (k n m : Int) (w : World) (h : ¬ (0 <= k /\ k < 4)) : Calls Tryz.prog 30 #[.int .i64 k,.int .i64 n,.int .i64 m] w (a1v k n m w):=by
 unfold a1v
 rw [c8m h]
 have hd:=decide_eq_false h
 have HI:=Lib.hid (a2K k w)
 rw [hd] at HI
 clear hd h
 go_enter Tryz.func30,Tryz.ntmps30
 go_wp2_with fail
 refine HI.out.mono ?_
 rintro e w' ⟨rfl,rfl⟩
 go_wp2_with fail
 go_ret
 exact ⟨rfl,Below.refl _ _⟩
set_option maxRecDepth 100000 in
theorem c8p (k n m : Int) (w : World) (h : 0 <= k /\ k < 4) (hn : n < 0 \/ 131072 < n) : Calls Tryz.prog 30 #[.int .i64 k,.int .i64 n,.int .i64 m] w (a1v k n m w):=by
 unfold a1v
 rw [c8n h hn]
 have hd:=decide_eq_true h
 have HI:=Lib.hid (a2K k w)
 rw [hd] at HI
 have hn2 : decide (n < 0) = true \/ (decide (n < 0) = false /\ decide (131072 < n) = true):=by
  by_cases h5 : n < 0
  · exact .inl (decide_eq_true h5)
  · exact .inr ⟨decide_eq_false h5,decide_eq_true (by omega)⟩
 clear hd h hn
 rcases hn2 with h1 | ⟨h1,h2⟩
 all_goals
  go_enter Tryz.func30,Tryz.ntmps30
  go_wp2_with fail
  refine HI.out.mono ?_
  rintro e w' ⟨rfl,rfl⟩
  go_wp2_with fail
  go_ret
  exact ⟨rfl,Below.refl _ _⟩
set_option maxRecDepth 100000 in
theorem c8q (n m : Int) (w : World) (hn : 0 <= n /\ n <= 131072) : Calls Tryz.prog 30 #[.int .i64 0,.int .i64 n,.int .i64 m] w (a1v 0 n m w):=by
 unfold a1v
 have h1 : decide (n < 0) = false:=decide_eq_false (by omega)
 have h2 : decide (131072 < n) = false:=decide_eq_false (by omega)
 obtain ⟨z,hz⟩ : ∃ z,z = mayB 0 n m:=⟨_,rfl⟩
 have HM:=Lib.hid (λ W=>c8k n m W)
 have hE : a0B 0 n m = if z = true then 0 else 11:=by
  cases z with
  | true=>rw [a8a (by decide) hn hz.symm]; rfl
  | false=>rw [a8b (by decide) hz.symm]; rfl
 rw [<- hz] at HM
 rw [hE]
 clear hz hE hn
 go_enter Tryz.func30,Tryz.ntmps30
 go_wp2_with fail
 refine (a2K 0 w).mono ?_
 rintro e w' ⟨rfl,rfl⟩
 go_wp2_with fail
 refine (a2r w).mono ?_
 rintro e w1 ⟨p,q,rfl,-,-,hb⟩
 have HB:=Lib.hid hb
 have hix:=λ W=>b0J p q W
 have hkf:=a7Z
 obtain ⟨V,hV⟩ : ∃ V,V = a1n p q:=⟨_,rfl⟩
 rw [<- hV] at hix ⊢
 clear hb hV
 go_wp2_with fail
 refine (HM.out w1).mono ?_
 rintro e w2 ⟨rfl,rfl⟩
 clear hix hkf
 cases z with
 | true=>
  go_wp2_with fail
  go_ret
  exact ⟨rfl,HB.out⟩
 | false=>
  go_wp2_with fail
  go_ret
  exact ⟨rfl,HB.out⟩
set_option maxRecDepth 100000 in
theorem c8r (n m : Int) (w : World) (hn : 0 <= n /\ n <= 131072) : Calls Tryz.prog 30 #[.int .i64 1,.int .i64 n,.int .i64 m] w (a1v 1 n m w):=by
 unfold a1v
 have h1 : decide (n < 0) = false:=decide_eq_false (by omega)
 have h2 : decide (131072 < n) = false:=decide_eq_false (by omega)
 obtain ⟨z,hz⟩ : ∃ z,z = mayB 1 n m:=⟨_,rfl⟩
 have HM:=Lib.hid (λ W=>c8l n m W)
 have hE : a0B 1 n m = if z = true then 0 else 11:=by
  cases z with
  | true=>rw [a8a (by decide) hn hz.symm]; rfl
  | false=>rw [a8b (by decide) hz.symm]; rfl
 rw [<- hz] at HM
 rw [hE]
 clear hz hE hn
 go_enter Tryz.func30,Tryz.ntmps30
 go_wp2_with fail
 refine (a2K 1 w).mono ?_
 rintro e w' ⟨rfl,rfl⟩
 go_wp2_with fail
 refine (a2r w).mono ?_
 rintro e w1 ⟨p,q,rfl,-,-,hb⟩
 have HB:=Lib.hid hb
 have hix:=λ W=>b0K p q W
 have hkf:=a7Z
 obtain ⟨V,hV⟩ : ∃ V,V = a1n p q:=⟨_,rfl⟩
 rw [<- hV] at hix ⊢
 clear hb hV
 go_wp2_with fail
 refine (HM.out w1).mono ?_
 rintro e w2 ⟨rfl,rfl⟩
 clear hix hkf
 cases z with
 | true=>
  go_wp2_with fail
  go_ret
  exact ⟨rfl,HB.out⟩
 | false=>
  go_wp2_with fail
  go_ret
  exact ⟨rfl,HB.out⟩
set_option maxRecDepth 100000 in
theorem c8s (n m : Int) (w : World) (hn : 0 <= n /\ n <= 131072) : Calls Tryz.prog 30 #[.int .i64 2,.int .i64 n,.int .i64 m] w (a1v 2 n m w):=by
 unfold a1v
 have h1 : decide (n < 0) = false:=decide_eq_false (by omega)
 have h2 : decide (131072 < n) = false:=decide_eq_false (by omega)
 obtain ⟨z,hz⟩ : ∃ z,z = mayB 2 n m:=⟨_,rfl⟩
 have HM:=Lib.hid (λ W=>b7d 2 n m (by decide) W)
 have hE : a0B 2 n m = if z = true then 0 else 11:=by
  cases z with
  | true=>rw [a8a (by decide) hn hz.symm]; rfl
  | false=>rw [a8b (by decide) hz.symm]; rfl
 rw [<- hz] at HM
 rw [hE]
 clear hz hE hn
 go_enter Tryz.func30,Tryz.ntmps30
 go_wp2_with fail
 refine (a2K 2 w).mono ?_
 rintro e w' ⟨rfl,rfl⟩
 go_wp2_with fail
 refine (a2r w).mono ?_
 rintro e w1 ⟨p,q,rfl,-,-,hb⟩
 have HB:=Lib.hid hb
 have hix:=λ W=>b0L p q W
 have hkf:=a7Z
 obtain ⟨V,hV⟩ : ∃ V,V = a1n p q:=⟨_,rfl⟩
 rw [<- hV] at hix ⊢
 clear hb hV
 go_wp2_with fail
 refine (HM.out w1).mono ?_
 rintro e w2 ⟨rfl,rfl⟩
 clear hix hkf
 cases z with
 | true=>
  go_wp2_with fail
  go_ret
  exact ⟨rfl,HB.out⟩
 | false=>
  go_wp2_with fail
  go_ret
  exact ⟨rfl,HB.out⟩
set_option maxRecDepth 100000 in
theorem c8t (n m : Int) (w : World) (hn : 0 <= n /\ n <= 131072) : Calls Tryz.prog 30 #[.int .i64 3,.int .i64 n,.int .i64 m] w (a1v 3 n m w):=by
 unfold a1v
 have h1 : decide (n < 0) = false:=decide_eq_false (by omega)
 have h2 : decide (131072 < n) = false:=decide_eq_false (by omega)
 obtain ⟨z,hz⟩ : ∃ z,z = mayB 3 n m:=⟨_,rfl⟩
 have HM:=Lib.hid (λ W=>b7d 3 n m (by decide) W)
 have hE : a0B 3 n m = if z = true then 0 else 11:=by
  cases z with
  | true=>rw [a8a (by decide) hn hz.symm]; rfl
  | false=>rw [a8b (by decide) hz.symm]; rfl
 rw [<- hz] at HM
 rw [hE]
 clear hz hE hn
 go_enter Tryz.func30,Tryz.ntmps30
 go_wp2_with fail
 refine (a2K 3 w).mono ?_
 rintro e w' ⟨rfl,rfl⟩
 go_wp2_with fail
 refine (a2r w).mono ?_
 rintro e w1 ⟨p,q,rfl,-,-,hb⟩
 have HB:=Lib.hid hb
 have hix:=λ W=>b0M p q W
 have hkf:=a7Z
 obtain ⟨V,hV⟩ : ∃ V,V = a1n p q:=⟨_,rfl⟩
 rw [<- hV] at hix ⊢
 clear hb hV
 go_wp2_with fail
 refine (HM.out w1).mono ?_
 rintro e w2 ⟨rfl,rfl⟩
 clear hix hkf
 cases z with
 | true=>
  go_wp2_with fail
  go_ret
  exact ⟨rfl,HB.out⟩
 | false=>
  go_wp2_with fail
  go_ret
  exact ⟨rfl,HB.out⟩
theorem a5r (k n m : Int) (w : World) : Calls Tryz.prog 30 #[.int .i64 k,.int .i64 n,.int .i64 m] w (a1v k n m w):=by
 by_cases h : 0 <= k /\ k < 4
 · by_cases hn : 0 <= n /\ n <= 131072
   · by_cases k0 : k = 0
     · subst k0; exact c8q n m w hn
     by_cases k1 : k = 1
     · subst k1; exact c8r n m w hn
     by_cases k2 : k = 2
     · subst k2; exact c8s n m w hn
     · obtain rfl : k = 3:=by omega
       exact c8t n m w hn
   · exact c8p k n m w h (by omega)
 · exact c8o k n m w h
end Go.Proofs.YtflfjpkmjnnodaaGreat
namespace Go.Proofs.YtflfjpkmjnnodaaGreat
open Go.RowKit Go.IntWalk Go.Proofs.YtflfjpkmjnnodaaGreatW.PrintWords Go.Proofs.YtflfjpkmjnnodaaGreatW.PrintMore
attribute [local go_sem] a2a
theorem c8u : (Tryz.prog.info? 114).map (·.size) = some 5:=by kernel_rfl
def headC (h : HeadT) : Array Value:=#[.int .i64 (h.1 : Nat),.int .i64 (h.2.1 : Nat),.int .i64 (h.2.2.1 : Nat),.bool h.2.2.2.1,.int .u32 (h.2.2.2.2 : Nat)]
theorem cell5 {w : World} {mb : Nat} {a b c d f : Value} {t : Nat} (h : w.heap[mb]? = some (.cells #[a,b,c,d,f] t (0,0))) : (w.cell? ⟨mb,0,none⟩ = some a /\ w.cell? ⟨mb,1,none⟩ = some b /\ w.cell? ⟨mb,2,none⟩ = some c /\ w.cell? ⟨mb,3,none⟩ = some d /\ w.cell? ⟨mb,4,none⟩ = some f) /\ (w.frozen? ⟨mb,0,none⟩ = false /\ w.frozen? ⟨mb,1,none⟩ = false /\ w.frozen? ⟨mb,2,none⟩ = false /\ w.frozen? ⟨mb,3,none⟩ = false /\ w.frozen? ⟨mb,4,none⟩ = false):=
 ⟨⟨(a0a h 0).trans rfl,(a0a h 1).trans rfl,(a0a h 2).trans rfl,(a0a h 3).trans rfl,(a0a h 4).trans rfl⟩,a0e h 0,a0e h 1,a0e h 2,a0e h 3,a0e h 4⟩
theorem a3a {w : World} {g : Nat} {a b c d f : Value} (hg : w.heap[g]? = some (.cells #[a,b,c,d,f] 114 (0,0))) : (loadVar 114 ⟨g,0,none⟩).run Tryz.prog w = .ok (.agg #[a,b,c,d,f]) w:=
 run_loadVar_row w g _ _ _ _ _ hg Tryz.underlying114 rfl c8u
theorem a3t {w : World} {mb : Nat} {t : Nat} {a b c d f : Value} (h : w.heap[mb]? = some (.cells #[a,b,c,d,f] t (0,0))) (x y z u v : Value) : (((((w.setCell ⟨mb,0,none⟩ x).setCell ⟨mb,1,none⟩ y).setCell ⟨mb,2,none⟩ z).setCell ⟨mb,3,none⟩ u).setCell ⟨mb,4,none⟩ v).heap[mb]? = some (.cells #[x,y,z,u,v] t (0,0)):=by
 rw [a0n (a0n (a0n (a0n (a0n h 0 _) 1 _) 2 _) 3 _) 4]; rfl
theorem b0N {B g : Nat} {w W : World} (hb : Below B w W) (hg : B <= g) (x y z u v : Value) : Below B w (((((W.setCell ⟨g,0,none⟩ x).setCell ⟨g,1,none⟩ y).setCell ⟨g,2,none⟩ z).setCell ⟨g,3,none⟩ u).setCell ⟨g,4,none⟩ v):=
 ((((hb.setCell (p:=⟨g,0,none⟩) hg x).setCell (p:=⟨g,1,none⟩) hg y).setCell (p:=⟨g,2,none⟩) hg z).setCell (p:=⟨g,3,none⟩) hg u).setCell (p:=⟨g,4,none⟩) hg v
theorem a3u : headC headZ = #[.int .i64 0,.int .i64 0,.int .i64 0,.bool false,.int .u32 0]:=rfl
set_option maxRecDepth 100000 in
set_option maxHeartbeats 2000000 in
theorem c8v (kind n len sum log : Nat) (last first : Bool) (w : World) (hlog : 10 <= log /\ log <= 17) :
    Calls Tryz.prog 138 #[.agg #[.int .i64 kind,.int .i64 n,.int .i64 len,.bool last,.int .u32 sum],.int .i64 log,.bool first] w (λ e w'=>e = .returned (.bool (a1y log first kind n last)) /\ Below w.heap.size w w'):=by
 obtain ⟨s,hs⟩ : ∃ s : Nat,s = 2 ^ log:=⟨_,rfl⟩
 have hsI : (2 : Int) ^ log = (s : Int):=by rw [hs]; simp
 have hs2 : s <= 131072:=by rw [hs]; exact Nat.le_trans (Nat.pow_le_pow_right (by decide : 2 > 0) hlog.2) (by decide)
 have hE : a1y log first kind n last = (if last = false then decide (n = s) else if n = 0 then first && decide (kind = 0) else decide (n <= s)):=by unfold a1y; rw [Int.toNat_natCast,hs]
 rw [hE]
 have HB : Hid (Below w.heap.size w (w.alloc (.cells #[.int .i64 kind,.int .i64 n,.int .i64 len,.bool last,.int .u32 sum] 114))):=Lib.hid ((Below.refl _ _).alloc (Nat.le_refl _) _)
 clear hs hE
 cases last with
 | false=>
  rw [if_pos rfl]
  go_enter Tryz.func138,Tryz.ntmps138
  go_wp2_with fail
  go_quiet (fail)
  all_goals
   go_wp2_with fail
   go_ret
   refine ⟨a0X ?_,a0b HB.out _⟩
   rw [Bool.eq_iff_iff]; first | (simp; done) | (simp; omega)
 | true=>
  rw [if_neg (by decide)]
  by_cases h0 : n = 0
  · subst h0
    rw [if_pos rfl]
    cases first with
    | true=>
     go_enter Tryz.func138,Tryz.ntmps138
     go_wp2_with fail
     go_ret
     refine ⟨a0X ?_,HB.out⟩
     rw [Bool.eq_iff_iff]; first | (simp; done) | (simp; omega)
    | false=>
     go_enter Tryz.func138,Tryz.ntmps138
     go_wp2_with fail
     go_ret
     exact ⟨a0X (by simp),HB.out⟩
  · rw [if_neg h0]
    have hn0 : ((n : Int) == 0) = false:=by simp; omega
    clear h0
    go_enter Tryz.func138,Tryz.ntmps138
    go_wp2_with fail
    go_quiet (fail)
    all_goals
     go_wp2_with fail
     go_ret
     refine ⟨a0X ?_,a0b HB.out _⟩
     first | rfl | (rw [Bool.eq_iff_iff]; simp; done)
def b0O (r : Int × HeadT) (w : World) (e : Ending) (w' : World) : Prop:=e = .returned (.tuple #[.agg (headC r.2),.int .i64 r.1]) /\ Below w.heap.size w w'
structure ScanAt (W0 : World) (p h r8 : Nat) (fs : List Int) (sh : Bool) (a b c : Nat) (d : Bool) (W : World) : Prop where
 rd : RdB W0 p fs sh W
 kh : W.heap[h]? = some (.cells #[.int .i64 a,.int .i64 b,.int .i64 c,.bool d,.int .u32 0] 114 (0,0))
 kr : W.heap[r8]? = some (.cells #[.int .i64 0,.int .i64 0,.int .i64 0,.bool false,.int .u32 0] 114 (0,0))
 on : Below r8 W0 W
theorem ScanAt.num {W0 : World} {p h r8 k : Nat} {fs : List Int} {sh : Bool} {a b c : Nat} {d : Bool} {W W' : World} {e : Ending} (hs : ScanAt W0 p h r8 fs sh a b c d W) (hlt : r8 < p /\ p < h) (hn : b6Q W0 p k fs sh W e W') : e = .returned (.int .i64 (rdN fs (min k fs.length) : Nat)) /\ ScanAt W0 p h r8 (fs.drop k) (sh || decide (fs.length < k)) a b c d W':=by
 obtain ⟨rfl,h2,h3⟩:=hn
 refine ⟨rfl,h2,(h3.block h (a0f hs.kh) (by omega)).trans hs.kh,(h3.block r8 (a0f hs.kr) (by omega)).trans hs.kr,hs.on.trans (h3.below (Nat.le_of_lt (a0f hs.kr)) (λ k hk=>?_))⟩
 have : k = p:=hk
 omega
theorem ScanAt.below {W0 : World} {p h r8 : Nat} {fs : List Int} {sh : Bool} {a b c : Nat} {d : Bool} {W W' : World} (hs : ScanAt W0 p h r8 fs sh a b c d W) (hb : Below W.heap.size W W') : ScanAt W0 p h r8 fs sh a b c d W':=
 ⟨hs.rd.later (Only.of_below hb),a0g hs.kh hb,a0g hs.kr hb,hs.on.trans (hb.mono (Nat.le_of_lt (a0f hs.kr)))⟩
theorem RdB.set {W0 : World} {p h : Nat} {fs : List Int} {sh : Bool} {W : World} (hr : RdB W0 p fs sh W) (hlt : p < h) (k : Nat) (v : Value) : RdB W0 p fs sh (W.setCell ⟨h,k,none⟩ v):=
 hr.later ((Only.refl _ _).setCell (p:=⟨h,k,none⟩) ⟨by show h ≠ p; omega,by show _ <= h; have:=hr.lo; omega⟩ v)
theorem ScanAt.set0 {W0 : World} {p h r8 : Nat} {fs : List Int} {sh : Bool} {a b c : Nat} {d : Bool} {W : World} (hs : ScanAt W0 p h r8 fs sh a b c d W) (hlt : r8 < p /\ p < h) (a' : Nat) : ScanAt W0 p h r8 fs sh a' b c d (W.setCell ⟨h,0,none⟩ (.int .i64 a')):=
 ⟨hs.rd.set hlt.2 0 _,a0n hs.kh 0 _,a1o hs.kr (p:=⟨h,0,none⟩) (by show r8 ≠ h; omega) _,hs.on.setCell (by show r8 <= h; omega) _⟩
theorem ScanAt.set1 {W0 : World} {p h r8 : Nat} {fs : List Int} {sh : Bool} {a b c : Nat} {d : Bool} {W : World} (hs : ScanAt W0 p h r8 fs sh a b c d W) (hlt : r8 < p /\ p < h) (b' : Nat) : ScanAt W0 p h r8 fs sh a b' c d (W.setCell ⟨h,1,none⟩ (.int .i64 b')):=
 ⟨hs.rd.set hlt.2 1 _,a0n hs.kh 1 _,a1o hs.kr (p:=⟨h,1,none⟩) (by show r8 ≠ h; omega) _,hs.on.setCell (by show r8 <= h; omega) _⟩
theorem ScanAt.set2 {W0 : World} {p h r8 : Nat} {fs : List Int} {sh : Bool} {a b c : Nat} {d : Bool} {W : World} (hs : ScanAt W0 p h r8 fs sh a b c d W) (hlt : r8 < p /\ p < h) (c' : Nat) : ScanAt W0 p h r8 fs sh a b c' d (W.setCell ⟨h,2,none⟩ (.int .i64 c')):=
 ⟨hs.rd.set hlt.2 2 _,a0n hs.kh 2 _,a1o hs.kr (p:=⟨h,2,none⟩) (by show r8 ≠ h; omega) _,hs.on.setCell (by show r8 <= h; omega) _⟩
theorem ScanAt.set3 {W0 : World} {p h r8 : Nat} {fs : List Int} {sh : Bool} {a b c : Nat} {d : Bool} {W : World} (hs : ScanAt W0 p h r8 fs sh a b c d W) (hlt : r8 < p /\ p < h) (d' : Bool) : ScanAt W0 p h r8 fs sh a b c d' (W.setCell ⟨h,3,none⟩ (.bool d')):=
 ⟨hs.rd.set hlt.2 3 _,a0n hs.kh 3 _,a1o hs.kr (p:=⟨h,3,none⟩) (by show r8 ≠ h; omega) _,hs.on.setCell (by show r8 <= h; omega) _⟩
theorem ScanAt.cells {W0 : World} {p h r8 : Nat} {fs : List Int} {sh : Bool} {a b c : Nat} {d : Bool} {W : World} (hs : ScanAt W0 p h r8 fs sh a b c d W) : W.cell? ⟨p,1,none⟩ = some (.bool sh) /\ (W.cell? ⟨h,0,none⟩ = some (.int .i64 a) /\ W.cell? ⟨h,1,none⟩ = some (.int .i64 b) /\ W.cell? ⟨h,2,none⟩ = some (.int .i64 c) /\ W.cell? ⟨h,3,none⟩ = some (.bool d) /\ W.cell? ⟨h,4,none⟩ = some (.int .u32 0)) /\ (W.frozen? ⟨h,0,none⟩ = false /\ W.frozen? ⟨h,1,none⟩ = false /\ W.frozen? ⟨h,2,none⟩ = false /\ W.frozen? ⟨h,3,none⟩ = false /\ W.frozen? ⟨h,4,none⟩ = false) /\ (W.cell? ⟨r8,0,none⟩ = some (.int .i64 0) /\ W.cell? ⟨r8,1,none⟩ = some (.int .i64 0) /\ W.cell? ⟨r8,2,none⟩ = some (.int .i64 0) /\ W.cell? ⟨r8,3,none⟩ = some (.bool false) /\ W.cell? ⟨r8,4,none⟩ = some (.int .u32 0)) /\ (W.frozen? ⟨r8,0,none⟩ = false /\ W.frozen? ⟨r8,1,none⟩ = false /\ W.frozen? ⟨r8,2,none⟩ = false /\ W.frozen? ⟨r8,3,none⟩ = false /\ W.frozen? ⟨r8,4,none⟩ = false):=by
 obtain ⟨A,n,h1,_,_⟩:=hs.rd.ex
 exact ⟨(cell2 h1).1.2,(cell5 hs.kh).1,(cell5 hs.kh).2,(cell5 hs.kr).1,(cell5 hs.kr).2⟩
theorem a4w {W0 w : World} {p h r8 : Nat} {fs : List Int} {sh : Bool} {a b c : Nat} {d : Bool} {W : World} (hs : ScanAt W0 p h r8 fs sh a b c d W) (hb : Below r8 w W0) : Below r8 w (((((W.setCell ⟨r8,0,none⟩ (.int .i64 0)).setCell ⟨r8,1,none⟩ (.int .i64 0)).setCell ⟨r8,2,none⟩ (.int .i64 0)).setCell ⟨r8,3,none⟩ (.bool false)).setCell ⟨r8,4,none⟩ (.int .u32 0)):=
 b0N (hb.trans hs.on) (Nat.le_refl _) _ _ _ _ _
theorem b0P {f : List Int} {i k : Nat} (h : i + k <= 11) : rdN ((f.take 11).drop i) k = rdN (f.drop i) k:=by
 rw [List.drop_take]; exact b0y k (by omega)
theorem b7e (a b : Nat) (ha : a < 4294967296) (hb : b < 4294967296) : bits .and .i64 (a : Int) (b : Int) = ((a &&& b : Nat) : Int):=by
 have hx : a &&& b < 2 ^ 32:=Nat.and_lt_two_pow _ (by omega)
 show IntKind.i64.wrap ((BitVec.ofInt 64 (a : Int) &&& BitVec.ofInt 64 (b : Int)).toNat : Int) = _
 rw [BitVec.toNat_and,a7U a (by omega),a7U b (by omega),IntKind.wrap_i64]
 omega
theorem and_3 (a : Nat) (ha : a < 4294967296) : bits .and .i64 (a : Int) 3 = ((a % 4 : Nat) : Int):=by
 have:=b7e a 3 ha (by decide)
 rw [nat_mask2] at this; exact this
theorem and_4 (a : Nat) (ha : a < 4294967296) : bits .and .i64 (a : Int) 4 = ((a / 4 % 2 * 4 : Nat) : Int):=by
 have:=b7e a 4 ha (by decide)
 rw [show a &&& 4 = a / 4 % 2 * 4 from nat_bit 2 a] at this; exact this
set_option maxRecDepth 100000 in
set_option maxHeartbeats 4000000 in
theorem b7f (A : Option Addr) (c : Nat) (f : List Int) (log : Int) (first : Bool) (room : Int) (w : World) (hr : (Kd.int .u8).C w A f.length f) (hf : Bytes f) (hl : f.length <= 1000000) (hc : f.length <= c) :
    Calls Tryz.prog 91 #[.slice A f.length c,.int .i64 log,.bool first,.int .i64 room] w (b0O (scanM f log first room) w):=by
 obtain ⟨W0,hW0⟩ : ∃ W,W = w.alloc (.cells #[.int .i64 0,.int .i64 0,.int .i64 0,.bool false,.int .u32 0] 114):=⟨_,rfl⟩
 have hk0 : W0.heap[w.heap.size]? = some (.cells #[.int .i64 0,.int .i64 0,.int .i64 0,.bool false,.int .u32 0] 114 (0,0)):=by rw [hW0]; exact a0k _ _
 have hb0 : Below w.heap.size w W0:=by rw [hW0]; exact (Below.refl _ _).alloc (Nat.le_refl _) _
 have hs0 : W0.heap.size = w.heap.size + 1:=by rw [hW0]; simp
 have HK0:=Lib.hid (And.intro hk0 hb0)
 by_cases hg : log < 10 \/ 17 < log \/ room < 0
 · have hE : scanM f log first room = (1,headZ):=by unfold scanM; rw [if_pos hg]
   rw [hE]
   have hd : decide (log < 10) = true \/ (decide (log < 10) = false /\ decide (17 < log) = true) \/ (decide (log < 10) = false /\ decide (17 < log) = false /\ decide (room < 0) = true):=by
    by_cases h1 : log < 10
    · exact .inl (decide_eq_true h1)
    · by_cases h2 : 17 < log
      · exact .inr (.inl ⟨decide_eq_false h1,decide_eq_true h2⟩)
      · exact .inr (.inr ⟨decide_eq_false h1,decide_eq_false h2,decide_eq_true (by omega)⟩)
   clear hr hf hl hc hk0 hb0 hs0 hg hE
   rcases hd with d1 | ⟨d1,d2⟩ | ⟨d1,d2,d3⟩
   all_goals
    go_enter Tryz.func91,Tryz.ntmps91
    go_wp2_with fail
    rw [<- hW0]
    refine bodyPost_ret (a2d (fn:=Tryz.f91) (p:=8) (u:=9) (ty:=114) rfl _ _ _ _ rfl (a3a HK0.out.1)) rfl ?_
    exact ⟨by rw [a3u]; rfl,HK0.out.2⟩
 · have hlr : 10 <= log /\ log <= 17 /\ 0 <= room:=by omega
   have g1 : decide (log < 10) = false:=decide_eq_false (by omega)
   have g2 : decide (17 < log) = false:=decide_eq_false (by omega)
   have g3 : decide (room < 0) = false:=decide_eq_false (by omega)
   obtain ⟨lg,rfl⟩ : ∃ lg : Nat,log = lg:=⟨log.toNat,by omega⟩
   obtain ⟨m,hm⟩ : ∃ m,m = min f.length 11:=⟨_,rfl⟩
   have hmin : Builtin.min2 (.int .i64 (f.length : Int)) (.int .i64 11) = pure (.int .i64 (m : Int)):=by
    rw [a1Z]
    by_cases h11 : f.length <= 11
    · rw [if_neg (by omega),hm,Nat.min_eq_left h11]
    · rw [if_pos (by omega),hm,Nat.min_eq_right (by omega)]; rfl
   have hsl : ∀ W : World,(Instr.slice 22 (.slice A f.length c) none (some (.int .i64 (m : Int))) none).run Tryz.prog W = .ok (.slice A m c) W:=λ W=>by
    obtain ⟨i0,hi0,hz0,hz1,hz2⟩:=info_parts a0C
    have:=a8n (P:=Tryz.prog) 22 5 .i64 Tryz.underlying22 hi0 A f.length c (m : Int) (by omega) (by omega) hc W
    simp only [Int.toNat_natCast] at this
    exact this
   obtain ⟨W2,hW2⟩ : ∃ W,W = (W0.alloc (.cells #[.slice A m c,.bool false] 179)).alloc (.cells #[.int .i64 0,.int .i64 0,.int .i64 0,.bool false,.int .u32 0] 114):=⟨_,rfl⟩
   obtain ⟨p,hp⟩ : ∃ p,p = W0.heap.size:=⟨_,rfl⟩
   obtain ⟨r8,hr8⟩ : ∃ r,r = w.heap.size:=⟨_,rfl⟩
   obtain ⟨h,hh⟩ : ∃ h,h = p + 1:=⟨_,rfl⟩
   obtain ⟨fs,hfs⟩ : ∃ fs,fs = f.take 11:=⟨_,rfl⟩
   have hfl : fs.length = m:=by rw [hfs,List.length_take,hm,Nat.min_comm]
   have hC : (Kd.int .u8).C W0 A m fs:=by
    have:=Kd.C_take (m:=m) (Kd.C_below hr hb0) (by omega)
    have e : f.take m = fs:=by
     rw [hfs,hm]
     by_cases h11 : f.length <= 11
     · rw [Nat.min_eq_left h11,List.take_length,List.take_of_length_le h11]
     · rw [Nat.min_eq_right (by omega)]
    rw [e,hfl] at this; exact this
   have HS : Hid (ScanAt W0 p h r8 fs false 0 0 0 false W2):=by
    show ScanAt W0 p h r8 fs false 0 0 0 false W2
    have hb2 : Below W0.heap.size W0 W2:=by rw [hW2]; exact ((Below.refl _ _).alloc (Nat.le_refl _) _).alloc (by simp) _
    refine ⟨⟨⟨A,c,?_,by rw [hfl]; exact hC,by rw [hfl]; omega⟩,by rw [hp]; exact Nat.le_refl _,hb2⟩,?_,?_,?_⟩
    · rw [hW2,hp,hfl]; exact a0i (a0k _ _) _
    · rw [hW2,hh,hp]
      have:=a0k (W0.alloc (.cells #[.slice A m c,.bool false] 179)) (.cells #[.int .i64 0,.int .i64 0,.int .i64 0,.bool false,.int .u32 0] 114 (0,0))
      simp only [World.alloc] at this ⊢
      simpa using this
    · rw [hW2,hr8]; exact a0i (a0i hk0 _) _
    · exact hb2.mono (by omega)
   have HO:=Lib.hid (show r8 < p /\ p < h from ⟨by omega,by omega⟩)
   have HB0:=Lib.hid (show Below r8 w W0 from by rw [hr8]; exact hb0)
   have HBf:=Lib.hid (show Bytes fs from by rw [hfs]; exact λ x hx=>hf x (List.mem_of_mem_take hx))
   have HFl:=Lib.hid (show fs.length <= 1000000 from by omega)
   have HWr:=Lib.hid hr8
   have HLR:=Lib.hid hlr
   have hp' : p = w.heap.size + 1:=by rw [hp,hs0]
   have hh' : h = w.heap.size + 1 + 1:=by rw [hh,hp']
   have HF:=Lib.hid (And.intro hfs (And.intro hfl hm))
   clear hr hf hl hc hk0 hb0 hs0 hg hlr hm hfl hC hfs hp hh
   go_enter Tryz.func91,Tryz.ntmps91
   go_wp2_with fail
   rw [<- hW0,<- hW2,<- hh',<- hp',<- hr8]
   have hne1 : h ≠ p:=by have:=HO.out; omega
   have hne2 : p ≠ h:=by have:=HO.out; omega
   have hne3 : h ≠ r8:=by have:=HO.out; omega
   have hne4 : r8 ≠ h:=by have:=HO.out; omega
   clear hh' hp' hr8 hW0 hW2 hmin hsl
   refine (a4v W0 p 1 fs false W2 HS.out.rd (by decide) HBf.out HFl.out).mono ?_
   intro e w3 hn
   obtain ⟨rfl,hs3⟩:=HS.out.num HO.out hn
   rw [Bool.false_or] at hs3
   have hk1 : rdN fs (min 1 fs.length) < 256:=Nat.lt_of_lt_of_le (a2I HBf.out _) (Nat.le_trans (Nat.pow_le_pow_right (by decide : 256 > 0) (Nat.min_le_left 1 _)) (by decide))
   have HK1:=Lib.hid (show 1 <= fs.length -> rdN fs (min 1 fs.length) = (fs.getD 0 0).toNat from λ h1=>by rw [Nat.min_eq_left h1]; simp [rdN])
   obtain ⟨k1,hk1e⟩ : ∃ k,k = rdN fs (min 1 fs.length):=⟨_,rfl⟩
   rw [<- hk1e] at hk1 HK1 ⊢
   have h3:=and_3 k1 (by omega)
   have h4:=and_4 k1 (by omega)
   obtain ⟨a,ha⟩ : ∃ a,a = k1 % 4:=⟨_,rfl⟩
   obtain ⟨v4,hv4⟩ : ∃ a,a = k1 / 4 % 2 * 4:=⟨_,rfl⟩
   obtain ⟨lb,hlb⟩ : ∃ b,b = ((v4 : Int) != 0):=⟨_,rfl⟩
   have HLB:=Lib.hid (show k1 <= 7 -> lb = decide (4 <= k1) from λ h7=>by
    rw [hlb,hv4,Bool.eq_iff_iff]; simp; omega)
   rw [<- ha] at h3
   rw [<- hv4] at h4
   have hlb2 : ((v4 : Int) != 0) = lb:=hlb.symm
   have HA:=Lib.hid ha
   have HS3:=Lib.hid hs3
   have HX:=Lib.hid ((hs3.set0 HO.out a).set3 HO.out lb)
   obtain ⟨sh1,hsh1⟩ : ∃ b,b = decide (fs.length < 1):=⟨_,rfl⟩
   rw [<- hsh1] at hs3 HX HS3
   obtain ⟨fs1,hfs1⟩ : ∃ l,l = fs.drop 1:=⟨_,rfl⟩
   rw [<- hfs1] at hs3 HX HS3
   have HF1:=Lib.hid (And.intro hfs1 (show fs1.length = fs.length - 1 from by rw [hfs1]; exact List.length_drop))
   have HBf1:=Lib.hid (show Bytes fs1 from by rw [hfs1]; exact λ x hx=>HBf.out x (List.mem_of_mem_drop hx))
   have HFl1:=Lib.hid (show fs1.length <= 1000000 from by have:=HF1.out.2; have:=HFl.out; omega)
   obtain ⟨q1,q2,q3,q4,q5⟩:=HX.out.cells
   obtain ⟨s1,s2,s3,s4,s5⟩:=hs3.cells
   obtain ⟨s20,s21,s22,s23,s24⟩:=s2
   obtain ⟨s30,s31,s32,s33,s34⟩:=s3
   obtain ⟨s40,s41,s42,s43,s44⟩:=s4
   obtain ⟨s50,s51,s52,s53,s54⟩:=s5
   clear hn hs3 hlb hv4 ha hk1e hfs1 q1 q2 q3 q4 q5
   by_cases hL1 : fs.length < 1
   · have HE:=Lib.hid (show scanM f lg first room = (3,headZ) from by
       have:=HF.out
       unfold scanM; rw [if_neg (by have:=HLR.out; omega),if_pos (by omega)])
     rw [decide_eq_true hL1] at hsh1
     subst hsh1
     clear hL1
     go_wp2_with fail
     refine (a4v W0 p 3 fs1 _ _ HX.out.rd (by decide) HBf1.out HFl1.out).mono ?_
     intro e w4 hn
     obtain ⟨rfl,hs4⟩:=HX.out.num HO.out hn
     have hn2 : rdN fs1 (min 3 fs1.length) < 4294967296:=Nat.lt_of_lt_of_le (a2I HBf1.out _) (Nat.le_trans (Nat.pow_le_pow_right (by decide : 256 > 0) (Nat.min_le_left 3 _)) (by decide))
     have Hn2:=Lib.hid (show 3 <= fs1.length -> rdN fs1 (min 3 fs1.length) = rdN fs1 3 from λ h1=>by rw [Nat.min_eq_left h1])
     obtain ⟨n2,n2e⟩ : ∃ k,k = rdN fs1 (min 3 fs1.length):=⟨_,rfl⟩
     rw [<- n2e] at hn2 Hn2 ⊢
     clear n2e hn
     clear s1 s20 s21 s22 s23 s24 s30 s31 s32 s33 s34 s40 s41 s42 s43 s44 s50 s51 s52 s53 s54
     rw [Bool.true_or] at hs4
     obtain ⟨fs2,fs2e⟩ : ∃ l,l = fs1.drop 3:=⟨_,rfl⟩
     rw [<- fs2e] at hs4
     have HF2:=Lib.hid (And.intro fs2e (show fs2.length = fs1.length - 3 from by rw [fs2e]; exact List.length_drop))
     have HBf2:=Lib.hid (show Bytes fs2 from by rw [fs2e]; exact λ x hx=>HBf1.out x (List.mem_of_mem_drop hx))
     have HFl2:=Lib.hid (show fs2.length <= 1000000 from by have:=HF2.out.2; have:=HFl1.out; omega)
     clear fs2e
     have HX4:=Lib.hid (hs4.set1 HO.out n2)
     obtain ⟨s1,s2,s3,s4,s5⟩:=hs4.cells
     obtain ⟨s20,s21,s22,s23,s24⟩:=s2
     obtain ⟨s30,s31,s32,s33,s34⟩:=s3
     obtain ⟨s40,s41,s42,s43,s44⟩:=s4
     obtain ⟨s50,s51,s52,s53,s54⟩:=s5
     clear hs4
     go_wp2_with fail
     refine (a4v W0 p 3 fs2 _ _ HX4.out.rd (by decide) HBf2.out HFl2.out).mono ?_
     intro e w5 hn
     obtain ⟨rfl,hs5⟩:=HX4.out.num HO.out hn
     have hn3 : rdN fs2 (min 3 fs2.length) < 4294967296:=Nat.lt_of_lt_of_le (a2I HBf2.out _) (Nat.le_trans (Nat.pow_le_pow_right (by decide : 256 > 0) (Nat.min_le_left 3 _)) (by decide))
     have Hn3:=Lib.hid (show 3 <= fs2.length -> rdN fs2 (min 3 fs2.length) = rdN fs2 3 from λ h1=>by rw [Nat.min_eq_left h1])
     obtain ⟨n3,n3e⟩ : ∃ k,k = rdN fs2 (min 3 fs2.length):=⟨_,rfl⟩
     rw [<- n3e] at hn3 Hn3 ⊢
     clear n3e hn
     rw [Bool.true_or] at hs5
     have HX5:=Lib.hid (hs5.set2 HO.out n3)
     clear s1 s20 s21 s22 s23 s24 s30 s31 s32 s33 s34 s40 s41 s42 s43 s44 s50 s51 s52 s53 s54
     obtain ⟨s1,s2,s3,s4,s5⟩:=hs5.cells
     obtain ⟨s20,s21,s22,s23,s24⟩:=s2
     obtain ⟨s30,s31,s32,s33,s34⟩:=s3
     obtain ⟨s40,s41,s42,s43,s44⟩:=s4
     obtain ⟨s50,s51,s52,s53,s54⟩:=s5
     clear hs5
     go_wp2_with fail
     refine bodyPost_ret (a2d (fn:=Tryz.f91) (p:=8) (u:=9) (ty:=114) rfl _ _ _ _ rfl (a3a (a3t HX5.out.kr _ _ _ _ _))) rfl ?_
     rw [HE.out]
     exact ⟨by rw [a3u]; rfl,by show Below w.heap.size w _; rw [<- HWr.out]; exact a4w HX5.out HB0.out⟩
   · have hfl1 : 1 <= f.length:=by have:=HF.out; omega
     have hg0 : fs.getD 0 0 = f.getD 0 0:=by rw [HF.out.1,List.getD_eq_getElem?_getD,List.getElem?_take,if_pos (by decide),<- List.getD_eq_getElem?_getD]
     have HKf:=Lib.hid (show (f.getD 0 0).toNat = k1 from by rw [<- hg0]; exact (HK1.out (by omega)).symm)
     have HL1:=Lib.hid (And.intro hL1 hfl1)
     rw [decide_eq_false hL1] at hsh1
     subst hsh1
     clear hg0 hL1 hfl1
     by_cases h7 : 7 < k1
     · have HE:=Lib.hid (show scanM f lg first room = (10,headZ) from by
         unfold scanM; rw [if_neg (by have:=HLR.out; omega),if_neg (by have:=HL1.out.2; omega),if_pos (by rw [HKf.out]; exact h7)])
       have h7I : (7 : Int) < (k1 : Int):=by omega
       clear h7
       go_wp2_with fail
       refine bodyPost_ret (a2d (fn:=Tryz.f91) (p:=8) (u:=9) (ty:=114) rfl _ _ _ _ rfl (a3a (a3t HX.out.kr _ _ _ _ _))) rfl ?_
       rw [HE.out]
       exact ⟨by rw [a3u]; rfl,by show Below w.heap.size w _; rw [<- HWr.out]; exact a4w HX.out HB0.out⟩
     · have hlb4:=HLB.out (by omega)
       have HLB2:=Lib.hid hlb4
       have H7:=Lib.hid h7
       have h7I : ¬ (7 : Int) < (k1 : Int):=by omega
       clear h7 hlb4
       go_wp2_with fail
       refine (a4v W0 p 3 fs1 _ _ HX.out.rd (by decide) HBf1.out HFl1.out).mono ?_
       intro e w4 hn
       obtain ⟨rfl,hs4⟩:=HX.out.num HO.out hn
       have hn2 : rdN fs1 (min 3 fs1.length) < 4294967296:=Nat.lt_of_lt_of_le (a2I HBf1.out _) (Nat.le_trans (Nat.pow_le_pow_right (by decide : 256 > 0) (Nat.min_le_left 3 _)) (by decide))
       have Hn2:=Lib.hid (show 3 <= fs1.length -> rdN fs1 (min 3 fs1.length) = rdN fs1 3 from λ h1=>by rw [Nat.min_eq_left h1])
       obtain ⟨n2,n2e⟩ : ∃ k,k = rdN fs1 (min 3 fs1.length):=⟨_,rfl⟩
       rw [<- n2e] at hn2 Hn2 ⊢
       clear n2e hn
       rw [Bool.false_or] at hs4
       obtain ⟨sh2,hsh2⟩ : ∃ b,b = decide (fs1.length < 3):=⟨_,rfl⟩
       rw [<- hsh2] at hs4
       obtain ⟨fs2,fs2e⟩ : ∃ l,l = fs1.drop 3:=⟨_,rfl⟩
       rw [<- fs2e] at hs4
       have HF2:=Lib.hid (And.intro fs2e (show fs2.length = fs1.length - 3 from by rw [fs2e]; exact List.length_drop))
       have HBf2:=Lib.hid (show Bytes fs2 from by rw [fs2e]; exact λ x hx=>HBf1.out x (List.mem_of_mem_drop hx))
       have HFl2:=Lib.hid (show fs2.length <= 1000000 from by have:=HF2.out.2; have:=HFl1.out; omega)
       clear fs2e
       have HX4:=Lib.hid (hs4.set1 HO.out n2)
       clear s1 s20 s21 s22 s23 s24 s30 s31 s32 s33 s34 s40 s41 s42 s43 s44 s50 s51 s52 s53 s54
       obtain ⟨s1,s2,s3,s4,s5⟩:=hs4.cells
       obtain ⟨s20,s21,s22,s23,s24⟩:=s2
       obtain ⟨s30,s31,s32,s33,s34⟩:=s3
       obtain ⟨s40,s41,s42,s43,s44⟩:=s4
       obtain ⟨s50,s51,s52,s53,s54⟩:=s5
       clear hs4
       by_cases hL4 : fs1.length < 3
       · have HE:=Lib.hid (show scanM f lg first room = (3,headZ) from by
           have h1:=HF.out
           have h2:=HF1.out.2
           have h3:=HL1.out
           unfold scanM
           rw [if_neg (by have:=HLR.out; omega),if_neg (by omega),if_neg (by rw [HKf.out]; exact H7.out),if_pos (by omega)])
         rw [decide_eq_true hL4] at hsh2
         subst hsh2
         clear hL4
         go_wp2_with fail
         refine (a4v W0 p 3 fs2 _ _ HX4.out.rd (by decide) HBf2.out HFl2.out).mono ?_
         intro e w5 hn
         obtain ⟨rfl,hs5⟩:=HX4.out.num HO.out hn
         have hn3 : rdN fs2 (min 3 fs2.length) < 4294967296:=Nat.lt_of_lt_of_le (a2I HBf2.out _) (Nat.le_trans (Nat.pow_le_pow_right (by decide : 256 > 0) (Nat.min_le_left 3 _)) (by decide))
         have Hn3:=Lib.hid (show 3 <= fs2.length -> rdN fs2 (min 3 fs2.length) = rdN fs2 3 from λ h1=>by rw [Nat.min_eq_left h1])
         obtain ⟨n3,n3e⟩ : ∃ k,k = rdN fs2 (min 3 fs2.length):=⟨_,rfl⟩
         rw [<- n3e] at hn3 Hn3 ⊢
         clear n3e hn
         rw [Bool.true_or] at hs5
         have HX5:=Lib.hid (hs5.set2 HO.out n3)
         clear s1 s20 s21 s22 s23 s24 s30 s31 s32 s33 s34 s40 s41 s42 s43 s44 s50 s51 s52 s53 s54
         obtain ⟨s1,s2,s3,s4,s5⟩:=hs5.cells
         obtain ⟨s20,s21,s22,s23,s24⟩:=s2
         obtain ⟨s30,s31,s32,s33,s34⟩:=s3
         obtain ⟨s40,s41,s42,s43,s44⟩:=s4
         obtain ⟨s50,s51,s52,s53,s54⟩:=s5
         clear hs5
         go_wp2_with fail
         refine bodyPost_ret (a2d (fn:=Tryz.f91) (p:=8) (u:=9) (ty:=114) rfl _ _ _ _ rfl (a3a (a3t HX5.out.kr _ _ _ _ _))) rfl ?_
         rw [HE.out]
         exact ⟨by rw [a3u]; rfl,by show Below w.heap.size w _; rw [<- HWr.out]; exact a4w HX5.out HB0.out⟩
       · have HL4:=Lib.hid (show 4 <= f.length /\ 3 <= fs1.length from by
           have h1:=HF.out
           have h2:=HF1.out.2
           have h3:=HL1.out
           omega)
         have HN:=Lib.hid (show rdN (f.drop 1) 3 = n2 from by
          rw [Hn2.out HL4.out.2,HF1.out.1,HF.out.1]; exact (b0P (by decide)).symm)
         rw [decide_eq_false hL4] at hsh2
         subst hsh2
         clear hL4
         have HLen:=Lib.hid (λ (W : World)=>c8v a n2 0 0 lg lb first W (by have:=HLR.out; omega))
         obtain ⟨z,hz⟩ : ∃ z,z = a1y lg first a n2 lb:=⟨_,rfl⟩
         rw [<- hz] at HLen
         have HZ:=Lib.hid hz
         clear hz
         go_wp2_with fail
         refine (HLen.out _).mono ?_
         rintro e w5 ⟨rfl,hb5⟩
         have hs5:=HX4.out.below hb5
         have HX5:=Lib.hid hs5
         clear s1 s20 s21 s22 s23 s24 s30 s31 s32 s33 s34 s40 s41 s42 s43 s44 s50 s51 s52 s53 s54
         obtain ⟨s1,s2,s3,s4,s5⟩:=hs5.cells
         obtain ⟨s20,s21,s22,s23,s24⟩:=s2
         obtain ⟨s30,s31,s32,s33,s34⟩:=s3
         obtain ⟨s40,s41,s42,s43,s44⟩:=s4
         obtain ⟨s50,s51,s52,s53,s54⟩:=s5
         clear hb5 hs5
         have hpre : (if ((lg : Int) < 10 \/ 17 < (lg : Int) \/ room < 0) then ((1,headZ) : Int × HeadT) else (0,headZ)) = (0,headZ):=if_neg (by have:=HLR.out; omega)
         clear hpre
         cases z with
         | false=>
          have HE:=Lib.hid (show scanM f lg first room = (11,headZ) from by
           have h1:=HL4.out.1
           unfold scanM
           rw [if_neg (by have:=HLR.out; omega),if_neg (by omega),if_neg (by rw [HKf.out]; exact H7.out),if_neg (by omega),HKf.out,HN.out,<- HA.out,<- HLB2.out,if_pos HZ.out.symm])
          go_wp2_with fail
          refine bodyPost_ret (a2d (fn:=Tryz.f91) (p:=8) (u:=9) (ty:=114) rfl _ _ _ _ rfl (a3a (a3t HX5.out.kr _ _ _ _ _))) rfl ?_
          rw [HE.out]
          exact ⟨by rw [a3u]; rfl,by show Below w.heap.size w _; rw [<- HWr.out]; exact a4w HX5.out HB0.out⟩
         | true=>
          go_wp2_with fail
          refine (a4v W0 p 3 fs2 _ _ HX5.out.rd (by decide) HBf2.out HFl2.out).mono ?_
          intro e w6 hn
          obtain ⟨rfl,hs6⟩:=HX5.out.num HO.out hn
          have hn3 : rdN fs2 (min 3 fs2.length) < 4294967296:=Nat.lt_of_lt_of_le (a2I HBf2.out _) (Nat.le_trans (Nat.pow_le_pow_right (by decide : 256 > 0) (Nat.min_le_left 3 _)) (by decide))
          have Hn3:=Lib.hid (show 3 <= fs2.length -> rdN fs2 (min 3 fs2.length) = rdN fs2 3 from λ h1=>by rw [Nat.min_eq_left h1])
          obtain ⟨n3,n3e⟩ : ∃ k,k = rdN fs2 (min 3 fs2.length):=⟨_,rfl⟩
          rw [<- n3e] at hn3 Hn3 ⊢
          clear n3e hn
          rw [Bool.false_or] at hs6
          obtain ⟨sh3,hsh3⟩ : ∃ b,b = decide (fs2.length < 3):=⟨_,rfl⟩
          rw [<- hsh3] at hs6
          obtain ⟨fs3,fs3e⟩ : ∃ l,l = fs2.drop 3:=⟨_,rfl⟩
          rw [<- fs3e] at hs6
          have HF3:=Lib.hid (And.intro fs3e (show fs3.length = fs2.length - 3 from by rw [fs3e]; exact List.length_drop))
          have HBf3:=Lib.hid (show Bytes fs3 from by rw [fs3e]; exact λ x hx=>HBf2.out x (List.mem_of_mem_drop hx))
          have HFl3:=Lib.hid (show fs3.length <= 1000000 from by have:=HF3.out.2; have:=HFl2.out; omega)
          clear fs3e
          have HX6:=Lib.hid (hs6.set2 HO.out n3)
          clear s1 s20 s21 s22 s23 s24 s30 s31 s32 s33 s34 s40 s41 s42 s43 s44 s50 s51 s52 s53 s54
          obtain ⟨s1,s2,s3,s4,s5⟩:=hs6.cells
          obtain ⟨s20,s21,s22,s23,s24⟩:=s2
          obtain ⟨s30,s31,s32,s33,s34⟩:=s3
          obtain ⟨s40,s41,s42,s43,s44⟩:=s4
          obtain ⟨s50,s51,s52,s53,s54⟩:=s5
          clear hs6
          have HPre:=Lib.hid (show scanM f lg first room = (if f.length < 7 then (3,headZ) else
              if a0B (a : Nat) n2 (rdN (f.drop 4) 3) ≠ 0 then (a0B (a : Nat) n2 (rdN (f.drop 4) 3),headZ) else
              if room < n2 then (7,headZ) else
              if f.length < 11 then (3,headZ) else
              (0,a,n2,rdN (f.drop 4) 3,lb,rdN (f.drop 7) 4)) from by
           have h1:=HL4.out.1
           unfold scanM
           rw [if_neg (by have:=HLR.out; omega),if_neg (by omega),if_neg (by rw [HKf.out]; exact H7.out),if_neg (by omega),HKf.out,HN.out,<- HA.out,<- HLB2.out,if_neg (by rw [<- HZ.out]; decide)])
          have HFL:=Lib.hid (show fs2.length = min f.length 11 - 4 from by
           have h1:=HF.out.2
           have h2:=HF1.out.2
           have h3:=HF2.out.2
           omega)
          by_cases hL7 : fs2.length < 3
          · have HE:=Lib.hid (show scanM f lg first room = (3,headZ) from by
              have:=HFL.out
              have:=HL4.out.1
              rw [HPre.out,if_pos (by omega)])
            rw [decide_eq_true hL7] at hsh3
            subst hsh3
            clear hL7
            go_wp2_with fail
            refine bodyPost_ret (a2d (fn:=Tryz.f91) (p:=8) (u:=9) (ty:=114) rfl _ _ _ _ rfl (a3a (a3t HX6.out.kr _ _ _ _ _))) rfl ?_
            rw [HE.out]
            exact ⟨by rw [a3u]; rfl,by show Below w.heap.size w _; rw [<- HWr.out]; exact a4w HX6.out HB0.out⟩
          · have HL7:=Lib.hid (show 7 <= f.length /\ 3 <= fs2.length from by have:=HFL.out; omega)
            have HM:=Lib.hid (show rdN (f.drop 4) 3 = n3 from by
             rw [Hn3.out HL7.out.2,HF2.out.1,HF1.out.1,List.drop_drop,HF.out.1]; exact (b0P (by decide)).symm)
            rw [HM.out,if_neg (by have:=HL7.out.1; omega)] at HPre
            rw [decide_eq_false hL7] at hsh3
            subst hsh3
            clear hL7
            have HChk:=Lib.hid (λ (W : World)=>a5r a n2 n3 W)
            obtain ⟨ck,hck⟩ : ∃ z,z = a0B a n2 n3:=⟨_,rfl⟩
            unfold a1v at HChk
            rw [<- hck] at HChk HPre
            clear hck
            go_wp2_with fail
            refine (HChk.out _).mono ?_
            rintro e w7 ⟨rfl,hb7⟩
            have hs7:=HX6.out.below hb7
            have HX7:=Lib.hid hs7
            clear s1 s20 s21 s22 s23 s24 s30 s31 s32 s33 s34 s40 s41 s42 s43 s44 s50 s51 s52 s53 s54
            obtain ⟨s1,s2,s3,s4,s5⟩:=hs7.cells
            obtain ⟨s20,s21,s22,s23,s24⟩:=s2
            obtain ⟨s30,s31,s32,s33,s34⟩:=s3
            obtain ⟨s40,s41,s42,s43,s44⟩:=s4
            obtain ⟨s50,s51,s52,s53,s54⟩:=s5
            clear hb7 hs7
            by_cases hc0 : ck = 0
            · subst hc0
              rw [if_neg (λ h=>h rfl)] at HPre
              by_cases hrm : room < n2
              · have HE:=Lib.hid (show scanM f lg first room = (7,headZ) from by rw [HPre.out,if_pos hrm])
                clear HPre
                go_wp2_with fail
                refine bodyPost_ret (a2d (fn:=Tryz.f91) (p:=8) (u:=9) (ty:=114) rfl _ _ _ _ rfl (a3a (a3t HX7.out.kr _ _ _ _ _))) rfl ?_
                rw [HE.out]
                exact ⟨by rw [a3u]; rfl,by show Below w.heap.size w _; rw [<- HWr.out]; exact a4w HX7.out HB0.out⟩
              · rw [if_neg hrm] at HPre
                go_wp2_with fail
                refine (a4v W0 p 4 fs3 _ _ HX7.out.rd (by decide) HBf3.out HFl3.out).mono ?_
                intro e w8 hn
                obtain ⟨rfl,hs8⟩:=HX7.out.num HO.out hn
                have hn4 : rdN fs3 (min 4 fs3.length) < 4294967296:=Nat.lt_of_lt_of_le (a2I HBf3.out _) (Nat.le_trans (Nat.pow_le_pow_right (by decide : 256 > 0) (Nat.min_le_left 4 _)) (by decide))
                have Hn4:=Lib.hid (show 4 <= fs3.length -> rdN fs3 (min 4 fs3.length) = rdN fs3 4 from λ h1=>by rw [Nat.min_eq_left h1])
                obtain ⟨n4,n4e⟩ : ∃ k,k = rdN fs3 (min 4 fs3.length):=⟨_,rfl⟩
                rw [<- n4e] at hn4 Hn4 ⊢
                clear n4e hn
                rw [Bool.false_or] at hs8
                obtain ⟨sh4,hsh4⟩ : ∃ b,b = decide (fs3.length < 4):=⟨_,rfl⟩
                rw [<- hsh4] at hs8
                have HX8:=Lib.hid hs8
                clear s1 s20 s21 s22 s23 s24 s30 s31 s32 s33 s34 s40 s41 s42 s43 s44 s50 s51 s52 s53 s54
                obtain ⟨s1,s2,s3,s4,s5⟩:=hs8.cells
                obtain ⟨s20,s21,s22,s23,s24⟩:=s2
                obtain ⟨s30,s31,s32,s33,s34⟩:=s3
                obtain ⟨s40,s41,s42,s43,s44⟩:=s4
                obtain ⟨s50,s51,s52,s53,s54⟩:=s5
                clear hs8
                have hw4 : IntKind.u32.wrap (n4 : Int) = (n4 : Int):=by rw [IntKind.wrap_u32']; omega
                have HFL3:=Lib.hid (show fs3.length = min f.length 11 - 7 from by
                 have:=HFL.out
                 have:=HF3.out.2
                 omega)
                by_cases hL11 : fs3.length < 4
                · have HE:=Lib.hid (show scanM f lg first room = (3,headZ) from by
                    have:=HFL3.out
                    rw [HPre.out,if_pos (by omega)])
                  rw [decide_eq_true hL11] at hsh4
                  subst hsh4
                  clear hL11 HPre
                  go_wp2_with fail
                  refine bodyPost_ret (a2d (fn:=Tryz.f91) (p:=8) (u:=9) (ty:=114) rfl _ _ _ _ rfl (a3a (a3t (a1o HX8.out.kr (p:=⟨h,4,none⟩) (by show r8 ≠ h; have:=HO.out; omega) _) _ _ _ _ _))) rfl ?_
                  rw [HE.out]
                  exact ⟨by rw [a3u]; rfl,by show Below w.heap.size w _; rw [<- HWr.out]; exact b0N ((HB0.out.trans HX8.out.on).setCell (p:=⟨h,4,none⟩) (by show r8 <= h; have:=HO.out; omega) _) (Nat.le_refl _) _ _ _ _ _⟩
                · have hM4 : rdN (f.drop 7) 4 = n4:=by
                    rw [Hn4.out (by omega),HF3.out.1,HF2.out.1,HF1.out.1,List.drop_drop,List.drop_drop,HF.out.1]; exact (b0P (by decide)).symm
                  have HE:=Lib.hid (show scanM f lg first room = (0,a,n2,n3,lb,n4) from by
                   have:=HFL3.out
                   rw [HPre.out,if_neg (by omega),hM4])
                  rw [decide_eq_false hL11] at hsh4
                  subst hsh4
                  clear hL11 HPre hM4
                  go_wp2_with fail
                  refine bodyPost_ret (a2d (fn:=Tryz.f91) (p:=8) (u:=9) (ty:=114) rfl _ _ _ _ rfl (a3a (a3t (a1o HX8.out.kr (p:=⟨h,4,none⟩) (by show r8 ≠ h; have:=HO.out; omega) _) _ _ _ _ _))) rfl ?_
                  rw [HE.out]
                  exact ⟨rfl,by show Below w.heap.size w _; rw [<- HWr.out]; exact b0N ((HB0.out.trans HX8.out.on).setCell (p:=⟨h,4,none⟩) (by show r8 <= h; have:=HO.out; omega) _) (Nat.le_refl _) _ _ _ _ _⟩
            · have HE:=Lib.hid (show scanM f lg first room = (ck,headZ) from by rw [HPre.out,if_pos hc0])
              have hc2 : (ck != 0) = true:=by simpa using hc0
              clear HPre hc0
              go_wp2_with fail
              refine bodyPost_ret (a2d (fn:=Tryz.f91) (p:=8) (u:=9) (ty:=114) rfl _ _ _ _ rfl (a3a (a3t HX7.out.kr _ _ _ _ _))) rfl ?_
              rw [HE.out]
              exact ⟨by rw [a3u]; rfl,by show Below w.heap.size w _; rw [<- HWr.out]; exact a4w HX7.out HB0.out⟩
end Go.Proofs.YtflfjpkmjnnodaaGreat
namespace Go.Proofs.YtflfjpkmjnnodaaGreat
open Go.RowKit Go.IntWalk Go.Proofs.YtflfjpkmjnnodaaGreatW.PrintWords
def bestN (b : List Int) : Nat -> Int × List Int
 | 0=>(0,b)
 | k + 1=>a0W ((k + 1 : Nat) : Int) b (bestN b k)
theorem c8w (b : List Int) : bestN b 3 = bestP b:=rfl
theorem b7g (b : List Int) : ∀ k,(bestN b k).2.length <= b.length
 | 0=>Nat.le_refl _
 | k + 1=>Nat.le_trans (a7P _ b _).1 (b7g b k)
theorem b7h {k : Int} {b : List Int} {x : Int × List Int} (h0 : (pickE k b).1 = 0) (h1 : (pickE k b).2.length < x.2.length) : a0W k b x = (k,(pickE k b).2):=by unfold a0W; rw [if_pos ⟨h0,h1⟩]
theorem a8c {k : Int} {b : List Int} {x : Int × List Int} (h : ¬ ((pickE k b).1 = 0 /\ (pickE k b).2.length < x.2.length)) : a0W k b x = x:=by unfold a0W; rw [if_neg h]
def BestPost (b : List Int) (w : World) (e : Ending) (w' : World) : Prop:=
 ∃ A c,e = .returned (.tuple #[.int .i64 (bestP b).1,.slice A (bestP b).2.length c,.int .i64 0]) /\ (Kd.int .u8).R 5 w' w.heap.size (λ _=>True) (.slice A (bestP b).2.length c) (bestP b).2 /\ Below w.heap.size w w'
set_option maxRecDepth 100000 in
set_option maxHeartbeats 1000000 in
theorem a5s (A : Option Addr) (c : Nat) (b : List Int) (w : World) (hr : (Kd.int .u8).C w A b.length b) (hb : Bytes b) (hl : b.length <= 40000) :
    Calls Tryz.prog 79 #[.slice A b.length c] w (BestPost b w):=by
 have HE:=Lib.hid (λ (k : Int) (W : World) (hB : Below w.heap.size w W)=>c8j A c k b W (Kd.C_below hr hB) hb hl)
 have HE0:=Lib.hid (HE.out 0 w (Below.refl _ _))
 have e0 : pickE 0 b = (0,b):=by rw [a5q (by decide) (by decide),b0G hl]
 rw [e0] at HE0
 have HL:=Lib.hid (And.intro hl e0)
 clear hr hb hl e0
 go_enter Tryz.func79,Tryz.ntmps79
 go_wp2_with fail
 refine HE0.out.mono ?_
 rintro e w1 ⟨A1,c1,rfl,hv1,hb1⟩
 have H1:=Lib.hid (And.intro hv1 hb1)
 clear hv1 hb1
 dsimp only
 go_wp2_with fail
 go_loopw [2,3,5,6,7] (λ nv bv kv xv fv wr=>∃ (k n : Nat) (y : List Int) (B : Option Addr) (cb : Nat),nv = .int .i64 n /\ bv = .slice B y.length cb /\ kv = .int .i64 ((k + 1 : Nat) : Int) /\ k <= 3 /\ Hid (bestN b k = ((n : Int),y) /\ (Kd.int .u8).R 5 wr w.heap.size (λ _=>True) (.slice B y.length cb) y /\ Below w.heap.size w wr)) (λ _ _ kv _ _ _=>4 - (intOf kv).toNat)
 case atStart=>exact ⟨0,0,b,A1,c1,rfl,rfl,rfl,by omega,Lib.hid ⟨rfl,H1.out.1,H1.out.2⟩⟩
 case round=>
  obtain ⟨k,n,y,B,cb,rfl,rfl,rfl,hk,H⟩:=hrel
  by_cases hlt : k < 3
  · have hI : ((k + 1 : Nat) : Int) < 4:=by omega
    have HC:=Lib.hid (HE.out ((k + 1 : Nat) : Int) wr H.out.2.2)
    have hyl:=b7g b k
    rw [H.out.1] at hyl
    have hyl2 : y.length <= b.length:=hyl
    obtain ⟨x,hx⟩ : ∃ x,x = pickE ((k + 1 : Nat) : Int) b:=⟨_,rfl⟩
    have HX:=Lib.hid hx
    rw [<- hx] at HC
    obtain ⟨f,z⟩:=x
    have hz : Hid (f = 0 -> z.length <= 1000000 \/ True):=Lib.hid (λ _=>.inr trivial)
    clear hx hyl hz
    go_wp2_with fail
    refine HC.out.mono ?_
    rintro e w2 ⟨A2,c2,rfl,hv2,hb2⟩
    have H2:=Lib.hid (And.intro hv2 hb2)
    clear hv2 hb2
    dsimp only at H2 ⊢
    have HB2:=Lib.hid (a0h H.out.2.2 H2.out.2)
    have HR2:=Lib.hid (Kd.R_below H.out.2.1 H2.out.2)
    by_cases h0 : f = 0
    · subst h0
      by_cases h1 : z.length < y.length
      · have hI1 : decide (z.length < y.length) = true:=decide_eq_true h1
        have HN:=Lib.hid (show bestN b (k + 1) = (((k + 1 : Nat) : Int),z) from by
         have e1 : bestN b (k + 1) = a0W ((k + 1 : Nat) : Int) b (bestN b k):=rfl
         rw [e1,b7h (by rw [<- HX.out]) (by rw [<- HX.out,H.out.1]; exact h1),<- HX.out])
        clear h1
        go_wp2_with fail
        go_roundw
        case rel=>exact ⟨k + 1,k + 1,z,A2,c2,rfl,rfl,by go_num,by omega,Lib.hid ⟨HN.out,Kd.R_lower H2.out.1 H.out.2.2.size,HB2.out⟩⟩
        case measure=>simp [intOf]; omega
      · have hI1 : decide (z.length < y.length) = false:=decide_eq_false h1
        have HN:=Lib.hid (show bestN b (k + 1) = ((n : Int),y) from by
         have e1 : bestN b (k + 1) = a0W ((k + 1 : Nat) : Int) b (bestN b k):=rfl
         rw [e1,a8c (by rw [<- HX.out,H.out.1]; exact λ h=>h1 h.2),H.out.1])
        clear h1
        go_wp2_with fail
        go_roundw
        case rel=>exact ⟨k + 1,n,y,B,cb,rfl,rfl,by go_num,by omega,Lib.hid ⟨HN.out,HR2.out,HB2.out⟩⟩
        case measure=>simp [intOf]; omega
    · have hf : (f == 0) = false:=by simpa using h0
      have HN:=Lib.hid (show bestN b (k + 1) = ((n : Int),y) from by
       have e1 : bestN b (k + 1) = a0W ((k + 1 : Nat) : Int) b (bestN b k):=rfl
       rw [e1,a8c (by rw [<- HX.out]; exact λ h=>h0 h.1),H.out.1])
      clear h0
      go_wp2_with fail
      go_roundw
      case rel=>exact ⟨k + 1,n,y,B,cb,rfl,rfl,by go_num,by omega,Lib.hid ⟨HN.out,HR2.out,HB2.out⟩⟩
      case measure=>simp [intOf]; omega
  · obtain rfl : k = 3:=by omega
    go_wp2_with fail
    go_ret3
    have e3:=H.out.1
    rw [c8w] at e3
    unfold BestPost
    rw [e3]
    exact ⟨B,cb,rfl,H.out.2.1,H.out.2.2⟩
theorem BestPost.out {b : List Int} {w : World} {e : Ending} {w' : World} (h : BestPost b w e w') (hb : Bytes b) : ∃ A c,e = .returned (.tuple #[.int .i64 (bestP b).1,.slice A (bestP b).2.length c,.int .i64 0]) /\ BSl w' A c (bestP b).2 /\ Below w.heap.size w w':=by
 obtain ⟨A,c,he,hr,hbl⟩:=h
 exact ⟨A,c,he,BSl.of hr (a6c hb),hbl⟩
theorem or_4 {k : Nat} (h : k <= 3) : bits .or .i64 (k : Int) 4 = ((k + 4 : Nat) : Int):=by
 have h1:=b6P k 4 (by omega) (by decide)
 have h2 : k ||| 4 = k + 4:=by
  have : k = 0 \/ k = 1 \/ k = 2 \/ k = 3:=by omega
  rcases this with rfl | rfl | rfl | rfl <;> rfl
 rw [h2] at h1; exact h1
structure PutF (k kk sm : Nat) (x e1 e2 e3 B : List Int) : Prop where
 kk7 : kk <= 7
 sm' : sm = a0I 0 x
 e1l : e1.length = 3
 e2l : e2.length = 3
 e3l : e3.length = 4
 all : B = (([(kk : Int)] ++ e1) ++ e2) ++ e3 ++ x
theorem putF {b : List Int} (hl : b.length <= 40000) (last : Bool) : ∃ k kk sm : Nat,(bestP b).1 = k /\ k <= 3 /\ kk = k + (if last then 4 else 0) /\ sm < 4294967296 /\ PutF k kk sm (bestP b).2 (leN b.length 3) (leN (bestP b).2.length 3) (leN sm 4) (putM b last):=by
 obtain ⟨k,hk,hk3⟩:=b0z (b:=b) (by omega)
 have hcl:=a4X 0 (bestP b).2
 refine ⟨k,_,a0I 0 (bestP b).2,hk,hk3,rfl,by omega,by split <;> omega,rfl,a1R _ _,a1R _ _,a1R _ _,?_⟩
 unfold putM
 rw [hk]
 cases last <;> simp
set_option maxRecDepth 100000 in
set_option maxHeartbeats 2000000 in
theorem c8A (A : Option Addr) (c : Nat) (b : List Int) (w : World) (hr : (Kd.int .u8).C w A b.length b) (hb : Bytes b) (hl : b.length <= 40000) (h0 : 0 < b.length) :
    Calls Tryz.prog 33 #[.slice A b.length c,.bool false] w (Told 0 (putM b false) w):=by
 have d1 : decide ((131072 : Int) < (b.length : Int)) = false:=decide_eq_false (by omega)
 have hn0 : ((b.length : Int) == 0) = false:=by simp; intro e; subst e; simp at h0
 have HBest:=Lib.hid (a5s A c b w hr hb hl)
 have HBy:=Lib.hid (a6c hb)
 have hbl:=a2H b
 obtain ⟨k,kk,sm,hk,hk3,hkk,hsm4,hF⟩:=putF hl false
 have HF:=Lib.hid hF
 obtain ⟨x,hx⟩ : ∃ x,x = (bestP b).2:=⟨_,rfl⟩
 unfold BestPost at HBest
 rw [hk,<- hx] at HBest
 rw [<- hx] at HBy hbl HF
 have hxl : x.length <= 40000:=by omega
 have hw1 : IntKind.u32.wrap (b.length : Int) = (b.length : Int):=by rw [IntKind.wrap_u32']; omega
 have hw2 : IntKind.u32.wrap (x.length : Int) = (x.length : Int):=by rw [IntKind.wrap_u32']; omega
 have hkk7:=hF.kk7
 have hw3 : IntKind.u8.wrap (kk : Int) = (kk : Int):=by rw [IntKind.wrap_u8']; omega
 have HLit1:=Lib.hid (λ W : World=>a3s b.length 3 W (by omega) (by decide))
 have HLit2:=Lib.hid (λ W : World=>a3s x.length 3 W (by omega) (by decide))
 have HLit3:=Lib.hid (λ W : World=>a3s sm 4 W hsm4 (by decide))
 obtain ⟨e1,he1⟩ : ∃ l,l = leN b.length 3:=⟨_,rfl⟩
 obtain ⟨e2,he2⟩ : ∃ l,l = leN x.length 3:=⟨_,rfl⟩
 obtain ⟨e3,he3⟩ : ∃ l,l = leN sm 4:=⟨_,rfl⟩
 rw [<- he1] at HF HLit1
 rw [<- he2] at HF HLit2
 rw [<- he3] at HF HLit3
 have hk2 : kk = k:=by rw [hkk]; rfl
 subst hk2
 obtain ⟨B,hB⟩ : ∃ l,l = putM b false:=⟨_,rfl⟩
 rw [<- hB] at HF ⊢
 have HXl:=Lib.hid hxl
 clear hr hb hk hk3 hkk hx he1 he2 he3 hl hbl hkk7 hsm4 hF hB
 go_enter Tryz.func33,Tryz.ntmps33
 go_wp2_with fail
 refine HBest.out.mono ?_
 rintro e w1 ⟨Ax,cx,rfl,hvx,hb1⟩
 have HX1:=Lib.hid (Kd.R_reads' hvx).2.2
 have HB1:=Lib.hid hb1
 have hbl2 : Below w1.heap.size w1 (w1.alloc (.cells #[.int .u8 (kk : Int)] 5)):=(Below.refl _ _).alloc (Nat.le_refl _) _
 have HO1 : Hid ((Kd.int .u8).R 5 (w1.alloc (.cells #[.int .u8 (kk : Int)] 5)) w1.heap.size (λ _=>True) (.slice (some ⟨w1.heap.size,0,none⟩) 1 1) [(kk : Int)]):=Lib.hid (a2i .u8 5 w1 w1.heap.size (λ _=>True) trivial (Nat.le_refl _) [(kk : Int)] (by simp))
 have HBl2:=Lib.hid hbl2
 clear hvx hb1 hbl2
 go_wp2_with fail
 refine (HLit1.out _).mono ?_
 rintro e w2 ⟨v2,rfl,hv2,hb2⟩
 obtain ⟨A2,c2,rfl⟩:=Kd.R_slice hv2
 have HO2:=Lib.hid (Kd.R_below HO1.out hb2)
 have HD2 : Hid ((Kd.int .u8).C w2 A2 3 e1):=Lib.hid (by have:=(Kd.R_reads' hv2).2.2; rw [HF.out.e1l] at this; exact this)
 have HB2:=Lib.hid (a0h HBl2.out hb2)
 have HS2:=Lib.hid (a0h HBl2.out hb2).size
 have HN2 : Hid (([(kk : Int)].length + 3) * 1 <= 140737488355328):=Lib.hid (by simp)
 have HZ2 : Hid (([(kk : Int)] ++ e1).length = 4):=Lib.hid (by rw [List.length_append,HF.out.e1l]; rfl)
 rw [HF.out.e1l]
 clear hv2 hb2
 go_wp2_with (at_builtin; refine Kd.R_append_rows (Kd.int .u8) (Rr:=(Kd.int .u8).K w2) (w0:=w1) (W:=w2) w1.heap.size rfl (.tmp 33) (.tmp 37) 22 5 (.int .u8 0) 1 rfl Tryz.underlying22 a0C rfl (by decide) (by decide) (.slice (some ⟨w1.heap.size,0,none⟩) 1 1) ([(kk : Int)]) (e1) A2 3 c2 (λ _=>True) (λ _=>False) rfl rfl HO2.out HD2.out (λ _ _ h=>h) (λ _ h=>h.elim) (λ _ _=>trivial) HB2.out HS2.out HN2.out ?_; intro v3 w3 hr3 hb3 hg3 hat3; obtain ⟨A3,c3,rfl⟩:=Kd.R_slice hr3; rw [HZ2.out] at hr3 ⊢; have HR3:=Lib.hid (And.intro hr3 hb3); clear hr3 hb3 hg3 hat3)
 obtain ⟨L1,hL1⟩ : ∃ l,l = [(kk : Int)] ++ e1:=⟨_,rfl⟩
 rw [<- hL1] at HR3 HZ2
 have HL1:=Lib.hid hL1
 clear hL1
 refine (HLit2.out _).mono ?_
 rintro e w4 ⟨v4,rfl,hv4,hb4⟩
 obtain ⟨A4,c4,rfl⟩:=Kd.R_slice hv4
 have HO4:=Lib.hid (Kd.R_below HR3.out.1 hb4)
 have HD4 : Hid ((Kd.int .u8).C w4 A4 3 e2):=Lib.hid (by have:=(Kd.R_reads' hv4).2.2; rw [HF.out.e2l] at this; exact this)
 have HB4:=Lib.hid (HR3.out.2.trans (hb4.mono HR3.out.2.size))
 have HS4:=Lib.hid HB4.out.size
 have HN4 : Hid ((L1.length + 3) * 1 <= 140737488355328):=Lib.hid (by rw [HZ2.out]; decide)
 have HZ4 : Hid ((L1 ++ e2).length = 7):=Lib.hid (by rw [List.length_append,HZ2.out,HF.out.e2l])
 rw [HF.out.e2l]
 clear hv4 hb4
 go_wp2_with (at_builtin; refine Kd.R_append_rows (Kd.int .u8) (Rr:=(Kd.int .u8).K w4) (w0:=w1) (W:=w4) w1.heap.size rfl (.tmp 39) (.tmp 43) 22 5 (.int .u8 0) 1 rfl Tryz.underlying22 a0C rfl (by decide) (by decide) (.slice A3 4 c3) (L1) (e2) A4 3 c4 (λ _=>True) (λ _=>False) rfl rfl HO4.out HD4.out (λ _ _ h=>h) (λ _ h=>h.elim) (λ _ _=>trivial) HB4.out HS4.out HN4.out ?_; intro v5 w5 hr5 hb5 hg5 hat5; obtain ⟨A5,c5,rfl⟩:=Kd.R_slice hr5; rw [HZ4.out] at hr5 ⊢; have HR5:=Lib.hid (And.intro hr5 hb5); clear hr5 hb5 hg5 hat5)
 obtain ⟨L2,hL2⟩ : ∃ l,l = L1 ++ e2:=⟨_,rfl⟩
 rw [<- hL2] at HR5 HZ4
 have HL2:=Lib.hid hL2
 clear hL2
 refine (a4r w5).mono ?_
 rintro e w6 ⟨p,rfl,hp6,ht6,hb6⟩
 have HT6:=Lib.hid ht6
 have HB6:=Lib.hid (HR5.out.2.trans (hb6.mono HR5.out.2.size))
 have HO6:=Lib.hid (Kd.R_below HR5.out.1 hb6)
 have HX6:=Lib.hid (Kd.C_below HX1.out HB6.out)
 have HCr:=Lib.hid (a6a p Ax cx x w6 HT6.out HX6.out (by have:=HXl.out; omega) HBy.out)
 rw [<- HF.out.sm'] at HCr
 clear hp6 ht6 hb6
 go_wp2_with fail
 refine HCr.out.mono ?_
 rintro e w6' ⟨rfl,rfl⟩
 go_wp2_with fail
 refine (HLit3.out _).mono ?_
 rintro e w7 ⟨v7,rfl,hv7,hb7⟩
 obtain ⟨A7,c7,rfl⟩:=Kd.R_slice hv7
 have HO7:=Lib.hid (Kd.R_below HO6.out hb7)
 have HD7 : Hid ((Kd.int .u8).C w7 A7 4 e3):=Lib.hid (by have:=(Kd.R_reads' hv7).2.2; rw [HF.out.e3l] at this; exact this)
 have HB7:=Lib.hid (HB6.out.trans (hb7.mono HB6.out.size))
 have HS7:=Lib.hid HB7.out.size
 have HN7 : Hid ((L2.length + 4) * 1 <= 140737488355328):=Lib.hid (by rw [HZ4.out]; decide)
 have HZ7 : Hid ((L2 ++ e3).length = 11):=Lib.hid (by rw [List.length_append,HZ4.out,HF.out.e3l])
 have HALL : Hid (L2 ++ e3 ++ x = B):=Lib.hid (by rw [HL2.out,HL1.out]; exact HF.out.all.symm)
 rw [HF.out.e3l]
 clear hv7 hb7
 go_wp2_with (at_builtin; first
  | (refine Kd.R_append_rows (Kd.int .u8) (Rr:=(Kd.int .u8).K w7) (w0:=w1) (W:=w7) w1.heap.size rfl (.tmp 45) (.tmp 49) 22 5 (.int .u8 0) 1 rfl Tryz.underlying22 a0C rfl (by decide) (by decide) (.slice A5 7 c5) (L2) (e3) A7 4 c7 (λ _=>True) (λ _=>False) rfl rfl HO7.out HD7.out (λ _ _ h=>h) (λ _ h=>h.elim) (λ _ _=>trivial) HB7.out HS7.out HN7.out ?_; intro v8 w8 hr8 hb8 hg8 hat8; obtain ⟨A8,c8,rfl⟩:=Kd.R_slice hr8; rw [HZ7.out] at hr8 ⊢; have HR8:=Lib.hid (And.intro hr8 hb8); clear hr8 hb8 hg8 hat8; have HS8:=Lib.hid HR8.out.2.size; have HX8:=Lib.hid (Kd.C_below HX1.out HR8.out.2); have HN8 : Hid (((L2 ++ e3).length + x.length) * 1 <= 140737488355328):=Lib.hid (by rw [HZ7.out]; have:=HXl.out; omega))
  | (refine Kd.R_append_rows (Kd.int .u8) (Rr:=(Kd.int .u8).K w8) (w0:=w1) (W:=w8) w1.heap.size rfl (.tmp 51) (.tmp 52) 22 5 (.int .u8 0) 1 rfl Tryz.underlying22 a0C rfl (by decide) (by decide) (.slice A8 11 c8) (L2 ++ e3) x Ax x.length cx (λ _=>True) (λ _=>False) rfl rfl HR8.out.1 HX8.out (λ _ _ h=>h) (λ _ h=>h.elim) (λ _ _=>trivial) HR8.out.2 HS8.out HN8.out ?_; intro v9 w9 hr9 hb9 hg9 hat9; rw [HALL.out] at hr9; obtain ⟨A9,c9,rfl⟩:=Kd.R_slice hr9; have HR9:=Lib.hid (And.intro hr9 hb9); clear hr9 hb9 hg9 hat9))
 go_ret2
 exact ⟨A9,c9,rfl,Kd.R_lower HR9.out.1 HB1.out.size,a0h HB1.out HR9.out.2⟩
set_option maxRecDepth 100000 in
set_option maxHeartbeats 2000000 in
theorem c8B (A : Option Addr) (c : Nat) (b : List Int) (w : World) (hr : (Kd.int .u8).C w A b.length b) (hb : Bytes b) (hl : b.length <= 40000) (h0 : 0 < b.length) :
    Calls Tryz.prog 33 #[.slice A b.length c,.bool true] w (Told 0 (putM b true) w):=by
 have d1 : decide ((131072 : Int) < (b.length : Int)) = false:=decide_eq_false (by omega)
 have hn0 : ((b.length : Int) == 0) = false:=by simp; intro e; subst e; simp at h0
 have HBest:=Lib.hid (a5s A c b w hr hb hl)
 have HBy:=Lib.hid (a6c hb)
 have hbl:=a2H b
 obtain ⟨k,kk,sm,hk,hk3,hkk,hsm4,hF⟩:=putF hl true
 have HF:=Lib.hid hF
 obtain ⟨x,hx⟩ : ∃ x,x = (bestP b).2:=⟨_,rfl⟩
 unfold BestPost at HBest
 rw [hk,<- hx] at HBest
 rw [<- hx] at HBy hbl HF
 have hxl : x.length <= 40000:=by omega
 have hw1 : IntKind.u32.wrap (b.length : Int) = (b.length : Int):=by rw [IntKind.wrap_u32']; omega
 have hw2 : IntKind.u32.wrap (x.length : Int) = (x.length : Int):=by rw [IntKind.wrap_u32']; omega
 have hkk7:=hF.kk7
 have hw3 : IntKind.u8.wrap (kk : Int) = (kk : Int):=by rw [IntKind.wrap_u8']; omega
 have HLit1:=Lib.hid (λ W : World=>a3s b.length 3 W (by omega) (by decide))
 have HLit2:=Lib.hid (λ W : World=>a3s x.length 3 W (by omega) (by decide))
 have HLit3:=Lib.hid (λ W : World=>a3s sm 4 W hsm4 (by decide))
 obtain ⟨e1,he1⟩ : ∃ l,l = leN b.length 3:=⟨_,rfl⟩
 obtain ⟨e2,he2⟩ : ∃ l,l = leN x.length 3:=⟨_,rfl⟩
 obtain ⟨e3,he3⟩ : ∃ l,l = leN sm 4:=⟨_,rfl⟩
 rw [<- he1] at HF HLit1
 rw [<- he2] at HF HLit2
 rw [<- he3] at HF HLit3
 have hor : bits .or .i64 (k : Int) 4 = (kk : Int):=by rw [hkk]; exact or_4 hk3
 obtain ⟨B,hB⟩ : ∃ l,l = putM b true:=⟨_,rfl⟩
 rw [<- hB] at HF ⊢
 have HXl:=Lib.hid hxl
 clear hr hb hk hk3 hkk hx he1 he2 he3 hl hbl hkk7 hsm4 hF hB
 go_enter Tryz.func33,Tryz.ntmps33
 go_wp2_with fail
 refine HBest.out.mono ?_
 rintro e w1 ⟨Ax,cx,rfl,hvx,hb1⟩
 have HX1:=Lib.hid (Kd.R_reads' hvx).2.2
 have HB1:=Lib.hid hb1
 have hbl2 : Below w1.heap.size w1 (w1.alloc (.cells #[.int .u8 (kk : Int)] 5)):=(Below.refl _ _).alloc (Nat.le_refl _) _
 have HO1 : Hid ((Kd.int .u8).R 5 (w1.alloc (.cells #[.int .u8 (kk : Int)] 5)) w1.heap.size (λ _=>True) (.slice (some ⟨w1.heap.size,0,none⟩) 1 1) [(kk : Int)]):=Lib.hid (a2i .u8 5 w1 w1.heap.size (λ _=>True) trivial (Nat.le_refl _) [(kk : Int)] (by simp))
 have HBl2:=Lib.hid hbl2
 clear hvx hb1 hbl2
 go_wp2_with fail
 refine (HLit1.out _).mono ?_
 rintro e w2 ⟨v2,rfl,hv2,hb2⟩
 obtain ⟨A2,c2,rfl⟩:=Kd.R_slice hv2
 have HO2:=Lib.hid (Kd.R_below HO1.out hb2)
 have HD2 : Hid ((Kd.int .u8).C w2 A2 3 e1):=Lib.hid (by have:=(Kd.R_reads' hv2).2.2; rw [HF.out.e1l] at this; exact this)
 have HB2:=Lib.hid (a0h HBl2.out hb2)
 have HS2:=Lib.hid (a0h HBl2.out hb2).size
 have HN2 : Hid (([(kk : Int)].length + 3) * 1 <= 140737488355328):=Lib.hid (by simp)
 have HZ2 : Hid (([(kk : Int)] ++ e1).length = 4):=Lib.hid (by rw [List.length_append,HF.out.e1l]; rfl)
 rw [HF.out.e1l]
 clear hv2 hb2
 go_wp2_with (at_builtin; refine Kd.R_append_rows (Kd.int .u8) (Rr:=(Kd.int .u8).K w2) (w0:=w1) (W:=w2) w1.heap.size rfl (.tmp 33) (.tmp 37) 22 5 (.int .u8 0) 1 rfl Tryz.underlying22 a0C rfl (by decide) (by decide) (.slice (some ⟨w1.heap.size,0,none⟩) 1 1) ([(kk : Int)]) (e1) A2 3 c2 (λ _=>True) (λ _=>False) rfl rfl HO2.out HD2.out (λ _ _ h=>h) (λ _ h=>h.elim) (λ _ _=>trivial) HB2.out HS2.out HN2.out ?_; intro v3 w3 hr3 hb3 hg3 hat3; obtain ⟨A3,c3,rfl⟩:=Kd.R_slice hr3; rw [HZ2.out] at hr3 ⊢; have HR3:=Lib.hid (And.intro hr3 hb3); clear hr3 hb3 hg3 hat3)
 obtain ⟨L1,hL1⟩ : ∃ l,l = [(kk : Int)] ++ e1:=⟨_,rfl⟩
 rw [<- hL1] at HR3 HZ2
 have HL1:=Lib.hid hL1
 clear hL1
 refine (HLit2.out _).mono ?_
 rintro e w4 ⟨v4,rfl,hv4,hb4⟩
 obtain ⟨A4,c4,rfl⟩:=Kd.R_slice hv4
 have HO4:=Lib.hid (Kd.R_below HR3.out.1 hb4)
 have HD4 : Hid ((Kd.int .u8).C w4 A4 3 e2):=Lib.hid (by have:=(Kd.R_reads' hv4).2.2; rw [HF.out.e2l] at this; exact this)
 have HB4:=Lib.hid (HR3.out.2.trans (hb4.mono HR3.out.2.size))
 have HS4:=Lib.hid HB4.out.size
 have HN4 : Hid ((L1.length + 3) * 1 <= 140737488355328):=Lib.hid (by rw [HZ2.out]; decide)
 have HZ4 : Hid ((L1 ++ e2).length = 7):=Lib.hid (by rw [List.length_append,HZ2.out,HF.out.e2l])
 rw [HF.out.e2l]
 clear hv4 hb4
 go_wp2_with (at_builtin; refine Kd.R_append_rows (Kd.int .u8) (Rr:=(Kd.int .u8).K w4) (w0:=w1) (W:=w4) w1.heap.size rfl (.tmp 39) (.tmp 43) 22 5 (.int .u8 0) 1 rfl Tryz.underlying22 a0C rfl (by decide) (by decide) (.slice A3 4 c3) (L1) (e2) A4 3 c4 (λ _=>True) (λ _=>False) rfl rfl HO4.out HD4.out (λ _ _ h=>h) (λ _ h=>h.elim) (λ _ _=>trivial) HB4.out HS4.out HN4.out ?_; intro v5 w5 hr5 hb5 hg5 hat5; obtain ⟨A5,c5,rfl⟩:=Kd.R_slice hr5; rw [HZ4.out] at hr5 ⊢; have HR5:=Lib.hid (And.intro hr5 hb5); clear hr5 hb5 hg5 hat5)
 obtain ⟨L2,hL2⟩ : ∃ l,l = L1 ++ e2:=⟨_,rfl⟩
 rw [<- hL2] at HR5 HZ4
 have HL2:=Lib.hid hL2
 clear hL2
 refine (a4r w5).mono ?_
 rintro e w6 ⟨p,rfl,hp6,ht6,hb6⟩
 have HT6:=Lib.hid ht6
 have HB6:=Lib.hid (HR5.out.2.trans (hb6.mono HR5.out.2.size))
 have HO6:=Lib.hid (Kd.R_below HR5.out.1 hb6)
 have HX6:=Lib.hid (Kd.C_below HX1.out HB6.out)
 have HCr:=Lib.hid (a6a p Ax cx x w6 HT6.out HX6.out (by have:=HXl.out; omega) HBy.out)
 rw [<- HF.out.sm'] at HCr
 clear hp6 ht6 hb6
 go_wp2_with fail
 refine HCr.out.mono ?_
 rintro e w6' ⟨rfl,rfl⟩
 go_wp2_with fail
 refine (HLit3.out _).mono ?_
 rintro e w7 ⟨v7,rfl,hv7,hb7⟩
 obtain ⟨A7,c7,rfl⟩:=Kd.R_slice hv7
 have HO7:=Lib.hid (Kd.R_below HO6.out hb7)
 have HD7 : Hid ((Kd.int .u8).C w7 A7 4 e3):=Lib.hid (by have:=(Kd.R_reads' hv7).2.2; rw [HF.out.e3l] at this; exact this)
 have HB7:=Lib.hid (HB6.out.trans (hb7.mono HB6.out.size))
 have HS7:=Lib.hid HB7.out.size
 have HN7 : Hid ((L2.length + 4) * 1 <= 140737488355328):=Lib.hid (by rw [HZ4.out]; decide)
 have HZ7 : Hid ((L2 ++ e3).length = 11):=Lib.hid (by rw [List.length_append,HZ4.out,HF.out.e3l])
 have HALL : Hid (L2 ++ e3 ++ x = B):=Lib.hid (by rw [HL2.out,HL1.out]; exact HF.out.all.symm)
 rw [HF.out.e3l]
 clear hv7 hb7
 go_wp2_with (at_builtin; first
  | (refine Kd.R_append_rows (Kd.int .u8) (Rr:=(Kd.int .u8).K w7) (w0:=w1) (W:=w7) w1.heap.size rfl (.tmp 45) (.tmp 49) 22 5 (.int .u8 0) 1 rfl Tryz.underlying22 a0C rfl (by decide) (by decide) (.slice A5 7 c5) (L2) (e3) A7 4 c7 (λ _=>True) (λ _=>False) rfl rfl HO7.out HD7.out (λ _ _ h=>h) (λ _ h=>h.elim) (λ _ _=>trivial) HB7.out HS7.out HN7.out ?_; intro v8 w8 hr8 hb8 hg8 hat8; obtain ⟨A8,c8,rfl⟩:=Kd.R_slice hr8; rw [HZ7.out] at hr8 ⊢; have HR8:=Lib.hid (And.intro hr8 hb8); clear hr8 hb8 hg8 hat8; have HS8:=Lib.hid HR8.out.2.size; have HX8:=Lib.hid (Kd.C_below HX1.out HR8.out.2); have HN8 : Hid (((L2 ++ e3).length + x.length) * 1 <= 140737488355328):=Lib.hid (by rw [HZ7.out]; have:=HXl.out; omega))
  | (refine Kd.R_append_rows (Kd.int .u8) (Rr:=(Kd.int .u8).K w8) (w0:=w1) (W:=w8) w1.heap.size rfl (.tmp 51) (.tmp 52) 22 5 (.int .u8 0) 1 rfl Tryz.underlying22 a0C rfl (by decide) (by decide) (.slice A8 11 c8) (L2 ++ e3) x Ax x.length cx (λ _=>True) (λ _=>False) rfl rfl HR8.out.1 HX8.out (λ _ _ h=>h) (λ _ h=>h.elim) (λ _ _=>trivial) HR8.out.2 HS8.out HN8.out ?_; intro v9 w9 hr9 hb9 hg9 hat9; rw [HALL.out] at hr9; obtain ⟨A9,c9,rfl⟩:=Kd.R_slice hr9; have HR9:=Lib.hid (And.intro hr9 hb9); clear hr9 hb9 hg9 hat9))
 go_ret2
 exact ⟨A9,c9,rfl,Kd.R_lower HR9.out.1 HB1.out.size,a0h HB1.out HR9.out.2⟩
set_option maxRecDepth 100000 in
set_option maxHeartbeats 2000000 in
theorem c8C (A : Option Addr) (c : Nat) (b : List Int) (w : World) (hr : (Kd.int .u8).C w A b.length b) (hb : Bytes b) (hl : b.length <= 40000) (h0 : b = []) :
    Calls Tryz.prog 33 #[.slice A 0 c,.bool true] w (Told 0 (putM b true) w):=by
 have hb0 : b.length = 0:=by rw [h0]; rfl
 have HBest:=Lib.hid (a5s A c b w hr hb hl)
 have HBy:=Lib.hid (a6c hb)
 have hbl:=a2H b
 obtain ⟨k,kk,sm,hk,hk3,hkk,hsm4,hF⟩:=putF hl true
 have HF:=Lib.hid hF
 obtain ⟨x,hx⟩ : ∃ x,x = (bestP b).2:=⟨_,rfl⟩
 unfold BestPost at HBest
 rw [hb0] at HBest
 rw [hk,<- hx] at HBest
 rw [<- hx] at HBy hbl HF
 have hxl : x.length <= 40000:=by omega
 have hw2 : IntKind.u32.wrap (x.length : Int) = (x.length : Int):=by rw [IntKind.wrap_u32']; omega
 have hkk7:=hF.kk7
 have hw3 : IntKind.u8.wrap (kk : Int) = (kk : Int):=by rw [IntKind.wrap_u8']; omega
 have HLit1:=Lib.hid (λ W : World=>a3s b.length 3 W (by omega) (by decide))
 rw [hb0] at HLit1 HF
 have HLit2:=Lib.hid (λ W : World=>a3s x.length 3 W (by omega) (by decide))
 have HLit3:=Lib.hid (λ W : World=>a3s sm 4 W hsm4 (by decide))
 obtain ⟨e1,he1⟩ : ∃ l,l = leN 0 3:=⟨_,rfl⟩
 obtain ⟨e2,he2⟩ : ∃ l,l = leN x.length 3:=⟨_,rfl⟩
 obtain ⟨e3,he3⟩ : ∃ l,l = leN sm 4:=⟨_,rfl⟩
 rw [<- he1] at HF HLit1
 rw [<- he2] at HF HLit2
 rw [<- he3] at HF HLit3
 have hor : bits .or .i64 (k : Int) 4 = (kk : Int):=by rw [hkk]; exact or_4 hk3
 obtain ⟨B,hB⟩ : ∃ l,l = putM b true:=⟨_,rfl⟩
 rw [<- hB] at HF ⊢
 have HXl:=Lib.hid hxl
 clear hr hb hk hk3 hkk hx he1 he2 he3 hl hbl hkk7 hsm4 hF hB
 go_enter Tryz.func33,Tryz.ntmps33
 go_wp2_with fail
 refine HBest.out.mono ?_
 rintro e w1 ⟨Ax,cx,rfl,hvx,hb1⟩
 have HX1:=Lib.hid (Kd.R_reads' hvx).2.2
 have HB1:=Lib.hid hb1
 have hbl2 : Below w1.heap.size w1 (w1.alloc (.cells #[.int .u8 (kk : Int)] 5)):=(Below.refl _ _).alloc (Nat.le_refl _) _
 have HO1 : Hid ((Kd.int .u8).R 5 (w1.alloc (.cells #[.int .u8 (kk : Int)] 5)) w1.heap.size (λ _=>True) (.slice (some ⟨w1.heap.size,0,none⟩) 1 1) [(kk : Int)]):=Lib.hid (a2i .u8 5 w1 w1.heap.size (λ _=>True) trivial (Nat.le_refl _) [(kk : Int)] (by simp))
 have HBl2:=Lib.hid hbl2
 clear hvx hb1 hbl2
 go_wp2_with fail
 refine (HLit1.out _).mono ?_
 rintro e w2 ⟨v2,rfl,hv2,hb2⟩
 obtain ⟨A2,c2,rfl⟩:=Kd.R_slice hv2
 have HO2:=Lib.hid (Kd.R_below HO1.out hb2)
 have HD2 : Hid ((Kd.int .u8).C w2 A2 3 e1):=Lib.hid (by have:=(Kd.R_reads' hv2).2.2; rw [HF.out.e1l] at this; exact this)
 have HB2:=Lib.hid (a0h HBl2.out hb2)
 have HS2:=Lib.hid (a0h HBl2.out hb2).size
 have HN2 : Hid (([(kk : Int)].length + 3) * 1 <= 140737488355328):=Lib.hid (by simp)
 have HZ2 : Hid (([(kk : Int)] ++ e1).length = 4):=Lib.hid (by rw [List.length_append,HF.out.e1l]; rfl)
 rw [HF.out.e1l]
 clear hv2 hb2
 go_wp2_with (at_builtin; refine Kd.R_append_rows (Kd.int .u8) (Rr:=(Kd.int .u8).K w2) (w0:=w1) (W:=w2) w1.heap.size rfl (.tmp 33) (.tmp 37) 22 5 (.int .u8 0) 1 rfl Tryz.underlying22 a0C rfl (by decide) (by decide) (.slice (some ⟨w1.heap.size,0,none⟩) 1 1) ([(kk : Int)]) (e1) A2 3 c2 (λ _=>True) (λ _=>False) rfl rfl HO2.out HD2.out (λ _ _ h=>h) (λ _ h=>h.elim) (λ _ _=>trivial) HB2.out HS2.out HN2.out ?_; intro v3 w3 hr3 hb3 hg3 hat3; obtain ⟨A3,c3,rfl⟩:=Kd.R_slice hr3; rw [HZ2.out] at hr3 ⊢; have HR3:=Lib.hid (And.intro hr3 hb3); clear hr3 hb3 hg3 hat3)
 obtain ⟨L1,hL1⟩ : ∃ l,l = [(kk : Int)] ++ e1:=⟨_,rfl⟩
 rw [<- hL1] at HR3 HZ2
 have HL1:=Lib.hid hL1
 clear hL1
 refine (HLit2.out _).mono ?_
 rintro e w4 ⟨v4,rfl,hv4,hb4⟩
 obtain ⟨A4,c4,rfl⟩:=Kd.R_slice hv4
 have HO4:=Lib.hid (Kd.R_below HR3.out.1 hb4)
 have HD4 : Hid ((Kd.int .u8).C w4 A4 3 e2):=Lib.hid (by have:=(Kd.R_reads' hv4).2.2; rw [HF.out.e2l] at this; exact this)
 have HB4:=Lib.hid (HR3.out.2.trans (hb4.mono HR3.out.2.size))
 have HS4:=Lib.hid HB4.out.size
 have HN4 : Hid ((L1.length + 3) * 1 <= 140737488355328):=Lib.hid (by rw [HZ2.out]; decide)
 have HZ4 : Hid ((L1 ++ e2).length = 7):=Lib.hid (by rw [List.length_append,HZ2.out,HF.out.e2l])
 rw [HF.out.e2l]
 clear hv4 hb4
 go_wp2_with (at_builtin; refine Kd.R_append_rows (Kd.int .u8) (Rr:=(Kd.int .u8).K w4) (w0:=w1) (W:=w4) w1.heap.size rfl (.tmp 39) (.tmp 43) 22 5 (.int .u8 0) 1 rfl Tryz.underlying22 a0C rfl (by decide) (by decide) (.slice A3 4 c3) (L1) (e2) A4 3 c4 (λ _=>True) (λ _=>False) rfl rfl HO4.out HD4.out (λ _ _ h=>h) (λ _ h=>h.elim) (λ _ _=>trivial) HB4.out HS4.out HN4.out ?_; intro v5 w5 hr5 hb5 hg5 hat5; obtain ⟨A5,c5,rfl⟩:=Kd.R_slice hr5; rw [HZ4.out] at hr5 ⊢; have HR5:=Lib.hid (And.intro hr5 hb5); clear hr5 hb5 hg5 hat5)
 obtain ⟨L2,hL2⟩ : ∃ l,l = L1 ++ e2:=⟨_,rfl⟩
 rw [<- hL2] at HR5 HZ4
 have HL2:=Lib.hid hL2
 clear hL2
 refine (a4r w5).mono ?_
 rintro e w6 ⟨p,rfl,hp6,ht6,hb6⟩
 have HT6:=Lib.hid ht6
 have HB6:=Lib.hid (HR5.out.2.trans (hb6.mono HR5.out.2.size))
 have HO6:=Lib.hid (Kd.R_below HR5.out.1 hb6)
 have HX6:=Lib.hid (Kd.C_below HX1.out HB6.out)
 have HCr:=Lib.hid (a6a p Ax cx x w6 HT6.out HX6.out (by have:=HXl.out; omega) HBy.out)
 rw [<- HF.out.sm'] at HCr
 clear hp6 ht6 hb6
 go_wp2_with fail
 refine HCr.out.mono ?_
 rintro e w6' ⟨rfl,rfl⟩
 go_wp2_with fail
 refine (HLit3.out _).mono ?_
 rintro e w7 ⟨v7,rfl,hv7,hb7⟩
 obtain ⟨A7,c7,rfl⟩:=Kd.R_slice hv7
 have HO7:=Lib.hid (Kd.R_below HO6.out hb7)
 have HD7 : Hid ((Kd.int .u8).C w7 A7 4 e3):=Lib.hid (by have:=(Kd.R_reads' hv7).2.2; rw [HF.out.e3l] at this; exact this)
 have HB7:=Lib.hid (HB6.out.trans (hb7.mono HB6.out.size))
 have HS7:=Lib.hid HB7.out.size
 have HN7 : Hid ((L2.length + 4) * 1 <= 140737488355328):=Lib.hid (by rw [HZ4.out]; decide)
 have HZ7 : Hid ((L2 ++ e3).length = 11):=Lib.hid (by rw [List.length_append,HZ4.out,HF.out.e3l])
 have HALL : Hid (L2 ++ e3 ++ x = B):=Lib.hid (by rw [HL2.out,HL1.out]; exact HF.out.all.symm)
 rw [HF.out.e3l]
 clear hv7 hb7
 go_wp2_with (at_builtin; first
  | (refine Kd.R_append_rows (Kd.int .u8) (Rr:=(Kd.int .u8).K w7) (w0:=w1) (W:=w7) w1.heap.size rfl (.tmp 45) (.tmp 49) 22 5 (.int .u8 0) 1 rfl Tryz.underlying22 a0C rfl (by decide) (by decide) (.slice A5 7 c5) (L2) (e3) A7 4 c7 (λ _=>True) (λ _=>False) rfl rfl HO7.out HD7.out (λ _ _ h=>h) (λ _ h=>h.elim) (λ _ _=>trivial) HB7.out HS7.out HN7.out ?_; intro v8 w8 hr8 hb8 hg8 hat8; obtain ⟨A8,c8,rfl⟩:=Kd.R_slice hr8; rw [HZ7.out] at hr8 ⊢; have HR8:=Lib.hid (And.intro hr8 hb8); clear hr8 hb8 hg8 hat8; have HS8:=Lib.hid HR8.out.2.size; have HX8:=Lib.hid (Kd.C_below HX1.out HR8.out.2); have HN8 : Hid (((L2 ++ e3).length + x.length) * 1 <= 140737488355328):=Lib.hid (by rw [HZ7.out]; have:=HXl.out; omega))
  | (refine Kd.R_append_rows (Kd.int .u8) (Rr:=(Kd.int .u8).K w8) (w0:=w1) (W:=w8) w1.heap.size rfl (.tmp 51) (.tmp 52) 22 5 (.int .u8 0) 1 rfl Tryz.underlying22 a0C rfl (by decide) (by decide) (.slice A8 11 c8) (L2 ++ e3) x Ax x.length cx (λ _=>True) (λ _=>False) rfl rfl HR8.out.1 HX8.out (λ _ _ h=>h) (λ _ h=>h.elim) (λ _ _=>trivial) HR8.out.2 HS8.out HN8.out ?_; intro v9 w9 hr9 hb9 hg9 hat9; rw [HALL.out] at hr9; obtain ⟨A9,c9,rfl⟩:=Kd.R_slice hr9; have HR9:=Lib.hid (And.intro hr9 hb9); clear hr9 hb9 hg9 hat9))
 go_ret2
 exact ⟨A9,c9,rfl,Kd.R_lower HR9.out.1 HB1.out.size,a0h HB1.out HR9.out.2⟩
theorem a3O (A : Option Addr) (c : Nat) (b : List Int) (last : Bool) (w : World) (hr : (Kd.int .u8).C w A b.length b) (hb : Bytes b) (hl : b.length <= 40000) (h0 : last = true \/ 0 < b.length) :
    Calls Tryz.prog 33 #[.slice A b.length c,.bool last] w (Told 0 (putM b last) w):=by
 rcases Nat.eq_zero_or_pos b.length with hz | hz
 · obtain rfl : last = true:=by rcases h0 with h | h; (· exact h); (· omega)
   have:=c8C A c b w hr hb hl (List.eq_nil_of_length_eq_zero hz)
   rw [hz]; exact this
 · cases last with
   | false=>exact c8A A c b w hr hb hl hz
   | true=>exact c8B A c b w hr hb hl hz
end Go.Proofs.YtflfjpkmjnnodaaGreat
namespace Go.Proofs.YtflfjpkmjnnodaaGreat
open Go.RowKit
def headL (log : Nat) : List Int:=[80,78,67,72,1,(log : Int),0,0]
def tailL (x : List Int) : List Int:=leN (a0I 0 x) 4
def blksM (s : Nat) : Nat -> List Int -> List Int
 | 0,x=>putM x true
 | n + 1,x=>if s < x.length then putM (x.take s) false ++ blksM s n (x.drop s) else putM x true
def encM (x : List Int) (log : Nat) : List Int:=headL log ++ (blksM (2 ^ log) x.length x ++ tailL x)
def headE (i : Nat) (c : Int) : Int:=
 if i < 4 /\ c ≠ ([80,78,67,72] : List Int).getD i 0 then 8 else if i = 4 /\ c ≠ 1 then 9 else if i = 5 /\ ¬ (10 <= c /\ c <= 17) then 5 else if 5 < i /\ c ≠ 0 then 4 else 0
def headG (f : List Int) : Nat -> Nat -> Int
 | 0,_=>0
 | d + 1,i=>if f.length <= i then 3 else if headE i (f.getD i 0) ≠ 0 then headE i (f.getD i 0) else headG f d (i + 1)
def headM (f : List Int) : Int:=headG f 8 0
def a1j (f x : List Int) : Int:=if f.length < 4 then 3 else if f.take 4 ≠ tailL x then 15 else if 4 < f.length then 16 else 0
def preG : Nat -> List Int -> Int -> Bool -> Int -> List Int -> Int × List Int
 | 0,_,_,_,_,out=>(3,out)
 | n + 1,f,log,first,limit,out=>
  if (openM f log first limit).1 ≠ 0 then ((openM f log first limit).1,out) else
  if (openM f log first limit).2.2.2 = true then (a1j (f.drop (openM f log first limit).2.2.1) (out ++ (openM f log first limit).2.1),out ++ (openM f log first limit).2.1) else
  preG n (f.drop (openM f log first limit).2.2.1) log false (limit - (openM f log first limit).2.1.length) (out ++ (openM f log first limit).2.1)
def a0D (f : List Int) (limit : Int) : Int × List Int:=
 if limit < 0 then (1,[]) else if headM f ≠ 0 then (headM f,[]) else preG (f.length + 1) (f.drop 8) (f.getD 5 0) true limit []
def a1S (f : List Int) (limit : Int) : Int × List Int:=if (a0D f limit).1 ≠ 0 then ((a0D f limit).1,[]) else a0D f limit
def sizeG : Nat -> List Int -> Int -> Bool -> Int -> Nat -> Nat
 | 0,_,_,_,_,sum=>sum
 | n + 1,f,log,first,limit,sum=>
  if (scanM f log first (limit - sum)).1 ≠ 0 \/ f.length < 11 + (scanM f log first (limit - sum)).2.2.2.1 then sum else
  if (scanM f log first (limit - sum)).2.2.2.2.1 = true then sum + (scanM f log first (limit - sum)).2.2.1 else
  sizeG n (f.drop (11 + (scanM f log first (limit - sum)).2.2.2.1)) log false limit (sum + (scanM f log first (limit - sum)).2.2.1)
def sizeM (f : List Int) (limit : Int) : Nat:=if headM f ≠ 0 \/ limit < 0 then 0 else sizeG (f.length + 1) (f.drop 8) (f.getD 5 0) true limit 0
theorem best_nilP : (bestP ([] : List Int)).1 = 0 /\ (bestP ([] : List Int)).2 = []:=by
 have h : bestP ([] : List Int) = (0,[]):=by
  unfold bestP a0W
  simp
 rw [h]; exact ⟨rfl,rfl⟩
theorem a3b {b : List Int} {log : Nat} {first : Bool} (h : b.length = 2 ^ log) (k : Nat) : a1y (log : Int) first k b.length false = true:=by
 unfold a1y; rw [if_pos rfl,Int.toNat_natCast]; exact decide_eq_true h
theorem a3v {b : List Int} {log : Nat} {first : Bool} (h : b.length <= 2 ^ log) (h0 : b.length = 0 -> first = true) : ∀ k : Nat,k <= 3 -> (bestP b).1 = (k : Nat) -> a1y (log : Int) first k b.length true = true:=by
 intro k _ hk
 unfold a1y
 rw [if_neg (by simp)]
 by_cases e : b.length = 0
 · have hb : b = []:=List.eq_nil_of_length_eq_zero e
   rw [if_pos e,h0 e]
   subst hb
   rw [best_nilP.1] at hk
   have : k = 0:=by omega
   rw [this]; rfl
 · rw [if_neg e,Int.toNat_natCast]; exact decide_eq_true h
theorem a2L {b : List Int} (h : Bytes b) (k : Nat) : Bytes (b.take k):=λ x hx=>h x (List.mem_of_mem_take hx)
theorem a3P {b : List Int} (h : Bytes b) (k : Nat) : Bytes (b.drop k):=λ x hx=>h x (List.mem_of_mem_drop hx)
theorem a2M {a b : List Int} {n : Nat} (h : n = a.length) : (a ++ b).drop n = b:=by
 rw [h,List.drop_append_of_le_length (Nat.le_refl _),List.drop_of_length_le (Nat.le_refl _),List.nil_append]
theorem c8F {log : Nat} (hlog : 10 <= log /\ log <= 17) (tl : List Int) : ∀ (n : Nat) (x : List Int) (first : Bool) (limit : Int) (out : List Int) (k : Nat),Bytes x -> x.length <= 40000 -> x.length <= n -> (x.length = 0 -> first = true) -> (x.length : Int) <= limit -> (blksM (2 ^ log) n x ++ tl).length < k ->
    preG k (blksM (2 ^ log) n x ++ tl) log first limit out = (a1j tl (out ++ x),out ++ x):=by
 have lastc : ∀ (x : List Int) (first : Bool) (limit : Int) (out : List Int) (k : Nat),Bytes x -> x.length <= 40000 -> x.length <= 2 ^ log -> (x.length = 0 -> first = true) -> (x.length : Int) <= limit -> 0 < k -> preG k (putM x true ++ tl) log first limit out = (a1j tl (out ++ x),out ++ x):=by
  intro x first limit out k hb hl hs h0 hL hk
  obtain ⟨k,rfl⟩ : ∃ j,k = j + 1:=⟨k - 1,by omega⟩
  have ho:=a5m (m:=tl) hb hl (log:=(log : Int)) (by omega) hL (a3v hs h0)
  unfold preG
  rw [ho]
  dsimp only
  rw [if_neg (λ h=>h rfl),if_pos rfl,a2M (by rw [a0S])]
 have hp : 0 < 2 ^ log:=Nat.two_pow_pos log
 intro n
 induction n with
 | zero=>
  intro x first limit out k hb hl hn h0 hL hk
  exact lastc x first limit out k hb hl (by omega) h0 hL (by omega)
 | succ n ih=>
  intro x first limit out k hb hl hn h0 hL hk
  unfold blksM at hk ⊢
  by_cases h : 2 ^ log < x.length
  · rw [if_pos h] at hk ⊢
    rw [List.append_assoc] at hk ⊢
    obtain ⟨k,rfl⟩ : ∃ j,k = j + 1:=⟨k - 1,by omega⟩
    have hlt : (x.take (2 ^ log)).length = 2 ^ log:=by rw [List.length_take]; omega
    have ho:=a5m (m:=blksM (2 ^ log) n (x.drop (2 ^ log)) ++ tl) (a2L hb (2 ^ log)) (by omega) (log:=(log : Int)) (room:=limit) (first:=first) (last:=false) (by omega) (by omega) (λ k _ _=>a3b hlt k)
    unfold preG
    rw [ho]
    dsimp only
    rw [if_neg (λ h=>h rfl),if_neg (by simp),a2M (by rw [a0S])]
    have hd : (x.drop (2 ^ log)).length = x.length - 2 ^ log:=by rw [List.length_drop]
    rw [ih (x.drop (2 ^ log)) false (limit - ((x.take (2 ^ log)).length : Int)) (out ++ x.take (2 ^ log)) k (a3P hb _) (by omega) (by omega) (by omega) (by omega) (by rw [List.length_append,a0S] at hk; omega)]
    rw [List.append_assoc,List.take_append_drop]
  · rw [if_neg h] at hk ⊢
    exact lastc x first limit out k hb hl (by omega) h0 hL (by omega)
end Go.Proofs.YtflfjpkmjnnodaaGreat
