/- What a call leaves of the memory that was there; small words for contracts. No program in sight but the loaded one. -/
import Derived.Test.YtflfjpkmjnnodaaGreatProg
import Derived.WalkKit
import Derived.WalkSpells
import Derived.WalkLawsBesides
import Derived.Lib.Hide
import Derived.OpenShut
import Derived.BigQuiet
import Derived.Deep.QuietTactic
import Derived.Test.YtflfjpkmjnnodaaGreatHS1
import Derived.Deep.LoopGhost
import Derived.Deep.RegionHeld3
import Derived.Deep.DeepCutAuto
import Derived.ChangeKeysEq
import Derived.Deep.RegionLaw
import Derived.Laws.ResultCell
import Derived.Maps.OwnSet
import Derived.Maps.Views
import Derived.Carry
import Derived.Test.YtflfjpkmjnnodaaGreatHM0
import Derived.Laws.BitsLemmas
import Derived.Laws.Bits64
import Derived.BigRegion
import Derived.Laws.MakeOwn
import Derived.Outline
namespace Go.Proofs.YtflfjpkmjnnodaaGreat
open Go.RowKit Go.Proofs.YtflfjpkmjnnodaaGreatW.PrintWords
def Ret (v : Value) (w : World) (e : Ending) (w' : World) : Prop:=e = .returned v /\ Below w.heap.size w w'
theorem bcell {W w1 : World} (hb : Below W.heap.size W w1) : (∀ b o,b < W.heap.size -> w1.cell? ⟨b,o,none⟩ = W.cell? ⟨b,o,none⟩) /\ (∀ b o,b < W.heap.size -> w1.frozen? ⟨b,o,none⟩ = W.frozen? ⟨b,o,none⟩):=
 ⟨λ b o h=>hb.cell (p:=⟨b,o,none⟩) h,λ b o h=>hb.frozen (p:=⟨b,o,none⟩) h⟩
structure Only (S : Nat -> Prop) (w w' : World) : Prop where
 os : w'.os = w.os
 tape : w'.tape = w.tape
 output : w'.output = w.output
 size : w.heap.size <= w'.heap.size
 block : ∀ k,k < w.heap.size -> ¬ S k -> w'.heap[k]? = w.heap[k]?
theorem Only.refl (S : Nat -> Prop) (w : World) : Only S w w:=⟨rfl,rfl,rfl,Nat.le_refl _,λ _ _ _=>rfl⟩
theorem Only.trans {S : Nat -> Prop} {a b c : World} (h : Only S a b) (k : Only S b c) : Only S a c:=
 ⟨k.os.trans h.os,k.tape.trans h.tape,k.output.trans h.output,Nat.le_trans h.size k.size,λ i hi hs=>(k.block i (Nat.lt_of_lt_of_le hi h.size) hs).trans (h.block i hi hs)⟩
theorem Only.mono {S S' : Nat -> Prop} {a b : World} (h : Only S a b) (hs : ∀ k,k < a.heap.size -> S k -> S' k) : Only S' a b:=
 ⟨h.os,h.tape,h.output,h.size,λ k hk hn=>h.block k hk (λ x=>hn (hs k hk x))⟩
theorem Only.of_below {S : Nat -> Prop} {a b : World} (h : Below a.heap.size a b) : Only S a b:=⟨h.os,h.tape,h.output,h.size,λ k hk _=>h.block k hk⟩
theorem Only.below {S : Nat -> Prop} {a b : World} {B : Nat} (h : Only S a b) (hB : B <= a.heap.size) (hs : ∀ k,S k -> B <= k) : Below B a b:=
 ⟨h.os,h.tape,h.output,h.size,λ k hk=>h.block k (Nat.lt_of_lt_of_le hk hB) (λ x=>by have:=hs k x; omega)⟩
theorem Only.of_grown {S : Nat -> Prop} {a b : World} {row : Option Nat} (h : a.grownBy b row) (hs : ∀ k,row = some k -> S k) : Only S a b:=
 ⟨h.os,h.tape,h.output,h.size,λ k hk hn=>h.block k hk (λ e=>hn (hs k e.symm))⟩
theorem Only.setCell {S : Nat -> Prop} {a b : World} (h : Only S a b) {p : Addr} (hp : S p.block) (u : Value) : Only S a (b.setCell p u):=
 h.trans ⟨rfl,rfl,rfl,by simp [World.setCell],λ k _ hn=>Below.heap_setCell _ _ _ _ (λ e=>hn (e ▸ hp))⟩
theorem Only.alloc {S : Nat -> Prop} {a b : World} (h : Only S a b) (o : Obj) : Only S a (b.alloc o):=h.trans (Only.of_below ((Below.refl _ _).alloc (Nat.le_refl _) o))
theorem Only.drew {S : Nat -> Prop} {a b : World} (h : Only S a b) : Only S a b.drew:=⟨h.os,h.tape,h.output,h.size,h.block⟩
theorem Only.drewN {S : Nat -> Prop} {a b : World} (h : Only S a b) (n : Nat) : Only S a (b.drewN n):=⟨h.os,h.tape,h.output,h.size,h.block⟩
theorem Only.trans2 {S T : Nat -> Prop} {a b c : World} (h : Only S a b) (k : Only T b c) (hs : ∀ i,i < a.heap.size -> T i -> S i) : Only S a c:=
 ⟨k.os.trans h.os,k.tape.trans h.tape,k.output.trans h.output,Nat.le_trans h.size k.size,λ i hi hn=>(k.block i (Nat.lt_of_lt_of_le hi h.size) (λ x=>hn (hs i hi x))).trans (h.block i hi hn)⟩
theorem Only.set1 {a b : World} {g : Nat} (h : Only (λ k=>k = g) a b) (o : Nat) (u : Value) : Only (λ k=>k = g) a (b.setCell ⟨g,o,none⟩ u):=h.setCell (p:=⟨g,o,none⟩) rfl u
theorem a5i {P : Program} {ops : Array Oper} {o : Oper} {a : Act} {Q : Exit -> Act -> World -> Prop} {Kc : Act -> World -> Prop} {α : Type} (d : Kd α) {w0 W : World} (base : Nat) (hw : Region.wanted o (yielded ops a.tmps) = true) (s x : Operand) (t e : TypeId) (z : Value) (bytes : Nat)
    (ho : o.op = .call { callee:=.builtin .append,args:=#[s,x],argTypes:=#[t,t] })
    (ht : P.underlying t = some (.slice e)) (hinfo : (P.info? e).map (λ i=>(i.zero,i.size,i.bytes)) = some (some z,d.sz,bytes)) (hz : z.cells.size = d.sz) (hs0 : 0 < d.sz) (hb0 : 0 < bytes)
    (v : Value) (xs : List α) (p : α) (cs : List Value) (ok okp : Nat -> Prop) (hs : a.eval s = v) (hx : a.eval x = .slice (some ⟨W.heap.size,0,none⟩) 1 1) (hp : d.M W base okp p cs) (hokp : ∀ k,okp k -> ok k /\ some k ≠ v.ownBlock) (hfresh : ∀ k,W.heap.size <= k -> ok k)
    (HO : d.R e W base ok v xs) (HB : Below base w0 W) (hbase : base <= W.heap.size) (hl : (xs.length + 1) * bytes <= 140737488355328)
    (h : ∀ v1 w1,d.R e w1 base ok v1 (xs ++ [p]) -> Below base w0 w1 -> W.grownBy w1 v.ownBlock -> (v1.ownBlock = v.ownBlock \/ ∃ b,v1.ownBlock = some b /\ W.heap.size <= b) -> Kc (a.put o.dst v1) w1) :
    if Region.wanted o (yielded ops a.tmps) = true then Oper.wp P o a (W.alloc (.cells cs.toArray e)).drew Kc Q else Kc (a.put o.dst undef) (W.alloc (.cells cs.toArray e)).drew:=by
 have e1 : (W.alloc (.cells cs.toArray e)).drew = W.drew.alloc (.cells cs.toArray e):=rfl
 rw [e1]
 exact Kd.R_append_step d (W:=W.drew) (w0:=w0) base hw s x t e z bytes ho ht hinfo hz hs0 hb0 v xs p cs ok okp hs hx (Kd.M_below hp (Below.refl _ _).drew) hokp hfresh (Kd.R_drew HO) HB.drew hbase hl
  (λ v1 w1 a1 a2 a3 a4=>h v1 w1 a1 a2 ⟨a3.os,a3.tape,a3.output,a3.size,a3.block⟩ a4)
theorem a1F {k : IntKind} {a b : Int} (h : a = b) : Ending.returned (.int k a) = .returned (.int k b):=by rw [h]
theorem a0S {a b : Bool} (h : a = b) : Ending.returned (.bool a) = .returned (.bool b):=by rw [h]
theorem w64 {n : Int} (h : -9223372036854775808 <= n /\ n < 9223372036854775808) : wrap64 n = n:=by unfold wrap64; omega
section
variable {P : Program} {ops : Array Oper} {o : Oper} {rest : List Oper} {a : Act} {Q : Exit -> Act -> World -> Prop} {α : Type}
theorem b9p (d : Kd α) {w0 W : World} (hgd : o.guard = none) (s x : Operand) (t e : TypeId) (z : Value) (bytes : Nat)
    (ho : o.op = .call { callee:=.builtin .append,args:=#[s,x],argTypes:=#[t,t] })
    (ht : P.underlying t = some (.slice e)) (hinfo : (P.info? e).map (λ i=>(i.zero,i.size,i.bytes)) = some (some z,d.sz,bytes)) (hz : z.cells.size = d.sz) (hs0 : 0 < d.sz) (hb0 : 0 < bytes)
    (v : Value) (xs : List α) (p : α) (cs : List Value) (hs : a.eval s = v) (hx : a.eval x = .slice (some ⟨W.heap.size,0,none⟩) 1 1) (hp : d.M W w0.heap.size (λ _=>False) p cs)
    (HO : d.R e W w0.heap.size (λ _=>True) v xs) (HB : Below w0.heap.size w0 W) (hl : (xs.length + 1) * bytes <= 140737488355328)
    (h : ∀ v1 w1,d.R e w1 w0.heap.size (λ _=>True) v1 (xs ++ [p]) -> Below w0.heap.size w0 w1 -> W.grownBy w1 v.ownBlock -> (v1.ownBlock = v.ownBlock \/ ∃ b,v1.ownBlock = some b /\ W.heap.size <= b) -> wpList P ops Q rest (a.put o.dst v1) w1) :
    wpList P ops Q (o :: rest) a (W.alloc (.cells cs.toArray e)):=
 Kd.R_append d (w0:=w0) (W:=W) w0.heap.size hgd s x t e z bytes ho ht hinfo hz hs0 hb0 v xs p cs (λ _=>True) (λ _=>False) hs hx hp (λ _ h=>h.elim) (λ _ _=>trivial) HO HB HB.size hl h
theorem a8q (κ : IntKind) {w0 W : World} (hgd : o.guard = none) (s x : Operand) (t e : TypeId) (bytes : Nat)
    (ho : o.op = .call { callee:=.builtin .append,args:=#[s,x],argTypes:=#[t,t] })
    (ht : P.underlying t = some (.slice e)) (hinfo : (P.info? e).map (λ i=>(i.zero,i.size,i.bytes)) = some (some (.int κ 0),1,bytes)) (hb0 : 0 < bytes)
    (v : Value) (xs : List Int) (p : Int) (hs : a.eval s = v) (hx : a.eval x = .slice (some ⟨W.heap.size,0,none⟩) 1 1)
    (HO : (Kd.int κ).R e W w0.heap.size (λ _=>True) v xs) (HB : Below w0.heap.size w0 W) (hl : (xs.length + 1) * bytes <= 140737488355328)
    (h : ∀ v1 w1,(Kd.int κ).R e w1 w0.heap.size (λ _=>True) v1 (xs ++ [p]) -> Below w0.heap.size w0 w1 -> W.grownBy w1 v.ownBlock -> (v1.ownBlock = v.ownBlock \/ ∃ b,v1.ownBlock = some b /\ W.heap.size <= b) -> wpList P ops Q rest (a.put o.dst v1) w1) :
    wpList P ops Q (o :: rest) a (W.alloc (.cells #[.int κ p] e)):=
 b9p (Kd.int κ) (w0:=w0) (W:=W) hgd s x t e (.int κ 0) bytes ho ht hinfo rfl Nat.one_pos hb0 v xs p [.int κ p] hs hx rfl HO HB hl h
end
theorem b9q {w0 W w1 : World} {B : Nat} {row : Option Nat} (h : Below B w0 W) (hg : W.grownBy w1 row) (hr : ∀ k,row = some k -> B <= k) (hB : B <= W.heap.size) : Below B w0 w1:=h.grown hg hB hr
theorem a0w : (Tryz.prog.info? 5).map (λ i=>(i.zero,i.size,i.bytes)) = some (some (.int .u8 0),1,1):=by kernel_rfl
theorem a4x : (Tryz.prog.info? 3).map (λ i=>(i.zero,i.size,i.bytes)) = some (some (.int .i64 0),1,8):=by kernel_rfl
theorem a5m {κ : IntKind} {w : World} {A : Option Addr} {n : Nat} {xs : List Int} (h : (Kd.int κ).C w A n xs) (hn : 0 < n) : ∃ ad,A = some ad /\ ∀ k,k < n -> w.cell? (ad.add k) = some (.int κ (xs.getD k 0)):=by
 obtain ⟨ad,e,hc⟩:=h.2.2 hn
 refine ⟨ad,e,λ k hk=>?_⟩
 have hl : k < xs.length:=by have:=h.1; omega
 obtain ⟨c,hs,hr,hcell⟩:=hc k _ (List.getElem?_eq_getElem hl)
 have hr' : c = [.int κ xs[k]]:=hr
 subst hr'
 have:=hcell 0 _ rfl
 rw [List.getD_eq_getElem?_getD,List.getElem?_eq_getElem hl]
 simpa [Kd.int,Kd.scalar] using this
theorem a0v {κ : IntKind} {w : World} {A : Option Addr} {n : Nat} {xs : List Int} (h : (Kd.int κ).C w A n xs) (k : Nat) (hk : k < n) : ∃ ad,A = some ad /\ w.cell? (ad.add k) = some (.int κ (xs.getD k 0)):=by
 obtain ⟨ad,e,hc⟩:=a5m h (by omega)
 exact ⟨ad,e,hc k hk⟩
theorem a2I {l : List Int} (h : ∀ x ∈ l,0 <= x) : 0 <= l.sum:=by
 induction l with
 | nil=>simp
 | cons a l ih=>simp only [List.sum_cons]; have:=h a (by simp); have:=ih (λ x hx=>h x (by simp [hx])); omega
theorem a6l {l : List Int} (h : ∀ x ∈ l,0 <= x) {x : Int} (hx : x ∈ l) : x <= l.sum:=by
 induction l with
 | nil=>cases hx
 | cons a l ih=>
  simp only [List.sum_cons]
  rcases List.mem_cons.1 hx with rfl | hx
  · have:=a2I (λ y hy=>h y (List.mem_cons_of_mem _ hy)); omega
  · have:=ih (λ y hy=>h y (List.mem_cons_of_mem _ hy)) hx; have:=h a List.mem_cons_self; omega
theorem a4a {l : List Int} {k : Nat} (h : k < l.length) : (l.take (k + 1)).sum = (l.take k).sum + l.getD k 0:=by
 rw [List.take_succ_eq_append_getElem h,List.sum_append,List.getD_eq_getElem?_getD,List.getElem?_eq_getElem h]; simp
theorem a8r {l : List Int} (h : ∀ x ∈ l,0 <= x) (k : Nat) : (l.take k).sum <= l.sum:=by
 have e : l.sum = (l.take k).sum + (l.drop k).sum:=by rw [<- List.sum_append,List.take_append_drop]
 have:=a2I (l:=l.drop k) (λ x hx=>h x (List.mem_of_mem_drop hx)); omega
def a0P (c : List Int) : Bool:=decide (c.length = 256 /\ (∀ x ∈ c,0 <= x) /\ c.sum <= 1073741824)
theorem rightC_iff {c : List Int} : a0P c = true ↔ c.length = 256 /\ (∀ x ∈ c,0 <= x) /\ c.sum <= 1073741824:=by unfold a0P; exact decide_eq_true_iff
def a1b (c : List Int) : Int:=if a0P c then c.sum else 0
def SoFar (c : List Int) (k : Nat) (s : Int) : Prop:=s = (c.take k).sum /\ (∀ x ∈ c.take k,0 <= x) /\ s <= 1073741824
theorem SoFar.step {c : List Int} {k : Nat} {s : Int} (h : SoFar c k s) (hk : k < c.length) (h0 : 0 <= c.getD k 0) (h1 : c.getD k 0 <= 1073741824 - s) : SoFar c (k + 1) (s + c.getD k 0):=by
 obtain ⟨a,b,d⟩:=h
 refine ⟨by rw [a4a hk,a],?_,by omega⟩
 intro x hx
 rw [List.take_succ_eq_append_getElem hk] at hx
 rcases List.mem_append.1 hx with hx | hx
 · exact b x hx
 · rw [List.mem_singleton.1 hx]
   rwa [List.getD_eq_getElem?_getD,List.getElem?_eq_getElem hk] at h0
theorem SoFar.bad {c : List Int} {k : Nat} {s : Int} (h : SoFar c k s) (hk : k < c.length) (h1 : c.getD k 0 < 0 \/ 1073741824 - s < c.getD k 0) : a0P c = false:=by
 rw [<- Bool.not_eq_true,rightC_iff]
 rintro ⟨_,h2,h3⟩
 have hm : c.getD k 0 ∈ c:=by rw [List.getD_eq_getElem?_getD,List.getElem?_eq_getElem hk]; exact List.getElem_mem hk
 have:=h2 _ hm
 have e:=a4a hk
 have:=a8r h2 (k + 1)
 have:=h.1
 omega
theorem SoFar.all {c : List Int} {s : Int} (h : SoFar c c.length s) : a0P c = decide (c.length = 256):=by
 obtain ⟨a,b,d⟩:=h
 rw [List.take_length] at a b
 unfold a0P
 rw [decide_eq_decide]
 exact ⟨λ x=>x.1,λ x=>⟨x,b,by omega⟩⟩
theorem SoFar.nonneg {c : List Int} {k : Nat} {s : Int} (h : SoFar c k s) : 0 <= s:=by rw [h.1]; exact a2I h.2.1
set_option maxRecDepth 100000 in
set_option maxHeartbeats 400000 in
theorem a8s (A : Option Addr) (cp : Nat) (c : List Int) (w : World) (hr : (Kd.int .i64).C w A c.length c) :
    Calls Tryz.prog 233 #[.slice A c.length cp] w λ e w'=>e = .returned (.bool (a0P c)) /\ w = w':=by
 have hm:=hr.2.1
 have HR:=Lib.hid hr
 clear hr
 go_enter Tryz.func233,Tryz.ntmps233
 go_wp2_with fail
 go_loop [3,8] (λ sv kv=>∃ (s : Int) (k : Nat),sv = .int .i64 s /\ kv = .int .i64 k /\ k <= c.length /\ 0 <= s /\ s <= 1073741824 /\ Hid (SoFar c k s)) (λ _ kv=>c.length - (intOf kv).toNat)
 case atStart=>exact ⟨0,0,rfl,rfl,by omega,by omega,by omega,⟨by simp,by simp,by omega⟩⟩
 case round=>
  obtain ⟨s,k,rfl,rfl,hk,hs0,hs1,H⟩:=hrel
  by_cases hlt : k < c.length
  · obtain ⟨ad,rfl,hcell⟩:=a0v HR.out k hlt
    obtain ⟨x,hx⟩ : ∃ x,x = c.getD k 0:=⟨_,rfl⟩
    rw [<- hx] at hcell
    have HX:=Lib.hid hx
    clear hx
    by_cases h0 : x < 0
    · have HB : Hid (a0P c = false):=H.out.bad hlt (.inl (by rw [<- HX.out]; exact h0))
      go_wp2_with fail
      go_ret
      exact ⟨a0S HB.out.symm,rfl⟩
    · by_cases h1 : 1073741824 - s < x
      · have HB : Hid (a0P c = false):=H.out.bad hlt (.inr (by rw [<- HX.out]; exact h1))
        go_wp2_with fail
        go_ret
        exact ⟨a0S HB.out.symm,rfl⟩
      · have HS : Hid (SoFar c (k + 1) (s + x)):=by
          have:=H.out.step hlt (by rw [<- HX.out]; omega) (by rw [<- HX.out]; omega)
          rw [<- HX.out] at this; exact this
        go_wp2_with fail
        go_round
        case rel=>exact ⟨s + x,k + 1,by go_num,by go_num,by omega,by omega,by omega,HS⟩
        case measure=>simp [intOf]; omega
  · have HE : Hid (a0P c = decide (c.length = 256)):=by
      obtain rfl : k = c.length:=by omega
      exact H.out.all
    go_wp2_with fail
    go_ret
    exact ⟨a0S (by rw [HE.out]; rw [Bool.eq_iff_iff]; simp; omega),rfl⟩
set_option maxRecDepth 100000 in
set_option maxHeartbeats 400000 in
theorem b2f (A : Option Addr) (cp : Nat) (c : List Int) (w : World) (hr : (Kd.int .i64).C w A c.length c) :
    Calls Tryz.prog 234 #[.slice A c.length cp] w λ e w'=>e = .returned (.int .i64 (a1b c)) /\ w = w':=by
 have hm:=hr.2.1
 have HR:=Lib.hid hr
 clear hr
 cases hb : a0P c with
 | false=>
  have HT : Hid (a1b c = 0):=by unfold a1b; simp [hb,Hid]
  have HB:=Lib.hid hb
  clear hb
  go_enter Tryz.func234,Tryz.ntmps234
  go_wp2_with fail
  refine (a8s _ _ _ _ HR.out).mono ?_
  rw [HB.out]
  rintro e w' ⟨rfl,rfl⟩
  go_wp2_with fail
  go_ret
  exact ⟨a1F HT.out.symm,rfl⟩
 | true=>
  have HT : Hid (a1b c = c.sum):=by unfold a1b; simp [hb,Hid]
  have HB:=Lib.hid hb
  clear hb
  go_enter Tryz.func234,Tryz.ntmps234
  go_wp2_with fail
  refine (a8s _ _ _ _ HR.out).mono ?_
  rw [HB.out]
  rintro e w' ⟨rfl,rfl⟩
  go_wp2_with fail
  go_loop [3,11] (λ sv kv=>∃ (s : Int) (k : Nat),sv = .int .i64 s /\ kv = .int .i64 k /\ k <= c.length /\ Hid (s = (c.take k).sum)) (λ _ kv=>c.length - (intOf kv).toNat)
  case atStart=>exact ⟨0,0,rfl,rfl,by omega,by show _ = _; simp⟩
  case round=>
   obtain ⟨s,k,rfl,rfl,hk,H⟩:=hrel
   by_cases hlt : k < c.length
   · obtain ⟨ad,rfl,hcell⟩:=a0v HR.out k hlt
     obtain ⟨x,hx⟩ : ∃ x,x = c.getD k 0:=⟨_,rfl⟩
     rw [<- hx] at hcell
     have HX:=Lib.hid hx
     have hbd : 0 <= s /\ s + x <= 1073741824 /\ 0 <= s + x:=by
      obtain ⟨_,h2,h3⟩:=rightC_iff.1 HB.out
      have a1:=a4a hlt
      have a2:=a8r h2 (k + 1)
      have a3:=a2I (l:=c.take k) (λ x hx=>h2 x (List.mem_of_mem_take hx))
      have a4:=a2I (l:=c.take (k + 1)) (λ x hx=>h2 x (List.mem_of_mem_take hx))
      have:=H.out
      omega
     obtain ⟨b1,b2,b3⟩:=hbd
     clear hx
     go_wp2_with fail
     go_round
     case rel=>exact ⟨s + x,k + 1,by go_num,by go_num,by omega,by show _ = _; rw [a4a hlt,<- H.out,<- HX.out]⟩
     case measure=>simp [intOf]; omega
   · have HE : Hid (s = a1b c):=by
       obtain rfl : k = c.length:=by omega
       show _ = _
       rw [HT.out,H.out,List.take_length]
     go_wp2_with fail
     go_ret
     exact ⟨a1F HE.out,rfl⟩
def cmpI (x y : Int) : Int:=if x < y then -1 else if y < x then 1 else 0
theorem a8z (x : Int) (w : World) : Calls Tryz.prog 303 #[.int .i64 x] w λ e w'=>e = .returned (.bool false) /\ w = w':=by
 go_enter Tryz.func303,Tryz.ntmps303
 go_wp2
 go_ret
 exact ⟨by simp,rfl⟩
theorem b9D (x y : Int) (h : x < y) (w : World) : Calls Tryz.prog 302 #[.int .i64 x,.int .i64 y] w λ e w'=>e = .returned (.int .i64 (-1)) /\ w = w':=by
 go_enter Tryz.func302,Tryz.ntmps302
 go_wp2_with (go_at_call 303; refine (a8z _ _).mono ?_; rintro e w' ⟨rfl,rfl⟩)
 go_ret
 exact ⟨rfl,rfl⟩
theorem b9E (x y : Int) (h : y < x) (w : World) : Calls Tryz.prog 302 #[.int .i64 x,.int .i64 y] w λ e w'=>e = .returned (.int .i64 1) /\ w = w':=by
 go_enter Tryz.func302,Tryz.ntmps302
 go_wp2_with (go_at_call 303; refine (a8z _ _).mono ?_; rintro e w' ⟨rfl,rfl⟩)
 go_ret
 exact ⟨rfl,rfl⟩
theorem b9F (x : Int) (w : World) : Calls Tryz.prog 302 #[.int .i64 x,.int .i64 x] w λ e w'=>e = .returned (.int .i64 0) /\ w = w':=by
 go_enter Tryz.func302,Tryz.ntmps302
 go_wp2_with (go_at_call 303; refine (a8z _ _).mono ?_; rintro e w' ⟨rfl,rfl⟩)
 go_ret
 exact ⟨rfl,rfl⟩
theorem b2w (x y : Int) (w : World) : Calls Tryz.prog 302 #[.int .i64 x,.int .i64 y] w λ e w'=>e = .returned (.int .i64 (cmpI x y)) /\ w = w':=by
 unfold cmpI
 by_cases h : x < y
 · rw [if_pos h]; exact b9D x y h w
 · by_cases h2 : y < x
   · rw [if_neg h,if_pos h2]; exact b9E x y h2 w
   · rw [if_neg h,if_neg h2]; obtain rfl : x = y:=by omega
     exact b9F x w
def a0Y (i q s : Int) : Bool:=decide (1 <= q /\ q <= 4096 /\ q <= i /\ i < 2 * q /\ 0 <= s /\ s < 256)
set_option maxHeartbeats 400000 in
theorem a3a (i q s : Int) (w : World) :
    Calls Tryz.prog 273 #[.agg #[.int .i64 i,.int .i64 q,.int .i64 s]] w (Ret (.bool (a0Y i q s)) w):=by
 by_cases h1 : 1 <= q
 · by_cases h2 : q <= 4096
   · by_cases h3 : q <= i
     · by_cases h4 : i < 2 * q
       · by_cases h5 : 0 <= s
         · by_cases h6 : s < 256
           all_goals
            go_enter Tryz.func273,Tryz.ntmps273
            go_wp2
            go_ret
            exact ⟨a0S (by simp [a0Y, *]),(Below.refl _ _).alloc (Nat.le_refl _) _⟩
         · go_enter Tryz.func273,Tryz.ntmps273
           go_wp2
           go_ret
           exact ⟨a0S (by unfold a0Y; symm; apply decide_eq_false; omega),(Below.refl _ _).alloc (Nat.le_refl _) _⟩
       · go_enter Tryz.func273,Tryz.ntmps273
         go_wp2
         go_ret
         exact ⟨a0S (by unfold a0Y; symm; apply decide_eq_false; omega),(Below.refl _ _).alloc (Nat.le_refl _) _⟩
     · go_enter Tryz.func273,Tryz.ntmps273
       go_wp2
       go_ret
       exact ⟨a0S (by unfold a0Y; symm; apply decide_eq_false; omega),(Below.refl _ _).alloc (Nat.le_refl _) _⟩
   · go_enter Tryz.func273,Tryz.ntmps273
     go_wp2
     go_ret
     exact ⟨a0S (by unfold a0Y; symm; apply decide_eq_false; omega),(Below.refl _ _).alloc (Nat.le_refl _) _⟩
 · go_enter Tryz.func273,Tryz.ntmps273
   go_wp2
   go_ret
   exact ⟨a0S (by unfold a0Y; symm; apply decide_eq_false; omega),(Below.refl _ _).alloc (Nat.le_refl _) _⟩
set_option maxHeartbeats 400000 in
theorem b2x (i q s j p t : Int) (w : World) :
    Calls Tryz.prog 301 #[.agg #[.int .i64 i,.int .i64 q,.int .i64 s],.agg #[.int .i64 j,.int .i64 p,.int .i64 t]] w (Ret (.int .i64 (cmpI (wrap64 (i * p)) (wrap64 (j * q)))) w):=by
 go_enter Tryz.func301,Tryz.ntmps301
 go_wp2_with (go_at_call 302; refine (b2w _ _ _).mono ?_; rintro e w' ⟨rfl,rfl⟩)
 go_ret
 exact ⟨rfl,((Below.refl _ _).alloc (Nat.le_refl _) _).alloc (by simp) _⟩
set_option maxHeartbeats 400000 in
theorem b9G (i q s j p t : Int) (w : World) :
    Calls Tryz.prog 295 #[.agg #[.int .i64 i,.int .i64 q,.int .i64 s],.agg #[.int .i64 j,.int .i64 p,.int .i64 t]] w (Ret (.int .i64 (cmpI s t)) w):=by
 go_enter Tryz.func295,Tryz.ntmps295
 go_wp2_with (go_at_call 302; refine (b2w _ _ _).mono ?_; rintro e w' ⟨rfl,rfl⟩)
 go_ret
 exact ⟨rfl,((Below.refl _ _).alloc (Nat.le_refl _) _).alloc (by simp) _⟩
def cmpK (i q s j p t : Int) : Int:=
 if a0Y i q s && a0Y j p t then (if cmpI (wrap64 (i * p)) (wrap64 (j * q)) = 0 then cmpI s t else cmpI (wrap64 (i * p)) (wrap64 (j * q))) else 0
theorem b9H (i q s j p t : Int) (w : World) (h1 : a0Y i q s = false) :
    Calls Tryz.prog 300 #[.agg #[.int .i64 i,.int .i64 q,.int .i64 s],.agg #[.int .i64 j,.int .i64 p,.int .i64 t]] w (Ret (.int .i64 0) w):=by
 have Z0 : Below w.heap.size w ((w.alloc (.cells #[.int .i64 i,.int .i64 q,.int .i64 s] 266)).alloc (.cells #[.int .i64 j,.int .i64 p,.int .i64 t] 266)):=((Below.refl _ _).alloc (Nat.le_refl _) _).alloc (by simp) _
 go_enter Tryz.func300,Tryz.ntmps300
 go_wp2_with fail
 refine (a3a _ _ _ _).mono ?_; rintro e w1 ⟨rfl,hb⟩; obtain ⟨hc1,hf1⟩:=bcell hb; have Z1:=Z0.trans (hb.mono Z0.size); clear hb; clear Z0
 go_wp2_with fail
 go_ret
 exact ⟨rfl,Z1⟩
theorem b9I (i q s j p t : Int) (w : World) (h1 : a0Y i q s = true) (h2 : a0Y j p t = false) :
    Calls Tryz.prog 300 #[.agg #[.int .i64 i,.int .i64 q,.int .i64 s],.agg #[.int .i64 j,.int .i64 p,.int .i64 t]] w (Ret (.int .i64 0) w):=by
 have Z0 : Below w.heap.size w ((w.alloc (.cells #[.int .i64 i,.int .i64 q,.int .i64 s] 266)).alloc (.cells #[.int .i64 j,.int .i64 p,.int .i64 t] 266)):=((Below.refl _ _).alloc (Nat.le_refl _) _).alloc (by simp) _
 go_enter Tryz.func300,Tryz.ntmps300
 go_wp2_with fail
 refine (a3a _ _ _ _).mono ?_; rintro e w1 ⟨rfl,hb⟩; obtain ⟨hc1,hf1⟩:=bcell hb; have Z1:=Z0.trans (hb.mono Z0.size); have s1:=hb.size; clear hb; clear Z0; simp only [World.size_alloc] at s1; have z10 : w.heap.size < w1.heap.size:=by omega
 have z11 : w.heap.size + 1 < w1.heap.size:=by omega
 go_wp2_with fail
 refine (a3a _ _ _ _).mono ?_; rintro e w2 ⟨rfl,hb⟩; obtain ⟨hc2,hf2⟩:=bcell hb; have Z2:=Z1.trans (hb.mono Z1.size); clear hb; clear Z1
 go_wp2_with fail
 go_ret
 exact ⟨rfl,Z2⟩
set_option maxHeartbeats 400000 in
theorem b9J (i q s j p t : Int) (w : World) (h1 : a0Y i q s = true) (h2 : a0Y j p t = true) (c : Int) (hc : (c != 0) = true) (hq : Hid (cmpI (wrap64 (i * p)) (wrap64 (j * q)) = c)) :
    Calls Tryz.prog 300 #[.agg #[.int .i64 i,.int .i64 q,.int .i64 s],.agg #[.int .i64 j,.int .i64 p,.int .i64 t]] w (Ret (.int .i64 c) w):=by
 have Z0 : Below w.heap.size w ((w.alloc (.cells #[.int .i64 i,.int .i64 q,.int .i64 s] 266)).alloc (.cells #[.int .i64 j,.int .i64 p,.int .i64 t] 266)):=((Below.refl _ _).alloc (Nat.le_refl _) _).alloc (by simp) _
 have H1 : ∀ w,Calls Tryz.prog 301 #[.agg #[.int .i64 i,.int .i64 q,.int .i64 s],.agg #[.int .i64 j,.int .i64 p,.int .i64 t]] w (Ret (.int .i64 c) w):=λ w=>by rw [<- Hid.out hq]; exact b2x _ _ _ _ _ _ _
 have HH:=Lib.hid H1; clear H1 hq
 go_enter Tryz.func300,Tryz.ntmps300
 go_wp2_with fail
 refine (a3a _ _ _ _).mono ?_; rintro e w1 ⟨rfl,hb⟩; obtain ⟨hc1,hf1⟩:=bcell hb; have Z1:=Z0.trans (hb.mono Z0.size); have s1:=hb.size; clear hb; clear Z0; simp only [World.size_alloc] at s1; have z10 : w.heap.size < w1.heap.size:=by omega
 have z11 : w.heap.size + 1 < w1.heap.size:=by omega
 go_wp2_with fail
 refine (a3a _ _ _ _).mono ?_; rintro e w2 ⟨rfl,hb⟩; obtain ⟨hc2,hf2⟩:=bcell hb; have Z2:=Z1.trans (hb.mono Z1.size); have s2:=hb.size; clear hb; clear Z1; have z20 : w.heap.size < w2.heap.size:=by omega
 have z21 : w.heap.size + 1 < w2.heap.size:=by omega
 go_wp2_with fail
 refine wp_loop_rounds 2 ?_
 rw [rounds_succ]
 go_wp2_with fail
 refine (HH.out _).mono ?_; rintro e w3 ⟨rfl,hb⟩; obtain ⟨hc3,hf3⟩:=bcell hb; have Z3:=(Z2.alloc Z2.size _).trans (hb.mono (Nat.le_trans Z2.size (by simp))); have s3:=hb.size; clear hb; clear Z2; simp only [World.size_alloc] at s3; have z30 : w.heap.size < w3.heap.size:=by omega
 have z31 : w.heap.size + 1 < w3.heap.size:=by omega
 have z32 : w2.heap.size < w3.heap.size:=by omega
 go_wp2_with fail
 go_ret
 exact ⟨rfl,Z3⟩
set_option maxHeartbeats 400000 in
theorem b9K (i q s j p t : Int) (w : World) (h1 : a0Y i q s = true) (h2 : a0Y j p t = true) (hq : Hid (cmpI (wrap64 (i * p)) (wrap64 (j * q)) = 0)) (c : Int) (hs : Hid (cmpI s t = c)) :
    Calls Tryz.prog 300 #[.agg #[.int .i64 i,.int .i64 q,.int .i64 s],.agg #[.int .i64 j,.int .i64 p,.int .i64 t]] w (Ret (.int .i64 c) w):=by
 have Z0 : Below w.heap.size w ((w.alloc (.cells #[.int .i64 i,.int .i64 q,.int .i64 s] 266)).alloc (.cells #[.int .i64 j,.int .i64 p,.int .i64 t] 266)):=((Below.refl _ _).alloc (Nat.le_refl _) _).alloc (by simp) _
 have H1 : ∀ w,Calls Tryz.prog 301 #[.agg #[.int .i64 i,.int .i64 q,.int .i64 s],.agg #[.int .i64 j,.int .i64 p,.int .i64 t]] w (Ret (.int .i64 0) w):=λ w=>by rw [<- Hid.out hq]; exact b2x _ _ _ _ _ _ _
 have H2 : ∀ w,Calls Tryz.prog 295 #[.agg #[.int .i64 i,.int .i64 q,.int .i64 s],.agg #[.int .i64 j,.int .i64 p,.int .i64 t]] w (Ret (.int .i64 c) w):=λ w=>by rw [<- Hid.out hs]; exact b9G _ _ _ _ _ _ _
 have HS:=Lib.hid H2; clear H2 hs
 have HH:=Lib.hid H1; clear H1 hq
 go_enter Tryz.func300,Tryz.ntmps300
 go_wp2_with fail
 refine (a3a _ _ _ _).mono ?_; rintro e w1 ⟨rfl,hb⟩; obtain ⟨hc1,hf1⟩:=bcell hb; have Z1:=Z0.trans (hb.mono Z0.size); have s1:=hb.size; clear hb; clear Z0; simp only [World.size_alloc] at s1; have z10 : w.heap.size < w1.heap.size:=by omega
 have z11 : w.heap.size + 1 < w1.heap.size:=by omega
 go_wp2_with fail
 refine (a3a _ _ _ _).mono ?_; rintro e w2 ⟨rfl,hb⟩; obtain ⟨hc2,hf2⟩:=bcell hb; have Z2:=Z1.trans (hb.mono Z1.size); have s2:=hb.size; clear hb; clear Z1; have z20 : w.heap.size < w2.heap.size:=by omega
 have z21 : w.heap.size + 1 < w2.heap.size:=by omega
 go_wp2_with fail
 refine wp_loop_rounds 3 ?_
 rw [rounds_succ]
 go_wp2_with fail
 refine (HH.out _).mono ?_; rintro e w3 ⟨rfl,hb⟩; obtain ⟨hc3,hf3⟩:=bcell hb; have Z3:=(Z2.alloc Z2.size _).trans (hb.mono (Nat.le_trans Z2.size (by simp))); have s3:=hb.size; clear hb; clear Z2; simp only [World.size_alloc] at s3; have z30 : w.heap.size < w3.heap.size:=by omega
 have z31 : w.heap.size + 1 < w3.heap.size:=by omega
 have z32 : w2.heap.size < w3.heap.size:=by omega
 go_wp2_with fail
 rw [rounds_succ]
 go_wp2_with fail
 refine (HS.out _).mono ?_; rintro e w4 ⟨rfl,hb⟩; obtain ⟨hc4,hf4⟩:=bcell hb; have Z4:=Z3.trans (hb.mono Z3.size); clear hb; clear Z3
 by_cases hc : (c != 0) = true
 · go_wp2_with fail
   go_ret
   exact ⟨rfl,Z4⟩
 · have hc' : (c != 0) = false:=by simpa using hc
   clear hc
   go_wp2_with fail
   rw [rounds_succ]
   go_wp2_with fail
   go_ret
   exact ⟨by have : c = 0:=by simpa using hc'
             rw [this]; rfl,Z4⟩
theorem b9L (i q s j p t : Int) (w : World) :
    Calls Tryz.prog 300 #[.agg #[.int .i64 i,.int .i64 q,.int .i64 s],.agg #[.int .i64 j,.int .i64 p,.int .i64 t]] w (Ret (.int .i64 (cmpK i q s j p t)) w):=by
 unfold cmpK
 by_cases h1 : a0Y i q s = true
 · by_cases h2 : a0Y j p t = true
   · rw [if_pos (by simp [h1,h2])]
     by_cases h3 : cmpI (wrap64 (i * p)) (wrap64 (j * q)) = 0
     · rw [if_pos h3]; exact b9K _ _ _ _ _ _ _ h1 h2 h3 _ rfl
     · rw [if_neg h3]; exact b9J _ _ _ _ _ _ _ h1 h2 _ (by simpa using h3) rfl
   · rw [if_neg (by simp [h1,h2])]; exact b9I _ _ _ _ _ _ _ h1 (by simpa using h2)
 · rw [if_neg (by simp [h1])]; exact b9H _ _ _ _ _ _ _ (by simpa using h1)
abbrev K3:=Int × Int × Int
def k3 : Kd K3:=Kd.pair (Kd.int .i64) (Kd.pair (Kd.int .i64) (Kd.int .i64))
def z3 : K3:=(0,0,0)
theorem a8A {w : World} {x : K3} {cs : List Value} (h : k3.K w x cs) : cs = [.int .i64 x.1,.int .i64 x.2.1,.int .i64 x.2.2]:=by
 obtain ⟨a,b,rfl,rfl,c,d,rfl,rfl,rfl⟩:=h
 rfl
theorem a5n (w : World) (base : Nat) (ok : Nat -> Prop) (x : K3) : k3.M w base ok x [.int .i64 x.1,.int .i64 x.2.1,.int .i64 x.2.2]:=⟨[.int .i64 x.1],[.int .i64 x.2.1,.int .i64 x.2.2],rfl,rfl,[.int .i64 x.2.1],[.int .i64 x.2.2],rfl,rfl,rfl⟩
def Cells3 (w : World) (a : Addr) (x : K3) : Prop:=w.cell? a = some (.int .i64 x.1) /\ w.cell? ⟨a.block,a.off + 1,none⟩ = some (.int .i64 x.2.1) /\ w.cell? ⟨a.block,a.off + 2,none⟩ = some (.int .i64 x.2.2)
theorem k3_at {w : World} {A : Option Addr} {n : Nat} {xs : List K3} (h : k3.C w A n xs) (i : Nat) (hi : i < n) :
    ∃ ad,A = some ad /\ Cells3 w (ad.add (i * 3)) (xs.getD i z3):=by
 obtain ⟨ad,c,e,hl,hr,hc⟩:=ReadsRow.get_ h z3 (i : Int) (by omega) (by omega)
 obtain rfl:=a8A hr
 simp only [Int.toNat_natCast] at hc
 refine ⟨ad,e,hc 0 _ rfl,?_,?_⟩
 · rw [<- a4r _ _ _ (by decide)]; exact hc 1 _ rfl
 · rw [<- a4r _ _ _ (by decide)]; exact hc 2 _ rfl
theorem Cells3.below {w w1 : World} {a : Addr} {x : K3} (h : Cells3 w a x) (hb : Below w.heap.size w w1) : Cells3 w1 a x:=
 ⟨a0t hb h.1,a0t hb h.2.1,a0t hb h.2.2⟩
theorem a3y {e : TypeId} {W : World} {base : Nat} {ok : Nat -> Prop} {g n cap : Nat} {xs : List K3} (h : k3.R e W base ok (.slice (some ⟨g,0,none⟩) n cap) xs) (i : Nat) (hi : i < n) :
    (W.cell? ⟨g,i * 3,none⟩ = some (.int .i64 (xs.getD i z3).1) /\ W.cell? ⟨g,i * 3 + 1,none⟩ = some (.int .i64 (xs.getD i z3).2.1) /\ W.cell? ⟨g,i * 3 + 2,none⟩ = some (.int .i64 (xs.getD i z3).2.2)) /\
    (W.frozen? ⟨g,i * 3,none⟩ = false /\ W.frozen? ⟨g,i * 3 + 1,none⟩ = false /\ W.frozen? ⟨g,i * 3 + 2,none⟩ = false):=by
 obtain ⟨c,hl,hm,hc,hf⟩:=Kd.R_elem h z3 (i : Int) (by omega) (by omega)
 obtain rfl:=a8A (k3.K_of_M hm)
 simp only [Int.toNat_natCast] at hc hf
 exact ⟨⟨hc 0 _ rfl,hc 1 _ rfl,hc 2 _ rfl⟩,hf 0,hf 1,hf 2⟩
theorem b9M {P : Program} {w : World} (t : TypeId) (a : Addr) (n : String) : (Builtin.ssaWrapNilChk_ #[t] t #[.pointer (some a), strVal "", strVal n]).run P w = .ok (.pointer (some a)) w := rfl
theorem a4B {P : Program} {w : World} {f : Nat} {t elem : TypeId} {name : String} {g : FuncId} {a : Addr} {v : Value}
    (hi : ((P.info? t).bind λ i=>i.methods.find? (·.name == name)).map (λ m=>(m.path,m.func)) = some (#[],some (g,false))) (hu : P.underlying t = some (.pointer elem)) (ha : (isAgg elem).run P w = .ok false w) (hw : w.cell? a = some v) :
    (method (f + 1) t (.pointer (some a)) name).run P w = .ok (g,v) w:=by
 obtain ⟨m,h1,h2⟩:=Option.map_eq_some_iff.1 hi
 obtain ⟨i,h3,hm⟩:=Option.bind_eq_some_iff.1 h1
 simp only [Prod.mk.injEq] at h2
 obtain ⟨hp,hf⟩:=h2
 unfold method
 simp [run_typeInfo _ h3,run_underlying hu,hm,hp,hf,follow,receiverAt,ha,hw,Place.get,b9M,asAddr,go_sem]
theorem a6s {P : Program} {w : World} {f : Nat} {t elem : TypeId} {name : String} {g : FuncId} {v : Value}
    (hi : ((P.info? t).bind λ i=>i.methods.find? (·.name == name)).map (λ m=>(m.path,m.func)) = some (#[],some (g,true))) (hu : P.underlying t = some (.pointer elem)) :
    (method (f + 1) t v name).run P w = .ok (g,v) w:=by
 obtain ⟨m,h1,h2⟩:=Option.map_eq_some_iff.1 hi
 obtain ⟨i,h3,hm⟩:=Option.bind_eq_some_iff.1 h1
 simp only [Prod.mk.injEq] at h2
 obtain ⟨hp,hf⟩:=h2
 unfold method
 simp [run_typeInfo _ h3,run_underlying hu,hm,hp,hf,follow,receiverAt,Place.get,go_sem]
def swapL (xs : List K3) (i j : Nat) : List K3:=(xs.set i (xs.getD j z3)).set j (xs.getD i z3)
theorem a3z {e : TypeId} {W : World} {base : Nat} {ok : Nat -> Prop} {g n cap : Nat} {xs : List K3} (h : k3.R e W base ok (.slice (some ⟨g,0,none⟩) n cap) xs) (i : Nat) (hi : i < n) (x : K3) :
    k3.R e (((W.setCell ⟨g,i * 3,none⟩ (.int .i64 x.1)).setCell ⟨g,i * 3 + 1,none⟩ (.int .i64 x.2.1)).setCell ⟨g,i * 3 + 2,none⟩ (.int .i64 x.2.2)) base ok (.slice (some ⟨g,0,none⟩) n cap) (xs.set i x):=by
 obtain ⟨c,hl,hm,hc,hf⟩:=Kd.R_elem h z3 (i : Int) (by omega) (by omega)
 have hM : k3.M W base (λ k=>ok k /\ k ≠ g) x (c.take 0 ++ [.int .i64 x.1,.int .i64 x.2.1,.int .i64 x.2.2] ++ c.drop (0 + 3)):=by
  obtain rfl:=a8A (k3.K_of_M hm)
  exact ⟨[.int .i64 x.1],[.int .i64 x.2.1,.int .i64 x.2.2],rfl,rfl,[.int .i64 x.2.1],[.int .i64 x.2.2],rfl,rfl,rfl⟩
 have:=(Kd.R_seg h (i : Int) (by omega) (by omega) (seg:=[.int .i64 x.1,.int .i64 x.2.1,.int .i64 x.2.2]) (j:=0) hl hc (by exact Nat.le_refl 3) hM (λ _ hk=>hk)).1
 simpa [World.setCells,k3,Kd.pair,Kd.int,Kd.scalar] using this
def lessK (x y : K3) : Bool:=decide (cmpK x.1 x.2.1 x.2.2 y.1 y.2.1 y.2.2 < 0)
set_option maxRecDepth 100000 in
theorem b2y (A : Option Addr) (n c : Nat) (xs : List K3) (i j : Nat) (hi : i < n) (hj : j < n) (w : World) (h : k3.C w A n xs) :
    Calls Tryz.prog 298 #[.slice A n c,.int .i64 i,.int .i64 j] w (Ret (.bool (lessK (xs.getD i z3) (xs.getD j z3))) w):=by
 obtain ⟨ad,rfl,ci⟩:=k3_at h i hi
 obtain ⟨ad',e,cj⟩:=k3_at h j hj
 obtain rfl:=Option.some.inj e
 have hn:=h.2.1
 obtain ⟨x,hx⟩ : ∃ x,x = xs.getD i z3:=⟨_,rfl⟩
 obtain ⟨y,hy⟩ : ∃ x,x = xs.getD j z3:=⟨_,rfl⟩
 rw [<- hx] at ci ⊢
 rw [<- hy] at cj ⊢
 clear hx hy h e
 obtain ⟨a1,a2,a3⟩:=ci
 obtain ⟨b1,b2,b3⟩:=cj
 go_enter Tryz.func298,Tryz.ntmps298
 go_wp2_with fail
 go_region_held3 (λ w'=>Below w.heap.size w w' /\ w'.cell? (ad.add (i * 3)) = some (.int .i64 x.1) /\ w'.cell? ⟨(ad.add (i * 3)).block,(ad.add (i * 3)).off + 1,none⟩ = some (.int .i64 x.2.1) /\ w'.cell? ⟨(ad.add (i * 3)).block,(ad.add (i * 3)).off + 2,none⟩ = some (.int .i64 x.2.2) /\ w'.cell? (ad.add (j * 3)) = some (.int .i64 y.1) /\ w'.cell? ⟨(ad.add (j * 3)).block,(ad.add (j * 3)).off + 1,none⟩ = some (.int .i64 y.2.1) /\ w'.cell? ⟨(ad.add (j * 3)).block,(ad.add (j * 3)).off + 2,none⟩ = some (.int .i64 y.2.2)) ((repeat' apply And.intro) <;> first | exact (Below.refl _ _).drew | assumption | exact a0t hb ‹_› | (refine a5Y ?_ ?_ hb <;> first | assumption | exact Below.size (by assumption)) | exact ⟨hb.os,hb.tape,hb.output,hb.size,hb.block⟩)
  (first | (go_at_call 300; refine (b9L _ _ _ _ _ _ _).mono ?_; rintro e w' ⟨rfl,hb⟩))
 rename_i hh
 obtain ⟨hh,-⟩:=hh
 go_wp2
 go_ret
 exact ⟨rfl,hh⟩
set_option maxRecDepth 100000 in
theorem b9N {e0 : TypeId} {base : Nat} {ok : Nat -> Prop} {g n cap : Nat} {xs : List K3} (i j : Nat) (hi : i < n) (hj : j < n) (hne : i ≠ j) (w : World) (h : k3.R e0 w base ok (.slice (some ⟨g,0,none⟩) n cap) xs) :
    Calls Tryz.prog 299 #[.slice (some ⟨g,0,none⟩) n cap,.int .i64 i,.int .i64 j] w λ e w'=>e = .returned (.tuple #[]) /\ k3.R e0 w' base ok (.slice (some ⟨g,0,none⟩) n cap) (swapL xs i j) /\ Only (λ k=>k = g) w w':=by
 obtain ⟨⟨a1,a2,a3⟩,f1,f2,f3⟩:=a3y h i hi
 obtain ⟨⟨b1,b2,b3⟩,g1,g2,g3⟩:=a3y h j hj
 have hr:=Kd.R_reads' h
 have hn : n <= 9223372036854775807:=by rw [hr.1]; exact hr.2.2.2.1
 clear hr
 obtain ⟨x,hx⟩ : ∃ x,x = xs.getD i z3:=⟨_,rfl⟩
 obtain ⟨y,hy⟩ : ∃ x,x = xs.getD j z3:=⟨_,rfl⟩
 rw [<- hx] at a1 a2 a3
 rw [<- hy] at b1 b2 b3
 have HF : Hid (k3.R e0 ((((((w.setCell ⟨g,i * 3,none⟩ (.int .i64 y.1)).setCell ⟨g,i * 3 + 1,none⟩ (.int .i64 y.2.1)).setCell ⟨g,i * 3 + 2,none⟩ (.int .i64 y.2.2)).setCell ⟨g,j * 3,none⟩ (.int .i64 x.1)).setCell ⟨g,j * 3 + 1,none⟩ (.int .i64 x.2.1)).setCell ⟨g,j * 3 + 2,none⟩ (.int .i64 x.2.2)) base ok (.slice (some ⟨g,0,none⟩) n cap) (swapL xs i j)):=by
  have:=a3z (a3z h i hi y) j hj x
  rw [hx,hy] at this ⊢
  exact this
 clear h
 have n00a : ¬ i * 3 = j * 3:=by omega
 have n01a : ¬ i * 3 = j * 3 + 1:=by omega
 have n02a : ¬ i * 3 = j * 3 + 2:=by omega
 have n10a : ¬ i * 3 + 1 = j * 3:=by omega
 have n11a : ¬ i * 3 + 1 = j * 3 + 1:=by omega
 have n12a : ¬ i * 3 + 1 = j * 3 + 2:=by omega
 have n20a : ¬ i * 3 + 2 = j * 3:=by omega
 have n21a : ¬ i * 3 + 2 = j * 3 + 1:=by omega
 have n22a : ¬ i * 3 + 2 = j * 3 + 2:=by omega
 have n00b : ¬ j * 3 = i * 3:=by omega
 have n01b : ¬ j * 3 = i * 3 + 1:=by omega
 have n02b : ¬ j * 3 = i * 3 + 2:=by omega
 have n10b : ¬ j * 3 + 1 = i * 3:=by omega
 have n11b : ¬ j * 3 + 1 = i * 3 + 1:=by omega
 have n12b : ¬ j * 3 + 1 = i * 3 + 2:=by omega
 have n20b : ¬ j * 3 + 2 = i * 3:=by omega
 have n21b : ¬ j * 3 + 2 = i * 3 + 1:=by omega
 have n22b : ¬ j * 3 + 2 = i * 3 + 2:=by omega
 clear hx hy hne
 go_enter Tryz.func299,Tryz.ntmps299
 go_wp2_with fail
 go_region
 go_wp2
 all_goals go_end0
 exact ⟨rfl,Kd.R_drew HF.out,by refine Only.drew ?_; (repeat (refine Only.set1 ?_ _ _)); exact Only.refl _ _⟩
set_option maxRecDepth 100000 in
theorem b9O {e0 : TypeId} {base : Nat} {ok : Nat -> Prop} {g n cap : Nat} {xs : List K3} (i : Nat) (hi : i < n) (w : World) (h : k3.R e0 w base ok (.slice (some ⟨g,0,none⟩) n cap) xs) :
    Calls Tryz.prog 299 #[.slice (some ⟨g,0,none⟩) n cap,.int .i64 i,.int .i64 i] w λ e w'=>e = .returned (.tuple #[]) /\ k3.R e0 w' base ok (.slice (some ⟨g,0,none⟩) n cap) (swapL xs i i) /\ Only (λ k=>k = g) w w':=by
 obtain ⟨⟨a1,a2,a3⟩,f1,f2,f3⟩:=a3y h i hi
 have hr:=Kd.R_reads' h
 have hn : n <= 9223372036854775807:=by rw [hr.1]; exact hr.2.2.2.1
 clear hr
 obtain ⟨x,hx⟩ : ∃ x,x = xs.getD i z3:=⟨_,rfl⟩
 rw [<- hx] at a1 a2 a3
 have HF : Hid (k3.R e0 ((((((w.setCell ⟨g,i * 3,none⟩ (.int .i64 x.1)).setCell ⟨g,i * 3 + 1,none⟩ (.int .i64 x.2.1)).setCell ⟨g,i * 3 + 2,none⟩ (.int .i64 x.2.2)).setCell ⟨g,i * 3,none⟩ (.int .i64 x.1)).setCell ⟨g,i * 3 + 1,none⟩ (.int .i64 x.2.1)).setCell ⟨g,i * 3 + 2,none⟩ (.int .i64 x.2.2)) base ok (.slice (some ⟨g,0,none⟩) n cap) (swapL xs i i)):=by
  have:=a3z (a3z h i hi x) i hi x
  rw [hx] at this ⊢
  exact this
 clear h
 clear hx
 go_enter Tryz.func299,Tryz.ntmps299
 go_wp2_with fail
 go_region
 go_wp2
 all_goals go_end0
 exact ⟨rfl,Kd.R_drew HF.out,by refine Only.drew ?_; (repeat (refine Only.set1 ?_ _ _)); exact Only.refl _ _⟩
theorem b2z {e0 : TypeId} {base : Nat} {ok : Nat -> Prop} {g n cap : Nat} {xs : List K3} (i j : Nat) (hi : i < n) (hj : j < n) (w : World) (h : k3.R e0 w base ok (.slice (some ⟨g,0,none⟩) n cap) xs) :
    Calls Tryz.prog 299 #[.slice (some ⟨g,0,none⟩) n cap,.int .i64 i,.int .i64 j] w λ e w'=>e = .returned (.tuple #[]) /\ k3.R e0 w' base ok (.slice (some ⟨g,0,none⟩) n cap) (swapL xs i j) /\ Only (λ k=>k = g) w w':=by
 by_cases hne : i = j
 · subst hne; exact b9O i hi w h
 · exact b9N i j hi hj hne w h
set_option maxRecDepth 100000 in
theorem a6t (A : Option Addr) (n c : Nat) (w : World) : Calls Tryz.prog 262 #[.slice A n c] w λ e w'=>e = .returned (.int .i64 n) /\ w = w':=by
 go_enter Tryz.func262,Tryz.ntmps262
 go_wp2
 go_ret
 exact ⟨rfl,rfl⟩
theorem b2A : (Tryz.prog.info? 266).map (λ i=>(i.zero,i.size,i.bytes)) = some (some (.agg #[.int .i64 0,.int .i64 0,.int .i64 0]),k3.sz,24):=by kernel_rfl
theorem b2B (v : Value) (w : World) : (Instr.typeAssert (.iface 266 v) 20 266 false).run Tryz.prog w = .ok v w:=by kernel_rfl
set_option maxRecDepth 100000 in
theorem b9P {base p : Nat} {v : Value} {xs : List K3} (x : K3) (w : World) (hb : w.heap[p]? = some (.cells #[v] 279 (0,0))) (hr : k3.R 266 w base (λ k=>k ≠ p) v xs) (hB : base <= w.heap.size) (hl : xs.length <= 1000000) :
    Calls Tryz.prog 305 #[.pointer (some ⟨p,0,none⟩),.iface 266 (.agg #[.int .i64 x.1,.int .i64 x.2.1,.int .i64 x.2.2])] w λ e w'=>e = .returned (.tuple #[]) /\ ∃ v',w'.heap[p]? = some (.cells #[v'] 279 (0,0)) /\ k3.R 266 w' base (λ k=>k ≠ p) v' (xs ++ [x]) /\ (v'.ownBlock = v.ownBlock \/ ∃ b,v'.ownBlock = some b /\ w.heap.size <= b) /\ Only (λ k=>k = p \/ v.ownBlock = some k) w w':=by
 have hc : w.cell? ⟨p,0,none⟩ = some v:=(a0a hb 0).trans rfl
 have hf:=a0e hb 0
 have ta:=b2B
 have hlt : p < w.heap.size:=a0f hb
 have hpn : ¬ p = w.heap.size:=by omega
 have hpn' : ¬ w.heap.size = p:=by omega
 go_enter Tryz.func305,Tryz.ntmps305
 go_wp2_with fail
 have hfr : ∀ k,w.heap.size <= k -> k ≠ p:=λ k hk e=>by have:=a0f hb; omega
 have hl' : (xs.length + 1) * 24 <= 140737488355328:=by omega
 have hne : some p ≠ v.ownBlock:=λ e=>hr.1 p e.symm rfl
 have HN:=Lib.hid hne; have HR:=Lib.hid hr; have HB:=Lib.hid hB; have HF:=Lib.hid hfr; have HL:=Lib.hid hl'; clear hr hfr hl' hB hne
 go_region_law (first | (refine a5i k3 (w0:=w) base rfl (.tmp 7) (.tmp 10) 279 266 _ 24 rfl Tryz.underlying279 b2A rfl (by decide) (by decide) v xs x [.int .i64 x.1,.int .i64 x.2.1,.int .i64 x.2.2] (λ k=>k ≠ p) (λ _=>False) rfl rfl (a5n _ _ _ x) (λ _ h=>h.elim) HF.out HR.out (Below.refl _ _) HB.out HL.out ?_; intro v1 w1 hr1 hb1 hg1 hat1; obtain ⟨A1,c1,rfl⟩:=Kd.R_slice hr1; simp only [List.length_append,List.length_singleton] at hr1 hat1; have hb2:=a1e hb hg1 HN.out; have hc2 : w1.cell? ⟨p,0,none⟩ = some v:=(a0a hb2 0).trans rfl; have hf2:=a0e hb2 0) | fail)
 all_goals
  go_wp2
  go_end0
  refine ⟨rfl,_,a0u hb2 0 _,Kd.R_far (p:=⟨p,0,none⟩) hr1 (λ k hk=>hk) _,hat1,?_⟩
  exact (Only.of_grown hg1 (λ k hk=>.inr hk)).setCell (p:=⟨p,0,none⟩) (.inl rfl) _
set_option maxRecDepth 100000 in
theorem b9Q {base p g n cap : Nat} {xs : List K3} (w : World) (hb : w.heap[p]? = some (.cells #[.slice (some ⟨g,0,none⟩) (n + 1) cap] 279 (0,0))) (hr : k3.R 266 w base (λ k=>k ≠ p) (.slice (some ⟨g,0,none⟩) (n + 1) cap) xs) :
    Calls Tryz.prog 304 #[.pointer (some ⟨p,0,none⟩)] w λ e w'=>e = .returned (.iface 266 (.agg #[.int .i64 (xs.getD n z3).1,.int .i64 (xs.getD n z3).2.1,.int .i64 (xs.getD n z3).2.2])) /\ w'.heap[p]? = some (.cells #[.slice (some ⟨g,0,none⟩) n cap] 279 (0,0)) /\ k3.R 266 w' base (λ k=>k ≠ p) (.slice (some ⟨g,0,none⟩) n cap) (xs.take n) /\ Only (λ k=>k = p) w w':=by
 have hc : w.cell? ⟨p,0,none⟩ = some (.slice (some ⟨g,0,none⟩) (n + 1) cap):=(a0a hb 0).trans rfl
 have hf:=a0e hb 0
 have hlt : p < w.heap.size:=a0f hb
 have hpn : ¬ p = w.heap.size:=by omega
 have hpn' : ¬ w.heap.size = p:=by omega
 have hrd:=Kd.R_reads' hr
 have hn : n + 1 <= 9223372036854775807:=by rw [hrd.1]; exact hrd.2.2.2.1
 have hcap : n + 1 <= cap:=hrd.2.1
 obtain ⟨⟨a1,a2,a3⟩,-⟩:=a3y hr n (by omega)
 have hgl : g < w.heap.size:=Kd.R_lt hr g rfl
 have hgn : ¬ g = w.heap.size:=by omega
 have hgn' : ¬ w.heap.size = g:=by omega
 obtain ⟨x,hx⟩ : ∃ x,x = xs.getD n z3:=⟨_,rfl⟩
 rw [<- hx] at a1 a2 a3 ⊢
 have hr2:=Kd.R_take hr (m:=n) (by rw [<- hrd.1]; omega)
 have HR:=Lib.hid hr2; clear hx hr hrd hr2
 go_enter Tryz.func304,Tryz.ntmps304
 go_wp2
 go_ret
 exact ⟨rfl,a0n (a0u hb 0 _) _,Kd.R_alloc (Kd.R_far (p:=⟨p,0,none⟩) HR.out (λ k hk=>hk) _) _,((Only.refl _ _).set1 _ _).alloc _⟩
end Go.Proofs.YtflfjpkmjnnodaaGreat
namespace Go.Proofs.YtflfjpkmjnnodaaGreat
namespace HeapL
variable {α : Type} {z : α} {less : α -> α -> Bool} {G : α -> Prop}
structure Ord (less : α -> α -> Bool) (G : α -> Prop) : Prop where
 asym : ∀ a b,G a -> G b -> less a b = true -> less b a = false
 trans : ∀ a b c,G a -> G b -> G c -> less b a = false -> less c b = false -> less c a = false
def swap (z : α) (xs : List α) (i j : Nat) : List α:=(xs.set i (xs.getD j z)).set j (xs.getD i z)
theorem a8B (xs : List α) (i j : Nat) : (swap z xs i j).length = xs.length:=by simp [swap]
theorem a3b (xs : List α) (i j k : Nat) (hi : i < xs.length) (hj : j < xs.length) :
    (swap z xs i j).getD k z = if k = j then xs.getD i z else if k = i then xs.getD j z else xs.getD k z:=by
 simp only [swap,List.getD_eq_getElem?_getD,List.getElem?_set,List.length_set]
 by_cases h1 : j = k
 · subst h1; simp [hj]
 · have : ¬ k = j:=λ e=>h1 e.symm
   by_cases h2 : i = k
   · subst h2; simp [h1,this,hi]
   · have h2' : ¬ k = i:=λ e=>h2 e.symm
     simp [h1,h2,this,h2']
theorem a4d (xs : List α) (i j : Nat) (hi : i < xs.length) (hj : j < xs.length) : (swap z xs i j).Perm xs:=by
 simp only [swap,List.getD_eq_getElem?_getD,List.getElem?_eq_getElem hi,List.getElem?_eq_getElem hj,Option.getD_some]
 exact List.set_set_perm hi hj
def All (G : α -> Prop) (xs : List α) : Prop:=∀ x ∈ xs,G x
theorem All.get {xs : List α} (h : All G xs) (k : Nat) (hk : k < xs.length) : G (xs.getD k z):=by
 rw [List.getD_eq_getElem?_getD,List.getElem?_eq_getElem hk]; exact h _ (List.getElem_mem hk)
def okAt (less : α -> α -> Bool) (z : α) (xs : List α) (k : Nat) : Prop:=less (xs.getD k z) (xs.getD ((k - 1) / 2) z) = false
def From (less : α -> α -> Bool) (z : α) (xs : List α) (m n : Nat) : Prop:=∀ k,0 < k -> k < n -> m <= (k - 1) / 2 -> okAt less z xs k
theorem From.root (o : Ord less G) {xs : List α} {n : Nat} (h : From less z xs 0 n) (hn : n <= xs.length) (hG : All G xs) : ∀ k,k < n -> less (xs.getD k z) (xs.getD 0 z) = false:=by
 intro k
 induction k using Nat.strongRecOn with
 | _ k ih=>
  intro hk
  by_cases h0 : k = 0
  · subst h0
    cases e : less (xs.getD 0 z) (xs.getD 0 z) with
    | false=>rfl
    | true=>have:=o.asym _ _ (hG.get 0 (by omega)) (hG.get 0 (by omega)) e; rw [e] at this; cases this
  · have h1:=ih ((k - 1) / 2) (by omega) (by omega)
    exact o.trans _ _ _ (hG.get 0 (by omega)) (hG.get _ (by omega)) (hG.get _ (by omega)) h1 (h k (by omega) hk (by omega))
structure Up (less : α -> α -> Bool) (z : α) (xs : List α) (j : Nat) : Prop where
 ok : ∀ k,0 < k -> k < xs.length -> k ≠ j -> okAt less z xs k
 over : ∀ k,0 < k -> k < xs.length -> (k - 1) / 2 = j -> 0 < j -> less (xs.getD k z) (xs.getD ((j - 1) / 2) z) = false
theorem Up.stop {xs : List α} {j : Nat} (h : Up less z xs j) (hs : j = 0 \/ okAt less z xs j) : From less z xs 0 xs.length:=by
 intro k hk hl _
 by_cases e : k = j
 · subst e; rcases hs with h0 | h0
   · omega
   · exact h0
 · exact h.ok k hk hl e
theorem Up.step (o : Ord less G) {xs : List α} {j : Nat} (h : Up less z xs j) (hG : All G xs) (hj : 0 < j) (hl : j < xs.length) (hs : less (xs.getD j z) (xs.getD ((j - 1) / 2) z) = true) :
    Up less z (swap z xs ((j - 1) / 2) j) ((j - 1) / 2):=by
 have hp : (j - 1) / 2 < xs.length:=by omega
 have hlt : (j - 1) / 2 < j:=by omega
 have ge:=λ k=>a3b (z:=z) xs ((j - 1) / 2) j k hp hl
 have hs':=o.asym _ _ (hG.get j hl) (hG.get _ hp) hs
 constructor
 · intro k hk hk' hne
   rw [a8B] at hk'
   unfold okAt
   rw [ge,ge]
   by_cases e1 : k = j
   · subst e1
     rw [if_pos rfl,if_neg (by omega),if_pos rfl]; exact hs'
   · rw [if_neg e1,if_neg hne]
     by_cases e2 : (k - 1) / 2 = j
     · rw [if_pos e2]
       exact h.over k hk hk' e2 hj
     · rw [if_neg e2]
       by_cases e3 : (k - 1) / 2 = (j - 1) / 2
       · rw [if_pos e3]
         have:=h.ok k hk hk' e1
         unfold okAt at this
         rw [e3] at this
         exact o.trans _ _ _ (hG.get j hl) (hG.get _ hp) (hG.get k hk') hs' this
       · rw [if_neg e3]; exact h.ok k hk hk' e1
 · intro k hk hk' hpar hp0
   rw [a8B] at hk'
   rw [ge,ge]
   have hpp:=h.ok ((j - 1) / 2) hp0 hp (by omega)
   unfold okAt at hpp
   rw [if_neg (show ¬ ((j - 1) / 2 - 1) / 2 = j by omega),if_neg (show ¬ ((j - 1) / 2 - 1) / 2 = (j - 1) / 2 by omega)]
   by_cases e1 : k = j
   · rw [if_pos e1]; exact hpp
   · rw [if_neg e1,if_neg (by omega)]
     have:=h.ok k hk hk' e1
     unfold okAt at this
     rw [hpar] at this
     exact o.trans _ _ _ (hG.get _ (by omega)) (hG.get _ hp) (hG.get k hk') hpp this
structure Down (less : α -> α -> Bool) (z : α) (xs : List α) (i0 i n : Nat) : Prop where
 ok : ∀ k,0 < k -> k < n -> i0 <= (k - 1) / 2 -> (k - 1) / 2 ≠ i -> okAt less z xs k
 over : ∀ k,0 < k -> k < n -> (k - 1) / 2 = i -> i0 <= (i - 1) / 2 -> 0 < i -> less (xs.getD k z) (xs.getD ((i - 1) / 2) z) = false
theorem Down.start {xs : List α} {i n : Nat} (h : From less z xs (i + 1) n) : Down less z xs i i n:=
 ⟨λ k h1 h2 h3 h4=>h k h1 h2 (by omega),λ k h1 h2 h3 h4 h5=>by omega⟩
theorem Down.stop {xs : List α} {i0 i n : Nat} (h : Down less z xs i0 i n) (hs : ∀ k,0 < k -> k < n -> (k - 1) / 2 = i -> okAt less z xs k) : From less z xs i0 n:=by
 intro k h1 h2 h3
 by_cases e : (k - 1) / 2 = i
 · exact hs k h1 h2 e
 · exact h.ok k h1 h2 h3 e
theorem Down.step (o : Ord less G) {xs : List α} {i0 i n j : Nat} (h : Down less z xs i0 i n) (hG : All G xs) (hn : n <= xs.length) (hi : i0 <= i) (hj : j < n) (hji : (j - 1) / 2 = i) (hj0 : 0 < j)
    (hm : ∀ k,0 < k -> k < n -> (k - 1) / 2 = i -> less (xs.getD k z) (xs.getD j z) = false) (hs : less (xs.getD j z) (xs.getD i z) = true) : Down less z (swap z xs i j) i0 j n:=by
 have hil : i < xs.length:=by omega
 have ge:=λ k=>a3b (z:=z) xs i j k hil (by omega)
 have hs':=o.asym _ _ (hG.get j (by omega)) (hG.get i hil) hs
 constructor
 · intro k h1 h2 h3 h4
   unfold okAt
   rw [ge,ge,if_neg h4]
   by_cases e1 : k = j
   · subst e1
     rw [if_pos rfl,if_pos hji]; exact hs'
   · rw [if_neg e1]
     by_cases e2 : k = i
     · subst e2
       rw [if_pos rfl,if_neg (by omega)]
       exact h.over j hj0 hj hji h3 h1
     · rw [if_neg e2]
       by_cases e3 : (k - 1) / 2 = i
       · rw [if_pos e3]; exact hm k h1 h2 e3
       · rw [if_neg e3]; exact h.ok k h1 h2 h3 e3
 · intro k h1 h2 h3 h4 h5
   rw [ge,ge,if_neg (by omega),if_neg (by omega),if_neg (by omega),if_pos hji]
   have:=h.ok k h1 h2 (by omega) (by omega)
   unfold okAt at this
   rwa [h3] at this
theorem b2C (xs : List α) (x : α) (k : Nat) (h : k < xs.length) : (xs ++ [x]).getD k z = xs.getD k z:=by
 simp [List.getD_eq_getElem?_getD,List.getElem?_append_left h]
theorem Up.snoc {xs : List α} {x : α} (h : From less z xs 0 xs.length) : Up less z (xs ++ [x]) xs.length:=by
 constructor
 · intro k h1 h2 h3
   simp at h2
   unfold okAt
   rw [b2C _ _ _ (by omega),b2C _ _ _ (by omega)]
   exact h k h1 (by omega) (by omega)
 · intro k h1 h2 h3 h4
   simp at h2
   omega
theorem From.swapped {xs : List α} {n : Nat} (hl : n < xs.length) (h : From less z xs 0 (n + 1)) : From less z (swap z xs 0 n) 1 n:=by
 intro k h1 h2 h3
 unfold okAt
 rw [a3b _ _ _ _ (by omega) hl,a3b _ _ _ _ (by omega) hl,if_neg (by omega),if_neg (by omega),if_neg (by omega),if_neg (by omega)]
 exact h k h1 (by omega) (by omega)
theorem b2D (xs : List α) (n k : Nat) (h : k < n) : (xs.take n).getD k z = xs.getD k z:=by
 simp [List.getD_eq_getElem?_getD,h]
theorem From.taken {xs : List α} {n : Nat} (h : From less z xs 0 n) : From less z (xs.take n) 0 n:=by
 intro k h1 h2 h3
 unfold okAt
 rw [b2D _ _ _ h2,b2D _ _ _ (by omega)]
 exact h k h1 h2 h3
theorem b9R (xs : List α) (n : Nat) (h : xs.length = n + 1) : xs = xs.take n ++ [xs.getD n z]:=by
 have : n < xs.length:=by omega
 rw [List.getD_eq_getElem?_getD,List.getElem?_eq_getElem this,Option.getD_some]
 have:=List.take_append_getElem this
 rw [this,List.take_of_length_le (by omega)]
theorem popped {xs ys : List α} {n : Nat} (hx : xs.length = n + 1) (hp : ys.Perm (swap z xs 0 n)) (hk : ys.getD n z = (swap z xs 0 n).getD n z) : (xs.getD 0 z :: ys.take n).Perm xs:=by
 have hl : ys.length = n + 1:=by rw [hp.length_eq,a8B,hx]
 have h1 : ys.getD n z = xs.getD 0 z:=by rw [hk,a3b _ _ _ _ (by omega) (by omega),if_pos rfl]
 have h2:=b9R (z:=z) ys n hl
 rw [h1] at h2
 have h3 : (ys.take n ++ [xs.getD 0 z]).Perm xs:=by rw [<- h2]; exact hp.trans (a4d _ _ _ (by omega) (by omega))
 exact (List.perm_append_singleton _ _).symm.trans h3
end HeapL
end Go.Proofs.YtflfjpkmjnnodaaGreat
namespace Go.Proofs.YtflfjpkmjnnodaaGreat
open Go.RowKit Go.Proofs.YtflfjpkmjnnodaaGreatW.PrintWords
section
variable (f : Nat) (a : Addr) (v : Value) (w : World)
theorem m_len (h : w.cell? a = some v) : (method (f + 1) 280 (.pointer (some a)) "Len").run Tryz.prog w = .ok (262, v) w :=
 a4B (elem:=279) (by kernel_rfl) (by kernel_rfl) (by kernel_rfl) h
theorem b2E (h : w.cell? a = some v) : (method (f + 1) 280 (.pointer (some a)) "Less").run Tryz.prog w = .ok (298, v) w :=
 a4B (elem:=279) (by kernel_rfl) (by kernel_rfl) (by kernel_rfl) h
theorem a8C (h : w.cell? a = some v) : (method (f + 1) 280 (.pointer (some a)) "Swap").run Tryz.prog w = .ok (299, v) w :=
 a4B (elem:=279) (by kernel_rfl) (by kernel_rfl) (by kernel_rfl) h
theorem b9S : (method (f + 1) 280 v "Push").run Tryz.prog w = .ok (305, v) w :=
 a6s (elem:=279) (by kernel_rfl) (by kernel_rfl)
theorem m_pop : (method (f + 1) 280 v "Pop").run Tryz.prog w = .ok (304, v) w :=
 a6s (elem:=279) (by kernel_rfl) (by kernel_rfl)
end
structure Kp (p base : Nat) (w : World) (v : Value) (xs : List K3) : Prop where
 blk : w.heap[p]? = some (.cells #[v] 279 (0,0))
 row : k3.R 266 w base (λ k=>k ≠ p) v xs
theorem Kp.cell {p base : Nat} {w : World} {v : Value} {xs : List K3} (h : Kp p base w v xs) : w.cell? ⟨p,0,none⟩ = some v:=(a0a h.blk 0).trans rfl
theorem Kp.below {p base : Nat} {w w1 : World} {v : Value} {xs : List K3} (h : Kp p base w v xs) (hb : Below w.heap.size w w1) : Kp p base w1 v xs:=⟨a0i h.blk hb,Kd.R_below h.row hb⟩
def GK (x : K3) : Prop:=a0Y x.1 x.2.1 x.2.2 = true
open HeapL
set_option maxRecDepth 100000 in
set_option maxHeartbeats 400000 in
theorem b9T {p base g n cap : Nat} {xs : List K3} (o : Ord lessK GK) (j : Nat) (hj : j < n) (w : World) (hk : Kp p base w (.slice (some ⟨g,0,none⟩) n cap) xs) (hg : All GK xs) (hu : Up lessK z3 xs j) :
    Calls Tryz.prog 272 #[.iface 280 (.pointer (some ⟨p,0,none⟩)),.int .i64 j] w λ e w'=>e = .returned (.tuple #[]) /\ ∃ ys : List K3,Kp p base w' (.slice (some ⟨g,0,none⟩) n cap) ys /\ ys.Perm xs /\ From lessK z3 ys 0 n /\ Only (λ k=>k = g) w w':=by
 have hn : n = xs.length:=(Kd.R_reads' hk.row).1
 have hn2 : n <= 9223372036854775807:=by rw [hn]; exact (Kd.R_reads' hk.row).2.2.2.1
 have ml:=b2E
 have HN:=Lib.hid hn; clear hn
 go_enter Tryz.func272,Tryz.ntmps272
 go_wp2_with fail
 go_loopw [1] (λ jv wr=>∃ (jn : Nat) (ys : List K3),jv = .int .i64 jn /\ jn < n /\ Hid (Kp p base wr (.slice (some ⟨g,0,none⟩) n cap) ys /\ ys.Perm xs /\ Up lessK z3 ys jn /\ Only (λ k=>k = g) w wr)) (λ jv _=>(intOf jv).toNat)
 case atStart=>exact ⟨j,xs,rfl,hj,hk,.refl _,hu,Only.refl _ _⟩
 case round=>
  obtain ⟨jn,ys,rfl,hjn,H⟩:=hrel
  have hc:=H.out.1.cell
  by_cases h0 : jn = 0
  · subst h0
    go_wp2_with fail
    go_end0
    obtain ⟨h1,h2,h3,h4⟩:=H.out
    exact ⟨rfl,ys,h1,h2,by rw [(Kd.R_reads' h1.row).1]; exact h3.stop (.inl rfl),h4⟩
  · have ep : ((jn : Int) - 1) / 2 = (((jn - 1) / 2 : Nat) : Int):=by omega
    have hpl : (jn - 1) / 2 < n:=by omega
    have hne : ¬ (jn - 1) / 2 = jn:=by omega
    go_wp2_with fail
    have hC:=(Kd.R_reads' H.out.1.row)
    refine (b2y (some ⟨g,0,none⟩) n cap ys jn ((jn - 1) / 2) hjn hpl _ (by rw [hC.1]; exact hC.2.2)).mono ?_
    rintro e w1 ⟨rfl,hb⟩
    have HB:=Lib.hid hb
    clear hC hb
    have hc1:=(H.out.1.below HB.out).cell
    have ms:=a8C
    cases hls : lessK (ys.getD jn z3) (ys.getD ((jn - 1) / 2) z3) with
    | false=>
     have HL:=Lib.hid hls; clear hls
     go_wp2_with fail
     go_end0
     obtain ⟨h1,h2,h3,h4⟩:=H.out
     exact ⟨rfl,ys,h1.below HB.out,h2,by rw [(Kd.R_reads' h1.row).1]; exact h3.stop (.inr HL.out),h4.trans (Only.of_below HB.out)⟩
    | true=>
     have HL:=Lib.hid hls; clear hls
     go_wp2_with fail
     refine (b2z ((jn - 1) / 2) jn hpl hjn _ (H.out.1.below HB.out).row).mono ?_
     rintro e w2 ⟨rfl,hr2,ho2⟩
     have HR:=Lib.hid hr2; have HO:=Lib.hid ho2; clear hr2 ho2
     go_wp2_with fail
     go_roundw
     case rel=>
      obtain ⟨h1,h2,h3,h4⟩:=H.out
      have hl : n = ys.length:=(Kd.R_reads' h1.row).1
      have hG : All GK ys:=λ x hx=>hg x (h2.subset hx)
      refine ⟨(jn - 1) / 2,_,rfl,hpl,⟨?_,HR.out⟩,(a4d _ _ _ (by omega) (by omega)).trans h2,h3.step o hG (by omega) (by omega) HL.out,(h4.trans (Only.of_below HB.out)).trans HO.out⟩
      exact (HO.out.block p (a0f (a0i h1.blk HB.out)) (λ e=>Kd.R_away h1.row (λ _ hk=>hk) (by rw [e]; rfl))).trans (a0i h1.blk HB.out)
     case measure=>simp [intOf]; omega
end Go.Proofs.YtflfjpkmjnnodaaGreat
namespace Go.Proofs.YtflfjpkmjnnodaaGreat
open Go.RowKit Go.Proofs.YtflfjpkmjnnodaaGreatW.PrintWords HeapL
def b9U (Q : World -> Prop) (e : Ending) (w : World) : Prop:=(∃ b,e = .returned (.bool b)) /\ Q w
def b2F (p base g n cap : Nat) (xs : List K3) (i0 n0 : Nat) (w w' : World) : Prop:=
 ∃ ys : List K3,Kp p base w' (.slice (some ⟨g,0,none⟩) n cap) ys /\ ys.Perm xs /\ From lessK z3 ys i0 n0 /\ (∀ k,n0 <= k -> ys.getD k z3 = xs.getD k z3) /\ Only (λ k=>k = g) w w'
theorem Kp.len {p base g n cap : Nat} {w : World} {xs : List K3} (h : Kp p base w (.slice (some ⟨g,0,none⟩) n cap) xs) : n = xs.length:=(Kd.R_reads' h.row).1
theorem Kp.read {p base g n cap : Nat} {w : World} {xs : List K3} (h : Kp p base w (.slice (some ⟨g,0,none⟩) n cap) xs) : k3.C w (some ⟨g,0,none⟩) n xs:=by
 have:=Kd.R_reads' h.row
 rw [this.1]; exact this.2.2
theorem Kp.swapped {p base g n cap : Nat} {w w1 : World} {xs ys : List K3} (h : Kp p base w (.slice (some ⟨g,0,none⟩) n cap) xs) (hr : k3.R 266 w1 base (λ k=>k ≠ p) (.slice (some ⟨g,0,none⟩) n cap) ys) (ho : Only (λ k=>k = g) w w1) : Kp p base w1 (.slice (some ⟨g,0,none⟩) n cap) ys:=
 ⟨(ho.block p (a0f h.blk) (λ e=>Kd.R_away h.row (λ _ hk=>hk) (by rw [e]; rfl))).trans h.blk,hr⟩
def DownInv (p base g n cap : Nat) (xs : List K3) (i0 n0 : Nat) (w : World) (i : Nat) (ys : List K3) (wr : World) : Prop:=
 Kp p base wr (.slice (some ⟨g,0,none⟩) n cap) ys /\ ys.Perm xs /\ Down lessK z3 ys i0 i n0 /\ (∀ k,n0 <= k -> ys.getD k z3 = xs.getD k z3) /\ Only (λ k=>k = g) w wr
theorem DownInv.below {p base g n cap : Nat} {xs : List K3} {i0 n0 : Nat} {w : World} {i : Nat} {ys : List K3} {wr w1 : World} (h : DownInv p base g n cap xs i0 n0 w i ys wr) (hb : Below wr.heap.size wr w1) : DownInv p base g n cap xs i0 n0 w i ys w1:=
 ⟨h.1.below hb,h.2.1,h.2.2.1,h.2.2.2.1,h.2.2.2.2.trans (Only.of_below hb)⟩
theorem DownInv.done {p base g n cap : Nat} {xs : List K3} {i0 n0 : Nat} {w : World} {i : Nat} {ys : List K3} {wr : World} (h : DownInv p base g n cap xs i0 n0 w i ys wr) (hs : ∀ k,0 < k -> k < n0 -> (k - 1) / 2 = i -> okAt lessK z3 ys k) : b2F p base g n cap xs i0 n0 w wr:=
 ⟨ys,h.1,h.2.1,h.2.2.1.stop hs,h.2.2.2.1,h.2.2.2.2⟩
theorem DownInv.step {p base g n cap : Nat} {xs : List K3} {i0 n0 : Nat} {w : World} {i j : Nat} {ys : List K3} {wr w1 : World} (o : Ord lessK GK) (hG : All GK xs) (hn : n0 <= n) (h : DownInv p base g n cap xs i0 n0 w i ys wr) (hi : i0 <= i) (hj : j < n0) (hji : (j - 1) / 2 = i) (hj0 : 0 < j)
    (hm : ∀ k,0 < k -> k < n0 -> (k - 1) / 2 = i -> lessK (ys.getD k z3) (ys.getD j z3) = false) (hs : lessK (ys.getD j z3) (ys.getD i z3) = true)
    (hr : k3.R 266 w1 base (λ k=>k ≠ p) (.slice (some ⟨g,0,none⟩) n cap) (swapL ys i j)) (ho : Only (λ k=>k = g) wr w1) : DownInv p base g n cap xs i0 n0 w j (swapL ys i j) w1:=by
 obtain ⟨h1,h2,h3,h4,h5⟩:=h
 have hl:=h1.len
 have hGy : All GK ys:=λ x hx=>hG x (h2.subset hx)
 refine ⟨h1.swapped hr ho,(a4d _ _ _ (by omega) (by omega)).trans h2,h3.step o hGy (by omega) hi hj hji hj0 hm hs,λ k hk=>?_,h5.trans ho⟩
 show (swap z3 ys i j).getD k z3 = _
 rw [a3b _ _ _ _ (by omega) (by omega),if_neg (by omega),if_neg (by omega)]; exact h4 k hk
theorem a6u {i j : Int} (a b : Nat) (ea : i = a) (eb : j = b) (A : Option Addr) (n c : Nat) (xs : List K3) (hi : a < n) (hj : b < n) (w : World) (h : k3.C w A n xs) :
    Calls Tryz.prog 298 #[.slice A n c,.int .i64 i,.int .i64 j] w (Ret (.bool (lessK (xs.getD a z3) (xs.getD b z3))) w):=by
 subst ea eb; exact b2y A n c xs a b hi hj w h
theorem a6v {i j : Int} (a b : Nat) (ea : i = a) (eb : j = b) {e0 : TypeId} {base : Nat} {ok : Nat -> Prop} {g n cap : Nat} {xs : List K3} (hi : a < n) (hj : b < n) (w : World) (h : k3.R e0 w base ok (.slice (some ⟨g,0,none⟩) n cap) xs) :
    Calls Tryz.prog 299 #[.slice (some ⟨g,0,none⟩) n cap,.int .i64 i,.int .i64 j] w λ e w'=>e = .returned (.tuple #[]) /\ k3.R e0 w' base ok (.slice (some ⟨g,0,none⟩) n cap) (swapL xs a b) /\ Only (λ k=>k = g) w w':=by
 subst ea eb; exact b2z a b hi hj w h
set_option maxRecDepth 100000 in
set_option maxHeartbeats 1000000 in
theorem b9V {p base g n cap : Nat} {xs : List K3} (o : Ord lessK GK) (i0 n0 : Nat) (hn0 : n0 <= n) (hi0 : i0 <= n0) (hbd : n <= 1000000) (w : World) (hk : Kp p base w (.slice (some ⟨g,0,none⟩) n cap) xs) (hg : All GK xs) (hu : From lessK z3 xs (i0 + 1) n0) :
    Calls Tryz.prog 271 #[.iface 280 (.pointer (some ⟨p,0,none⟩)),.int .i64 i0,.int .i64 n0] w (b9U (b2F p base g n cap xs i0 n0 w)):=by
 have HI : Hid (DownInv p base g n cap xs i0 n0 w i0 xs w):=⟨hk,.refl _,Down.start hu,λ _ _=>rfl,Only.refl _ _⟩
 have ml:=b2E
 have ms:=a8C
 clear hk hu
 go_enter Tryz.func271,Tryz.ntmps271
 go_wp2_with fail
 go_loopw [7] (λ iv wr=>∃ (i : Nat) (ys : List K3),iv = .int .i64 i /\ i0 <= i /\ i <= n0 /\ Hid (DownInv p base g n cap xs i0 n0 w i ys wr)) (λ iv _=>n0 - (intOf iv).toNat)
 case atStart=>exact ⟨i0,xs,rfl,Nat.le_refl _,hi0,HI⟩
 case round=>
  obtain ⟨i,ys,rfl,hi1,hi2,H⟩:=hrel
  have hc:=H.out.1.cell
  by_cases hj1 : 2 * i + 1 < n0
  · by_cases hj2 : 2 * i + 2 < n0
    · go_wp2_with fail
      refine (a6u (2 * i + 2) (2 * i + 1) (by omega) (by omega) (some ⟨g,0,none⟩) n cap ys (by omega) (by omega) _ H.out.1.read).mono ?_
      rintro e w1 ⟨rfl,hb⟩
      have H1:=Lib.hid (H.out.below hb)
      clear hb hc
      have hc:=H1.out.1.cell
      cases hl1 : lessK (ys.getD (2 * i + 2) z3) (ys.getD (2 * i + 1) z3) with
      | true=>
       have HL:=Lib.hid hl1; clear hl1
       go_wp2_with fail
       refine (a6u (2 * i + 2) i (by omega) rfl (some ⟨g,0,none⟩) n cap ys (by omega) (by omega) _ H1.out.1.read).mono ?_
       rintro e w2 ⟨rfl,hb⟩
       have H2:=Lib.hid (H1.out.below hb)
       clear hb hc
       have hc:=H2.out.1.cell
       cases hl2 : lessK (ys.getD (2 * i + 2) z3) (ys.getD i z3) with
       | true=>
        have HM:=Lib.hid hl2; clear hl2
        go_wp2_with fail
        refine (a6v i (2 * i + 2) rfl (by omega) (by omega) (by omega) _ H2.out.1.row).mono ?_
        rintro e w3 ⟨rfl,hr3,ho3⟩
        have H3 : Hid (DownInv p base g n cap xs i0 n0 w (2 * i + 2) (swapL ys i (2 * i + 2)) w3):=by
         refine H2.out.step o hg hn0 hi1 hj2 (by omega) (by omega) (λ k h1 h2 h3=>?_) HM.out hr3 ho3
         have hGy : All GK ys:=λ x hx=>hg x (H2.out.2.1.subset hx)
         have hl:=H2.out.1.len
         rcases (by omega : k = 2 * i + 1 \/ k = 2 * i + 2) with rfl | rfl
         · exact o.asym _ _ (hGy.get _ (by omega)) (hGy.get _ (by omega)) HL.out
         · cases e : lessK (ys.getD (2 * i + 2) z3) (ys.getD (2 * i + 2) z3) with
           | false=>rfl
           | true=>have:=o.asym _ _ (hGy.get _ (by omega)) (hGy.get _ (by omega)) e; rw [e] at this; cases this
        clear hr3 ho3
        go_wp2_with fail
        go_roundw
        case rel=>exact ⟨2 * i + 2,_,by first | rfl | (congr 1; omega),by omega,by omega,H3⟩
        case measure=>simp [intOf]; omega
       | false=>
        have HM:=Lib.hid hl2; clear hl2
        go_wp2_with fail
        go_ret
        refine ⟨⟨_,rfl⟩,H2.out.done λ k h1 h2 h3=>?_⟩
        have hGy : All GK ys:=λ x hx=>hg x (H2.out.2.1.subset hx)
        have hl:=H2.out.1.len
        unfold okAt
        rw [h3]
        rcases (by omega : k = 2 * i + 1 \/ k = 2 * i + 2) with rfl | rfl
        · exact o.trans _ _ _ (hGy.get _ (by omega)) (hGy.get _ (by omega)) (hGy.get _ (by omega)) HM.out (o.asym _ _ (hGy.get _ (by omega)) (hGy.get _ (by omega)) HL.out)
        · exact HM.out
      | false=>
       have HL:=Lib.hid hl1; clear hl1
       go_wp2_with fail
       refine (a6u (2 * i + 1) i (by omega) rfl (some ⟨g,0,none⟩) n cap ys (by omega) (by omega) _ H1.out.1.read).mono ?_
       rintro e w2 ⟨rfl,hb⟩
       have H2:=Lib.hid (H1.out.below hb)
       clear hb hc
       have hc:=H2.out.1.cell
       cases hl2 : lessK (ys.getD (2 * i + 1) z3) (ys.getD i z3) with
       | true=>
        have HM:=Lib.hid hl2; clear hl2
        go_wp2_with fail
        refine (a6v i (2 * i + 1) rfl (by omega) (by omega) (by omega) _ H2.out.1.row).mono ?_
        rintro e w3 ⟨rfl,hr3,ho3⟩
        have H3 : Hid (DownInv p base g n cap xs i0 n0 w (2 * i + 1) (swapL ys i (2 * i + 1)) w3):=by
         refine H2.out.step o hg hn0 hi1 hj1 (by omega) (by omega) (λ k h1 h2 h3=>?_) HM.out hr3 ho3
         have hGy : All GK ys:=λ x hx=>hg x (H2.out.2.1.subset hx)
         have hl:=H2.out.1.len
         rcases (by omega : k = 2 * i + 1 \/ k = 2 * i + 2) with rfl | rfl
         · cases e : lessK (ys.getD (2 * i + 1) z3) (ys.getD (2 * i + 1) z3) with
           | false=>rfl
           | true=>have:=o.asym _ _ (hGy.get _ (by omega)) (hGy.get _ (by omega)) e; rw [e] at this; cases this
         · exact HL.out
        clear hr3 ho3
        go_wp2_with fail
        go_roundw
        case rel=>exact ⟨2 * i + 1,_,by first | rfl | (congr 1; omega),by omega,by omega,H3⟩
        case measure=>simp [intOf]; omega
       | false=>
        have HM:=Lib.hid hl2; clear hl2
        go_wp2_with fail
        go_ret
        refine ⟨⟨_,rfl⟩,H2.out.done λ k h1 h2 h3=>?_⟩
        have hGy : All GK ys:=λ x hx=>hg x (H2.out.2.1.subset hx)
        have hl:=H2.out.1.len
        unfold okAt
        rw [h3]
        rcases (by omega : k = 2 * i + 1 \/ k = 2 * i + 2) with rfl | rfl
        · exact HM.out
        · exact o.trans _ _ _ (hGy.get _ (by omega)) (hGy.get _ (by omega)) (hGy.get _ (by omega)) HM.out HL.out
    · go_wp2_with fail
      refine (a6u (2 * i + 1) i (by omega) rfl (some ⟨g,0,none⟩) n cap ys (by omega) (by omega) _ H.out.1.read).mono ?_
      rintro e w1 ⟨rfl,hb⟩
      have H1:=Lib.hid (H.out.below hb)
      clear hb hc
      have hc:=H1.out.1.cell
      cases hl2 : lessK (ys.getD (2 * i + 1) z3) (ys.getD i z3) with
      | true=>
       have HM:=Lib.hid hl2; clear hl2
       go_wp2_with fail
       refine (a6v i (2 * i + 1) rfl (by omega) (by omega) (by omega) _ H1.out.1.row).mono ?_
       rintro e w3 ⟨rfl,hr3,ho3⟩
       have H3 : Hid (DownInv p base g n cap xs i0 n0 w (2 * i + 1) (swapL ys i (2 * i + 1)) w3):=by
        refine H1.out.step o hg hn0 hi1 hj1 (by omega) (by omega) (λ k h1 h2 h3=>?_) HM.out hr3 ho3
        have hGy : All GK ys:=λ x hx=>hg x (H1.out.2.1.subset hx)
        have hl:=H1.out.1.len
        obtain rfl : k = 2 * i + 1:=by omega
        cases e : lessK (ys.getD (2 * i + 1) z3) (ys.getD (2 * i + 1) z3) with
        | false=>rfl
        | true=>have:=o.asym _ _ (hGy.get _ (by omega)) (hGy.get _ (by omega)) e; rw [e] at this; cases this
       clear hr3 ho3
       go_wp2_with fail
       go_roundw
       case rel=>exact ⟨2 * i + 1,_,by first | rfl | (congr 1; omega),by omega,by omega,H3⟩
       case measure=>simp [intOf]; omega
      | false=>
       have HM:=Lib.hid hl2; clear hl2
       go_wp2_with fail
       go_ret
       refine ⟨⟨_,rfl⟩,H1.out.done λ k h1 h2 h3=>?_⟩
       have hGy : All GK ys:=λ x hx=>hg x (H1.out.2.1.subset hx)
       have hl:=H1.out.1.len
       unfold okAt
       rw [h3]
       obtain rfl : k = 2 * i + 1:=by omega
       exact HM.out
  · go_wp2_with fail
    go_ret
    exact ⟨⟨_,rfl⟩,H.out.done λ k h1 h2 h3=>by omega⟩
def b2G (p base : Nat) (v : Value) (xs : List K3) (x : K3) (w : World) (e : Ending) (w' : World) : Prop:=
 e = .returned (.tuple #[]) /\ ∃ v' ys,Kp p base w' v' ys /\ ys.Perm (x :: xs) /\ From lessK z3 ys 0 ys.length /\ (v'.ownBlock = v.ownBlock \/ ∃ b,v'.ownBlock = some b /\ w.heap.size <= b) /\ Only (λ k=>k = p \/ v.ownBlock = some k) w w'
set_option maxRecDepth 100000 in
set_option maxHeartbeats 400000 in
theorem b2H {p base : Nat} {v : Value} {xs : List K3} (o : Ord lessK GK) (x : K3) (w : World) (hk : Kp p base w v xs) (hB : base <= w.heap.size) (hl : xs.length <= 100000) (hg : All GK xs) (hx : GK x) (hf : From lessK z3 xs 0 xs.length) :
    Calls Tryz.prog 259 #[.iface 280 (.pointer (some ⟨p,0,none⟩)),.iface 266 (.agg #[.int .i64 x.1,.int .i64 x.2.1,.int .i64 x.2.2])] w (b2G p base v xs x w):=by
 have mp:=b9S
 have ml:=m_len
 have HK:=Lib.hid hk; have HX:=Lib.hid hx; have HG:=Lib.hid hg; have HF:=Lib.hid hf; clear hk hx hg hf
 go_enter Tryz.func259,Tryz.ntmps259
 go_wp2_with fail
 refine (b9P x w HK.out.blk HK.out.row hB (by omega)).mono ?_
 rintro e w1 ⟨rfl,v1,hb1,hr1,hat,ho⟩
 obtain ⟨g,cap,rfl,-⟩:=Kd.R_form hr1 (by simp)
 have hlen : (xs ++ [x]).length = xs.length + 1:=by simp
 rw [hlen] at hb1 hr1 hat
 have H1 : Hid (Kp p base w1 (.slice (some ⟨g,0,none⟩) (xs.length + 1) cap) (xs ++ [x])):=⟨hb1,hr1⟩
 have HA:=Lib.hid hat; have HO:=Lib.hid ho; clear hb1 hr1 hat ho hlen
 have hc:=H1.out.cell
 go_wp2_with fail
 refine (a6t _ _ _ _).mono ?_
 rintro e w2 ⟨rfl,rfl⟩
 go_wp2_with fail
 refine (b9T o xs.length (Nat.lt_succ_self _) _ H1.out ?hG ?hU).mono ?_
 case hG=>
  intro y hy
  rcases List.mem_append.1 hy with h | h
  · exact HG.out y h
  · rw [List.mem_singleton.1 h]; exact HX.out
 case hU=>exact Up.snoc HF.out
 rintro e w3 ⟨rfl,ys,h1,h2,h3,h4⟩
 have HP : Hid (b2G p base v xs x w (.returned (.tuple #[])) w3):=by
  refine ⟨rfl,_,ys,h1,h2.trans (List.perm_append_singleton _ _),by rw [<- h1.len]; exact h3,HA.out,HO.out.trans2 h4 λ k hk e=>?_⟩
  rcases HA.out with ha | ⟨b,hb,hle⟩
  · exact .inr (by rw [<- ha,e]; rfl)
  · have : g = b:=by simpa [Value.ownBlock] using hb
    omega
 clear h1 h2 h3 h4
 go_wp2_with fail
 go_end0
 exact HP.out
def b2I (p base g n cap : Nat) (xs : List K3) (w : World) (e : Ending) (w' : World) : Prop:=
 e = .returned (.iface 266 (.agg #[.int .i64 (xs.getD 0 z3).1,.int .i64 (xs.getD 0 z3).2.1,.int .i64 (xs.getD 0 z3).2.2])) /\ ∃ ys,Kp p base w' (.slice (some ⟨g,0,none⟩) n cap) ys /\ (xs.getD 0 z3 :: ys).Perm xs /\ From lessK z3 ys 0 n /\ Only (λ k=>k = p \/ k = g) w w'
set_option maxRecDepth 100000 in
set_option maxHeartbeats 400000 in
theorem b9W {p base g n cap : Nat} {xs : List K3} (o : Ord lessK GK) (w : World) (hk : Kp p base w (.slice (some ⟨g,0,none⟩) (n + 1) cap) xs) (hl : n <= 100000) (hg : All GK xs) (hf : From lessK z3 xs 0 (n + 1)) :
    Calls Tryz.prog 258 #[.iface 280 (.pointer (some ⟨p,0,none⟩))] w (b2I p base g n cap xs w):=by
 have mp:=m_pop
 have ml:=m_len
 have ms:=a8C
 have HK:=Lib.hid hk; have HG:=Lib.hid hg; have HF:=Lib.hid hf; clear hk hg hf
 have hc:=HK.out.cell
 have HN:=Lib.hid HK.out.len
 go_enter Tryz.func258,Tryz.ntmps258
 go_wp2_with fail
 refine (a6t _ _ _ _).mono ?_
 rintro e w2 ⟨rfl,rfl⟩
 go_wp2_with fail
 refine (a6v 0 n (by omega) (by omega) (by omega) (by omega) _ HK.out.row).mono ?_
 rintro e w1 ⟨rfl,hr1,ho1⟩
 have H1:=Lib.hid (HK.out.swapped hr1 ho1)
 have HO:=Lib.hid ho1
 clear hr1 ho1 hc
 have hc:=H1.out.cell
 go_wp2_with fail
 refine (b9V o 0 n (by omega) (by omega) (by omega) _ H1.out ?hG ?hU).mono ?_
 case hG=>exact λ y hy=>HG.out y ((a4d _ _ _ (by rw [<- HN.out]; omega) (by rw [<- HN.out]; omega)).subset hy)
 case hU=>exact From.swapped (by rw [<- HN.out]; omega) HF.out
 rintro e w2 ⟨⟨b,rfl⟩,ys,h1,h2,h3,h4,h5⟩
 have H2:=Lib.hid h1; have HP:=Lib.hid h2; have HF2:=Lib.hid h3; have HE:=Lib.hid (h4 n (Nat.le_refl _)); have HO2:=Lib.hid h5
 clear h1 h2 h3 h4 h5 hc
 have hc:=H2.out.cell
 go_wp2_with fail
 refine (b9Q _ H2.out.blk H2.out.row).mono ?_
 rintro e w3 ⟨rfl,hb3,hr3,ho3⟩
 have HQ : Hid (b2I p base g n cap xs w (.returned (.iface 266 (.agg #[.int .i64 (ys.getD n z3).1,.int .i64 (ys.getD n z3).2.1,.int .i64 (ys.getD n z3).2.2]))) w3):=by
  have e1 : ys.getD n z3 = xs.getD 0 z3:=by
   rw [HE.out]
   show (swap z3 xs 0 n).getD n z3 = _
   rw [a3b _ _ _ _ (by rw [<- HN.out]; omega) (by rw [<- HN.out]; omega),if_pos rfl]
  refine ⟨by rw [e1],ys.take n,⟨hb3,hr3⟩,popped HN.out.symm HP.out HE.out,HF2.out.taken,?_⟩
  exact ((HO.out.trans HO2.out).mono (S':=λ k=>k = p \/ k = g) (λ _ _ h=>.inr h)).trans (ho3.mono (λ _ _ h=>.inl h))
 clear hb3 hr3 ho3
 go_wp2_with fail
 go_ret
 exact HQ.out
end Go.Proofs.YtflfjpkmjnnodaaGreat
namespace Go.Proofs.YtflfjpkmjnnodaaGreat
open Go.RowKit Go.Proofs.YtflfjpkmjnnodaaGreatW.PrintWords
def logT (t : Int) : Nat:=((List.range 12).find? (λ r=>t == 2 ^ (r + 1))).elim 0 (· + 1)
def logC (c : List Int) : Nat:=logT (a1b c)
theorem a6w {t : Int} {r : Nat} (h1 : 1 <= r) (h2 : r <= 12) (h : t = 2 ^ r) : logT t = r:=by
 obtain ⟨m,rfl⟩ : ∃ m,r = m + 1:=⟨r - 1,by omega⟩
 have hm : m < 12:=by omega
 subst h
 have : ∀ m : Fin 12,logT (2 ^ (m.val + 1)) = m.val + 1:=by decide
 exact this ⟨m,hm⟩
theorem b2J {t : Int} (h : ∀ r,1 <= r -> r <= 12 -> t ≠ 2 ^ r) : logT t = 0:=by
 unfold logT
 rw [List.find?_eq_none.2]
 · rfl
 · intro r hr
   have:=List.mem_range.1 hr
   simp only [beq_iff_eq]
   exact h (r + 1) (by omega) (by omega)
theorem a1S (t : Int) : logT t <= 12:=by
 unfold logT
 cases h : (List.range 12).find? (λ r=>t == 2 ^ (r + 1)) with
 | none=>simp
 | some r=>have:=List.mem_range.1 (List.mem_of_find?_eq_some h); simp; omega
theorem a8D {t : Int} (h : logT t ≠ 0) : t = 2 ^ logT t:=by
 unfold logT at h ⊢
 cases e : (List.range 12).find? (λ r=>t == 2 ^ (r + 1)) with
 | none=>simp [e] at h
 | some r=>have:=List.find?_some e; simpa using this
def a6x (c : List Int) (w : World) (e : Ending) (w' : World) : Prop:=e = .returned (.tuple #[.int .i64 (logC c),.bool (decide (logC c ≠ 0))]) /\ w = w'
theorem a1A {r : Nat} (h : r <= 12) : 1 <= (2 : Int) ^ r /\ (2 : Int) ^ r <= 4096:=by
 have : ∀ r : Fin 13,1 <= (2 : Int) ^ r.val /\ (2 : Int) ^ r.val <= 4096:=by decide
 exact this ⟨r,by omega⟩
set_option maxRecDepth 100000 in
set_option maxHeartbeats 400000 in
theorem a5o (A : Option Addr) (cp : Nat) (c : List Int) (w : World) (hr : (Kd.int .i64).C w A c.length c) :
    Calls Tryz.prog 204 #[.slice A c.length cp] w (a6x c w):=by
 have HR:=Lib.hid hr
 clear hr
 go_enter Tryz.func204,Tryz.ntmps204
 go_wp2_with fail
 refine (b2f _ _ _ _ HR.out).mono ?_
 obtain ⟨t,ht⟩ : ∃ t,t = a1b c:=⟨_,rfl⟩
 rw [<- ht]
 have HT:=Lib.hid ht
 clear ht
 rintro e w' ⟨rfl,rfl⟩
 go_wp2_with fail
 go_loop [5] (λ rv=>∃ (r : Nat),rv = .int .i64 r /\ 1 <= r /\ r <= 13 /\ Hid (∀ m,1 <= m -> m < r -> t ≠ 2 ^ m)) (λ rv=>13 - (intOf rv).toNat)
 case atStart=>exact ⟨1,rfl,by omega,by omega,λ m h1 h2=>by omega⟩
 case round=>
  obtain ⟨r,rfl,h1,h2,H⟩:=hrel
  by_cases hlt : r <= 12
  · have hp:=a1A hlt
    have hwr : wrap64 (2 ^ r) = 2 ^ r:=w64 (by omega)
    by_cases he : t = 2 ^ r
    · have hb : (t == wrap64 (2 ^ r)) = true:=by rw [hwr]; simpa using he
      have HE : Hid (logC c = r):=by unfold logC; rw [<- HT.out]; exact a6w h1 hlt he
      clear hp hwr he
      go_wp2_with fail
      go_ret2
      exact ⟨by rw [HE.out]; simp; omega,rfl⟩
    · have hb : (t == wrap64 (2 ^ r)) = false:=by rw [hwr]; simpa using he
      have HN : Hid (∀ m,1 <= m -> m < r + 1 -> t ≠ 2 ^ m):=by
       intro m h3 h4 h5
       by_cases hm : m = r
       · subst hm; exact he h5
       · exact H.out m h3 (by omega) h5
      clear hp hwr he
      go_wp2_with fail
      go_round
      case rel=>exact ⟨r + 1,by go_num,by omega,by omega,HN⟩
      case measure=>simp [intOf]; omega
  · have HE : Hid (logC c = 0):=by unfold logC; rw [<- HT.out]; exact b2J (λ m h3 h4=>H.out m h3 (by omega))
    go_wp2_with fail
    go_ret2
    exact ⟨by rw [HE.out]; simp,rfl⟩
set_option maxRecDepth 100000 in
set_option maxHeartbeats 400000 in
theorem b2K (A : Option Addr) (cp : Nat) (c : List Int) (w : World) (hr : (Kd.int .i64).C w A c.length c) :
    Calls Tryz.prog 217 #[.slice A c.length cp] w λ e w'=>e = .returned (.int .i64 (logC c)) /\ w = w':=by
 have HR:=Lib.hid hr
 clear hr
 go_enter Tryz.func217,Tryz.ntmps217
 go_wp2_with fail
 refine (a5o _ _ _ _ HR.out).mono ?_
 rintro e w' ⟨rfl,rfl⟩
 go_wp2_with fail
 go_ret
 exact ⟨rfl,rfl⟩
set_option maxRecDepth 100000 in
set_option maxHeartbeats 400000 in
theorem b9X (A : Option Addr) (cp : Nat) (c : List Int) (r : Int) (w : World) (hr : (Kd.int .i64).C w A c.length c) :
    Calls Tryz.prog 213 #[.slice A c.length cp,.int .i64 r] w λ e w'=>e = .returned (.bool (decide (logC c ≠ 0 /\ (logC c : Int) = r))) /\ w = w':=by
 have HR:=Lib.hid hr
 clear hr
 go_enter Tryz.func213,Tryz.ntmps213
 go_wp2_with fail
 refine (a5o _ _ _ _ HR.out).mono ?_
 rintro e w' ⟨rfl,rfl⟩
 by_cases h : logC c ≠ 0
 · have h' : decide (logC c ≠ 0) = true:=decide_eq_true h
   rw [h']
   have HH:=Lib.hid h
   clear h h'
   go_wp2_with fail
   go_ret
   refine ⟨a0S ?_,rfl⟩
   have:=HH.out
   rw [Bool.eq_iff_iff]; simp [this]
 · have h' : decide (logC c ≠ 0) = false:=decide_eq_false h
   rw [h']
   have HH:=Lib.hid h
   clear h h'
   go_wp2_with fail
   go_ret
   refine ⟨a0S ?_,rfl⟩
   have:=HH.out
   simp [this]
end Go.Proofs.YtflfjpkmjnnodaaGreat
namespace Go.Proofs.YtflfjpkmjnnodaaGreat
open Go.RowKit HeapL
theorem rightB_iff {i q s : Int} : a0Y i q s = true ↔ 1 <= q /\ q <= 4096 /\ q <= i /\ i < 2 * q /\ 0 <= s /\ s < 256:=by
 unfold a0Y; exact decide_eq_true_iff
theorem a8E {x y : Int} (h1 : 0 <= x) (h2 : x <= 8192) (h3 : 0 <= y) (h4 : y <= 8192) : 0 <= x * y /\ x * y <= 67108864:=
 ⟨Int.mul_nonneg h1 h3,Int.le_trans (Int.mul_le_mul h2 h4 h3 (by omega)) (by omega)⟩
theorem wmul {x y : Int} (h1 : 0 <= x) (h2 : x <= 8192) (h3 : 0 <= y) (h4 : y <= 8192) : wrap64 (x * y) = x * y:=by
 have:=a8E h1 h2 h3 h4; exact w64 (by omega)
theorem b2L {x y : Int} : cmpI x y < 0 ↔ x < y:=by unfold cmpI; split <;> (try split) <;> omega
theorem cmpI_zero {x y : Int} : cmpI x y = 0 ↔ x = y:=by unfold cmpI; split <;> (try split) <;> omega
theorem a8F {x y : K3} (hx : GK x) (hy : GK y) : lessK x y = true ↔ x.1 * y.2.1 < y.1 * x.2.1 \/ (x.1 * y.2.1 = y.1 * x.2.1 /\ x.2.2 < y.2.2):=by
 have a:=rightB_iff.1 hx; have b:=rightB_iff.1 hy
 unfold lessK cmpK
 rw [if_pos (by simp [show a0Y x.1 x.2.1 x.2.2 = true from hx,show a0Y y.1 y.2.1 y.2.2 = true from hy]),wmul (by omega) (by omega) (by omega) (by omega),wmul (by omega) (by omega) (by omega) (by omega),decide_eq_true_iff]
 by_cases h : cmpI (x.1 * y.2.1) (y.1 * x.2.1) = 0
 · rw [if_pos h,b2L]
   have:=cmpI_zero.1 h
   omega
 · rw [if_neg h,b2L]
   have : ¬ x.1 * y.2.1 = y.1 * x.2.1:=λ e=>h (cmpI_zero.2 e)
   omega
theorem a2d {x y : K3} (hx : GK x) (hy : GK y) : lessK x y = false ↔ y.1 * x.2.1 < x.1 * y.2.1 \/ (x.1 * y.2.1 = y.1 * x.2.1 /\ y.2.2 <= x.2.2):=by
 rw [<- Bool.not_eq_true,a8F hx hy]; omega
theorem cross {i p j q k r : Int} (hp : 1 <= p) (hq : 1 <= q) (hr : 1 <= r) (h1 : i * q <= j * p) (h2 : j * r <= k * q) : i * r <= k * p /\ (i * q < j * p \/ j * r < k * q -> i * r < k * p):=by
 have e1 : i * q * r = i * r * q:=by rw [Int.mul_assoc,Int.mul_comm q r,<- Int.mul_assoc]
 have e2 : j * p * r = j * r * p:=by rw [Int.mul_assoc,Int.mul_comm p r,<- Int.mul_assoc]
 have e3 : k * q * p = k * p * q:=by rw [Int.mul_assoc,Int.mul_comm q p,<- Int.mul_assoc]
 have a1 : i * q * r <= j * p * r:=Int.mul_le_mul_of_nonneg_right h1 (by omega)
 have a2 : j * r * p <= k * q * p:=Int.mul_le_mul_of_nonneg_right h2 (by omega)
 refine ⟨Int.le_of_mul_le_mul_right (a:=q) (by omega) (by omega),λ h=>Int.lt_of_mul_lt_mul_right (a:=q) ?_ (by omega)⟩
 rcases h with h | h
 · have:=Int.mul_lt_mul_of_pos_right h (show 0 < r by omega); omega
 · have:=Int.mul_lt_mul_of_pos_right h (show 0 < p by omega); omega
theorem ordK : Ord lessK GK where
 asym a b ha hb h:=by
  rw [a8F ha hb] at h
  rw [a2d hb ha]; omega
 trans a b c ha hb hc h1 h2:=by
  rw [a2d hb ha] at h1
  rw [a2d hc hb] at h2
  rw [a2d hc ha]
  have a1:=rightB_iff.1 ha; have a2:=rightB_iff.1 hb; have a3:=rightB_iff.1 hc
  have:=@cross a.1 a.2.1 b.1 b.2.1 c.1 c.2.1 (by omega) (by omega) (by omega) (by omega) (by omega)
  omega
def leK (a b : K3) : Prop:=lessK b a = false
theorem a6y {a : K3} (ha : GK a) : leK a a:=by
 unfold leK; rw [a2d ha ha]; omega
theorem a8G {a b c : K3} (ha : GK a) (hb : GK b) (hc : GK c) (h1 : leK a b) (h2 : leK b c) : leK a c:=ordK.trans a b c ha hb hc h1 h2
def a1n (x : K3) : List K3:=(List.range (2 * x.2.1 - x.1).toNat).map λ (d : Nat)=>(x.1 + d,x.2.1,x.2.2)
def a0Z (n : Int) (s : Nat) : List K3:=(List.range n.toNat).map λ (d : Nat)=>(n + d,n,(s : Int))
def a0B (q : List Int) : List K3:=q.zipIdx.flatMap λ p=>a0Z p.1 p.2
theorem b9Y (n : Int) (s : Nat) : a1n (n,n,s) = a0Z n s:=by
 unfold a1n a0Z
 rw [show (2 * n - n).toNat = n.toNat by congr 1; omega]
theorem b2M {x : K3} (h : x.1 + 1 = 2 * x.2.1) : a1n x = [x]:=by
 unfold a1n
 rw [show (2 * x.2.1 - x.1).toNat = 1 by omega]
 simp
theorem b2N {x : K3} (h : x.1 + 1 < 2 * x.2.1) : a1n x = x :: a1n (x.1 + 1,x.2.1,x.2.2):=by
 unfold a1n
 rw [show (2 * x.2.1 - x.1).toNat = (2 * x.2.1 - (x.1 + 1)).toNat + 1 by omega,List.range_succ_eq_map]
 simp only [List.map_cons,List.map_map]
 congr 1
 · simp
 · apply List.map_congr_left
   intro d _
   simp; omega
theorem b9Z (q : List Int) (n : Int) : a0B (q ++ [n]) = a0B q ++ a0Z n q.length:=by
 simp [a0B,List.zipIdx_append]
theorem a3c {q : List Int} {k : Nat} (h : k < q.length) : a0B (q.take (k + 1)) = a0B (q.take k) ++ a0Z (q.getD k 0) k:=by
 rw [List.take_succ_eq_append_getElem h,b9Z,List.getD_eq_getElem?_getD,List.getElem?_eq_getElem h,Option.getD_some,List.length_take,Nat.min_eq_left (by omega)]
theorem b2O {n : Int} (h : ¬ 0 < n) (s : Nat) : a0Z n s = []:=by
 unfold a0Z; rw [show n.toNat = 0 by omega]; rfl
structure Good (q : List Int) : Prop where
 len : q.length = 256
 nonneg : ∀ x ∈ q,0 <= x
 sum : q.sum <= 4096
theorem Good.get {q : List Int} (h : Good q) (k : Nat) : 0 <= q.getD k 0 /\ q.getD k 0 <= 4096:=by
 rw [List.getD_eq_getElem?_getD]
 by_cases hk : k < q.length
 · rw [List.getElem?_eq_getElem hk,Option.getD_some]
   have:=h.nonneg _ (List.getElem_mem hk); have:=a6l h.nonneg (List.getElem_mem hk); have:=h.sum; omega
 · rw [List.getElem?_eq_none (by omega)]; simp
theorem a6z {q : List Int} (h : ∀ x ∈ q,0 <= x) : ((a0B q).length : Int) = q.sum:=by
 have key : ∀ (l : List Int) (k : Nat),(∀ x ∈ l,0 <= x) -> (((l.zipIdx k).flatMap λ p=>a0Z p.1 p.2).length : Int) = l.sum:=by
  intro l
  induction l with
  | nil=>intro k _; simp
  | cons a l ih=>
   intro k hl
   have:=ih (k + 1) (λ x hx=>hl x (by simp [hx]))
   have ha:=hl a (by simp)
   simp only [List.zipIdx_cons,List.flatMap_cons,List.length_append,List.sum_cons,Int.natCast_add,this]
   simp [a0Z]; omega
 exact key q 0 h
structure Fill (q : List Int) (k : Nat) (xs : List K3) : Prop where
 good : All GK xs
 heap : From lessK z3 xs 0 xs.length
 perm : (xs.flatMap a1n).Perm (a0B (q.take k))
 len : xs.length <= k
theorem Fill.start (q : List Int) : Fill q 0 []:=⟨(λ _ h=>by cases h),(λ k h1 h2 _=>by simp at h2),by simp [a0B],Nat.le_refl _⟩
theorem Fill.skip {q : List Int} {k : Nat} {xs : List K3} (h : Fill q k xs) (hk : k < q.length) (hn : ¬ 0 < q.getD k 0) : Fill q (k + 1) xs:=
 ⟨h.good,h.heap,by rw [a3c hk,b2O hn,List.append_nil]; exact h.perm,Nat.le_succ_of_le h.len⟩
theorem b2P {q : List Int} (hq : Good q) {k : Nat} (hk : k < 256) (hn : 0 < q.getD k 0) : GK (q.getD k 0,q.getD k 0,(k : Int)):=by
 have:=hq.get k
 exact rightB_iff.2 (by simp only []; omega)
theorem Fill.put {q : List Int} (hq : Good q) {k : Nat} {xs ys : List K3} (h : Fill q k xs) (hk : k < q.length) (hn : 0 < q.getD k 0) (hp : ys.Perm ((q.getD k 0,q.getD k 0,(k : Int)) :: xs)) (hh : From lessK z3 ys 0 ys.length) : Fill q (k + 1) ys where
 good:=λ x hx=>by
  rcases List.mem_cons.1 (hp.subset hx) with rfl | hx
  · exact b2P hq (by have:=hq.len; omega) hn
  · exact h.good x hx
 heap:=hh
 perm:=by
  rw [a3c hk]
  refine (hp.flatMap_right a1n).trans ?_
  rw [List.flatMap_cons,b9Y]
  exact List.perm_append_comm.trans (List.Perm.append_right _ h.perm)
 len:=by rw [hp.length_eq,List.length_cons]; have:=h.len; omega
structure Pour (q : List Int) (out xs : List K3) : Prop where
 good : All GK xs
 heap : From lessK z3 xs 0 xs.length
 perm : (out ++ xs.flatMap a1n).Perm (a0B q)
 goodOut : All GK out
 sorted : out.Pairwise leK
 before : ∀ a ∈ out,∀ b ∈ xs,leK a b
theorem Pour.start {q : List Int} {xs : List K3} (h : Fill q q.length xs) : Pour q [] xs:=
 ⟨h.good,h.heap,by have:=h.perm; rw [List.take_length] at this; simpa using this,(λ _ h=>by cases h),.nil,(λ _ h=>by cases h)⟩
theorem c0a {x : K3} (hx : GK x) : x ∈ a1n x:=by
 have:=rightB_iff.1 hx
 unfold a1n
 exact List.mem_map.2 ⟨0,List.mem_range.2 (by omega),by simp⟩
theorem Pour.root {q : List Int} {out xs : List K3} (h : Pour q out xs) : ∀ b ∈ xs,leK (xs.getD 0 z3) b:=by
 intro b hb
 obtain ⟨k,hk,rfl⟩:=List.getElem_of_mem hb
 have:=From.root ordK h.heap (Nat.le_refl _) h.good k hk
 rwa [List.getD_eq_getElem?_getD,List.getElem?_eq_getElem hk,Option.getD_some] at this
theorem Pour.len {q : List Int} (hq : Good q) {out xs : List K3} (h : Pour q out xs) : out.length + (xs.flatMap a1n).length <= 4096:=by
 have h1:=h.perm.length_eq
 have h2:=a6z hq.nonneg
 have h3:=hq.sum
 rw [List.length_append] at h1
 omega
theorem Pour.done {q : List Int} {out : List K3} (h : Pour q out []) : out.Perm (a0B q):=by
 have:=h.perm; simpa using this
theorem Pour.last {q : List Int} {out xs ys : List K3} (h : Pour q out xs) (hn : 0 < xs.length) (hp : (xs.getD 0 z3 :: ys).Perm xs) (hh : From lessK z3 ys 0 ys.length) (hl : (xs.getD 0 z3).1 + 1 = 2 * (xs.getD 0 z3).2.1) : Pour q (out ++ [xs.getD 0 z3]) ys:=by
 have hx : GK (xs.getD 0 z3):=h.good.get 0 hn
 have hr:=h.root
 have hx0 : xs.getD 0 z3 ∈ xs:=by rw [List.getD_eq_getElem?_getD,List.getElem?_eq_getElem hn]; exact List.getElem_mem hn
 refine ⟨λ y hy=>h.good y (hp.subset (List.mem_cons_of_mem _ hy)),hh,?_,?_,?_,?_⟩
 · refine List.Perm.trans ?_ h.perm
   rw [List.append_assoc]
   refine List.Perm.append_left _ ?_
   have:=hp.flatMap_right a1n
   rw [List.flatMap_cons,b2M hl] at this
   exact this
 · intro y hy
   rcases List.mem_append.1 hy with h1 | h1
   · exact h.goodOut y h1
   · rw [List.mem_singleton.1 h1]; exact hx
 · rw [List.pairwise_append]
   refine ⟨h.sorted,List.pairwise_singleton _ _,λ a ha b hb=>?_⟩
   rw [List.mem_singleton.1 hb]; exact h.before a ha _ hx0
 · intro a ha b hb
   have hb' : b ∈ xs:=hp.subset (List.mem_cons_of_mem _ hb)
   rcases List.mem_append.1 ha with h1 | h1
   · exact h.before a h1 b hb'
   · rw [List.mem_singleton.1 h1]; exact hr b hb'
theorem a6A {x : K3} (hx : GK x) (hl : x.1 + 1 ≠ 2 * x.2.1) : GK (x.1 + 1,x.2.1,x.2.2):=by
 have:=rightB_iff.1 hx; exact rightB_iff.2 (by simp only []; omega)
theorem c0b {x : K3} (hx : GK x) (hl : x.1 + 1 ≠ 2 * x.2.1) : leK x (x.1 + 1,x.2.1,x.2.2):=by
 have:=rightB_iff.1 hx
 unfold leK
 rw [a2d (a6A hx hl) hx]
 left
 show x.1 * x.2.1 < (x.1 + 1) * x.2.1
 rw [Int.add_mul]; omega
theorem Pour.more {q : List Int} {out xs ys zs : List K3} (h : Pour q out xs) (hn : 0 < xs.length) (hp : (xs.getD 0 z3 :: ys).Perm xs) (hl : (xs.getD 0 z3).1 + 1 ≠ 2 * (xs.getD 0 z3).2.1)
    (hz : zs.Perm (((xs.getD 0 z3).1 + 1,(xs.getD 0 z3).2.1,(xs.getD 0 z3).2.2) :: ys)) (hh : From lessK z3 zs 0 zs.length) : Pour q (out ++ [xs.getD 0 z3]) zs:=by
 have hx : GK (xs.getD 0 z3):=h.good.get 0 hn
 have hr:=h.root
 have hx0 : xs.getD 0 z3 ∈ xs:=by rw [List.getD_eq_getElem?_getD,List.getElem?_eq_getElem hn]; exact List.getElem_mem hn
 have hb:=rightB_iff.1 hx
 refine ⟨?_,hh,?_,?_,?_,?_⟩
 · intro y hy
   rcases List.mem_cons.1 (hz.subset hy) with rfl | hy
   · exact a6A hx hl
   · exact h.good y (hp.subset (List.mem_cons_of_mem _ hy))
 · refine List.Perm.trans ?_ h.perm
   rw [List.append_assoc]
   refine List.Perm.append_left _ ?_
   have h1:=hp.flatMap_right a1n
   rw [List.flatMap_cons,b2N (by omega)] at h1
   have h2:=hz.flatMap_right a1n
   rw [List.flatMap_cons] at h2
   exact (List.Perm.cons _ h2).trans h1
 · intro y hy
   rcases List.mem_append.1 hy with h1 | h1
   · exact h.goodOut y h1
   · rw [List.mem_singleton.1 h1]; exact hx
 · rw [List.pairwise_append]
   refine ⟨h.sorted,List.pairwise_singleton _ _,λ a ha b hb=>?_⟩
   rw [List.mem_singleton.1 hb]; exact h.before a ha _ hx0
 · intro a ha b hb
   have ha' : GK a /\ leK a (xs.getD 0 z3):=by
    rcases List.mem_append.1 ha with h1 | h1
    · exact ⟨h.goodOut a h1,h.before a h1 _ hx0⟩
    · rw [List.mem_singleton.1 h1]; exact ⟨hx,a6y hx⟩
   rcases List.mem_cons.1 (hz.subset hb) with rfl | hb
   · exact a8G ha'.1 hx (a6A hx hl) ha'.2 (c0b hx hl)
   · have hb' : b ∈ xs:=hp.subset (List.mem_cons_of_mem _ hb)
     exact a8G ha'.1 hx (h.good b hb') ha'.2 (hr b hb')
def a3A (x : K3) : List K3 -> List K3
 | []=>[x]
 | y :: ys=>if lessK y x then y :: a3A x ys else x :: y :: ys
def a0r (q : List Int) : List K3:=(a0B q).foldr a3A []
theorem b2Q (x : K3) (l : List K3) : (a3A x l).Perm (x :: l):=by
 induction l with
 | nil=>exact .refl _
 | cons y ys ih=>
  unfold a3A
  split
  · exact (List.Perm.cons _ ih).trans (List.Perm.swap _ _ _)
  · exact .refl _
theorem c0c {x : K3} {l : List K3} (hx : GK x) (hl : All GK l) (hs : l.Pairwise leK) : (a3A x l).Pairwise leK:=by
 induction l with
 | nil=>exact List.pairwise_singleton _ _
 | cons y ys ih=>
  have hy : GK y:=hl y (by simp)
  have hys : All GK ys:=λ z hz=>hl z (by simp [hz])
  rw [List.pairwise_cons] at hs
  unfold a3A
  split
  · rename_i h
    rw [List.pairwise_cons]
    refine ⟨λ b hb=>?_,ih hys hs.2⟩
    rcases List.mem_cons.1 ((b2Q x ys).subset hb) with rfl | hb
    · exact ordK.asym _ _ hy hx h
    · exact hs.1 b hb
  · rename_i h
    have hxy : leK x y:=by unfold leK; simpa using h
    rw [List.pairwise_cons]
    refine ⟨λ b hb=>?_,List.pairwise_cons.2 hs⟩
    rcases List.mem_cons.1 hb with rfl | hb
    · exact hxy
    · exact a8G hx hy (hys b hb) hxy (hs.1 b hb)
theorem mem_allKeys {q : List Int} {x : K3} : x ∈ a0B q ↔ ∃ (s d : Nat),s < q.length /\ (d : Int) < q.getD s 0 /\ x = (q.getD s 0 + d,q.getD s 0,(s : Int)):=by
 simp only [a0B,List.mem_flatMap,a0Z,List.mem_map,List.mem_range]
 constructor
 · rintro ⟨⟨n,s⟩,hm,d,hd,rfl⟩
   rw [List.mem_zipIdx_iff_getElem?] at hm
   have hs:=(List.getElem?_eq_some_iff.1 hm).1
   have e : q.getD s 0 = n:=by rw [List.getD_eq_getElem?_getD,hm]; rfl
   exact ⟨s,d,hs,by rw [e]; simp only [] at hd; omega,by rw [e]⟩
 · rintro ⟨s,d,hs,hd,rfl⟩
   refine ⟨(q.getD s 0,s),?_,d,by simp only []; omega,rfl⟩
   rw [List.mem_zipIdx_iff_getElem?,List.getD_eq_getElem?_getD,List.getElem?_eq_getElem hs]; rfl
theorem a3B {q : List Int} (hq : Good q) : All GK (a0B q):=by
 intro x hx
 obtain ⟨s,d,hs,hd,rfl⟩:=mem_allKeys.1 hx
 have:=hq.get s; have:=hq.len
 exact rightB_iff.2 (by simp only []; omega)
theorem b2R {l : List K3} (hl : All GK l) : (l.foldr a3A []).Perm l /\ (l.foldr a3A []).Pairwise leK:=by
 induction l with
 | nil=>exact ⟨.refl _,.nil⟩
 | cons a l ih=>
  obtain ⟨h1,h2⟩:=ih (λ x hx=>hl x (by simp [hx]))
  rw [List.foldr_cons]
  exact ⟨(b2Q _ _).trans (List.Perm.cons _ h1),c0c (hl a (by simp)) (λ x hx=>hl x (by simp [h1.subset hx])) h2⟩
theorem a3d {q : List Int} (hq : Good q) : (a0r q).Perm (a0B q):=(b2R (a3B hq)).1
theorem a6B {q : List Int} (hq : Good q) : (a0r q).Pairwise leK:=(b2R (a3B hq)).2
theorem b2S {q : List Int} (hq : Good q) {a b : K3} (ha : a ∈ a0B q) (hb : b ∈ a0B q) (h1 : leK a b) (h2 : leK b a) : a = b:=by
 have ga:=a3B hq a ha; have gb:=a3B hq b hb
 unfold leK at h1 h2
 rw [a2d gb ga] at h1
 rw [a2d ga gb] at h2
 obtain ⟨s,d,hs,hd,rfl⟩:=mem_allKeys.1 ha
 obtain ⟨t,e,ht,he,rfl⟩:=mem_allKeys.1 hb
 simp only [] at h1 h2
 have est : (s : Int) = t:=by omega
 have : s = t:=by omega
 subst this
 have hp : 0 < q.getD s 0:=by omega
 have : q.getD s 0 + (d : Int) = q.getD s 0 + e:=Int.eq_of_mul_eq_mul_right (a:=q.getD s 0) (by omega) (by omega)
 rw [this]
theorem c0d {q : List Int} (hq : Good q) {out : List K3} (hp : out.Perm (a0B q)) (hs : out.Pairwise leK) : out = a0r q:=
 List.Perm.eq_of_pairwise (λ _ _ ha hb h1 h2=>b2S hq (hp.subset ha) ((a3d hq).subset hb) h1 h2) hs (a6B hq) (hp.trans (a3d hq).symm)
theorem Pour.order {q : List Int} (hq : Good q) {out : List K3} (h : Pour q out []) : out = a0r q:=c0d hq h.done h.sorted
end Go.Proofs.YtflfjpkmjnnodaaGreat
namespace Go.Proofs.YtflfjpkmjnnodaaGreat
open Go.RowKit Go.Proofs.YtflfjpkmjnnodaaGreatW.PrintWords
set_option maxRecDepth 100000 in
set_option maxHeartbeats 400000 in
theorem c0e (i q s : Int) (w : World) (h : a0Y i q s = true) (hl : i + 1 = 2 * q) :
    Calls Tryz.prog 263 #[.agg #[.int .i64 i,.int .i64 q,.int .i64 s]] w (Ret (.tuple #[.agg #[.int .i64 0,.int .i64 0,.int .i64 0],.bool false]) w):=by
 have hb : 1 <= q /\ q <= 4096:=by simp [a0Y] at h; omega
 have hi : 0 <= i /\ i <= 8192:=by simp [a0Y] at h; omega
 obtain ⟨hb1,hb2⟩:=hb
 obtain ⟨hi1,hi2⟩:=hi
 have HL : (i + 1 == 2 * q) = true:=by simpa using hl
 clear hl
 go_enter Tryz.func263,Tryz.ntmps263
 go_wp2_with fail
 refine (a3a _ _ _ _).mono ?_; rintro e w1 ⟨rfl,hb⟩; obtain ⟨hc1,hf1⟩:=bcell hb; have s1:=hb.size; simp only [World.size_alloc] at s1
 have Z1 : Below w.heap.size w w1:=(((Below.refl _ _).alloc (Nat.le_refl _) _).alloc (by simp) _).trans (hb.mono (by simp; omega))
 have z10 : w.heap.size < w1.heap.size:=by omega
 have z11 : w.heap.size + 1 < w1.heap.size:=by omega
 have HZ:=Lib.hid Z1
 clear hb Z1
 go_wp2_with fail
 refine bodyPost_ret (v:=.tuple #[.agg #[.int .i64 0,.int .i64 0,.int .i64 0],.bool false]) ?_ rfl ⟨rfl,?_⟩
 · simp [results,Tryz.results263,go_sem,hc1]
 · repeat (first | exact HZ.out | (refine Below.setCell ?_ (by simp) _))
set_option maxRecDepth 100000 in
set_option maxHeartbeats 400000 in
theorem c0f (i q s : Int) (w : World) (h : a0Y i q s = true) (hl : i + 1 ≠ 2 * q) :
    Calls Tryz.prog 263 #[.agg #[.int .i64 i,.int .i64 q,.int .i64 s]] w (Ret (.tuple #[.agg #[.int .i64 (i + 1),.int .i64 q,.int .i64 s],.bool true]) w):=by
 have hb : 1 <= q /\ q <= 4096:=by simp [a0Y] at h; omega
 have hi : 0 <= i /\ i <= 8192:=by simp [a0Y] at h; omega
 obtain ⟨hb1,hb2⟩:=hb
 obtain ⟨hi1,hi2⟩:=hi
 have HL : (i + 1 == 2 * q) = false:=by simpa using hl
 clear hl
 go_enter Tryz.func263,Tryz.ntmps263
 go_wp2_with fail
 refine (a3a _ _ _ _).mono ?_; rintro e w1 ⟨rfl,hb⟩; have s1:=hb.size; simp only [World.size_alloc] at s1
 have B0:=a0i (a0n (a0k w (.cells #[.int .i64 i,.int .i64 q,.int .i64 s] 266)) _) hb
 have B1:=a0i (a0k (w.alloc (.cells #[.int .i64 i,.int .i64 q,.int .i64 s] 266)) _) hb
 rw [World.size_alloc] at B1
 have Z1 : Below w.heap.size w w1:=(((Below.refl _ _).alloc (Nat.le_refl _) _).alloc (by simp) _).trans (hb.mono (by simp; omega))
 have HZ:=Lib.hid Z1
 clear hb Z1
 have a0:=(a0a B0 0).trans rfl
 have a1:=(a0a B0 1).trans rfl
 have a2:=(a0a B0 2).trans rfl
 have b0:=(a0a B1 0).trans rfl
 have b1:=(a0a B1 1).trans rfl
 have b2:=(a0a B1 2).trans rfl
 have f0:=a0e B0 0
 have g0:=a0e B1 0
 have g1:=a0e B1 1
 have g2:=a0e B1 2
 clear B0 B1
 go_wp2_with fail
 refine bodyPost_ret (v:=.tuple #[.agg #[.int .i64 (i + 1),.int .i64 q,.int .i64 s],.bool true]) ?_ rfl ⟨rfl,?_⟩
 · simp [results,Tryz.results263,go_sem,b0,b1,b2]
 · repeat (first | exact HZ.out | (refine Below.setCell ?_ (by simp) _))
open HeapL
theorem a3e {α : Type} {d : Kd α} (hE : d.E = []) {e : Nat} {w w1 : World} {base : Nat} {ok : Nat -> Prop} {v : Value} {xs : List α} {S : Nat -> Prop} (h : d.R e w base ok v xs) (ho : Only S w w1) (hs : ∀ k,v.ownBlock = some k -> ¬ S k) : d.R e w1 base (λ _=>True) v xs:=
 Kd.R_mono (Kd.R_step (Kd.R_tight hE h) (λ k hk hlt=>ho.block k hlt (hs k hk.symm))) (λ _ _=>trivial)
theorem c0g {α : Type} {d : Kd α} (hE : d.E = []) {e : Nat} {w w1 : World} {base : Nat} {ok : Nat -> Prop} {v : Value} {xs : List α} {row : Option Nat} (h : d.R e w base ok v xs) (hg : w.grownBy w1 row) (hs : ∀ k,v.ownBlock = some k -> some k ≠ row) (ok' : Nat -> Prop) (hok : ∀ k,v.ownBlock = some k -> ok' k) : d.R e w1 base ok' v xs:=
 Kd.R_mono (Kd.R_grown (Kd.R_tight hE h) hg (λ k hk=>hs k hk.symm)) (λ k hk=>hok k hk.symm)
theorem Kp.grown {p base : Nat} {w w1 : World} {v : Value} {xs : List K3} {row : Option Nat} (h : Kp p base w v xs) (hg : w.grownBy w1 row) (h1 : some p ≠ row) (h2 : ∀ k,v.ownBlock = some k -> some k ≠ row) : Kp p base w1 v xs:=
 ⟨a1e h.blk hg h1,c0g rfl h.row hg h2 _ (λ k hk=>h.row.1 k hk)⟩
theorem Kp.only_below {p base : Nat} {w w1 : World} {v : Value} {xs : List K3} (h : Kp p base w v xs) (hb : base <= p) (ho : Only (λ k=>k = p \/ v.ownBlock = some k) w w1) (hs : base <= w.heap.size) : Below base w w1:=
 ho.below hs (λ k hk=>hk.elim (λ e=>e ▸ hb) (λ e=>Kd.R_base h.row k e))
def c0h (q : List Int) (w : World) (e : Ending) (w' : World) : Prop:=∃ v,e = .returned v /\ k3.R 266 w' w.heap.size (λ _=>True) v (a0r q) /\ Below w.heap.size w w'
theorem c0i {xs : List K3} (h : All GK xs) : xs.length <= (xs.flatMap a1n).length:=by
 induction xs with
 | nil=>simp
 | cons a l ih=>
  have:=ih (λ x hx=>h x (by simp [hx]))
  have ha:=List.length_pos_of_mem (c0a (h a (by simp)))
  rw [List.flatMap_cons,List.length_append,List.length_cons]; omega
def a6C (p base : Nat) (q : List Int) (w : World) (outs : List K3) (v vo : Value) (xs : List K3) (wr : World) : Prop:=
 Kp p base wr v xs /\ k3.R 266 wr base (λ _=>True) vo outs /\ (∀ k,vo.ownBlock = some k -> k ≠ p /\ v.ownBlock ≠ some k) /\ Pour q outs xs /\ Below base w wr
def a6D (p base : Nat) (q : List Int) (w : World) (k : Nat) (v : Value) (xs : List K3) (wr : World) : Prop:=Kp p base wr v xs /\ Fill q k xs /\ Below base w wr
set_option maxRecDepth 100000 in
set_option maxHeartbeats 1000000 in
theorem c0j (A : Option Addr) (c : Nat) (q : List Int) (w : World) (hq : Good q) (hr : (Kd.int .i64).C w A q.length q) :
    Calls Tryz.prog 241 #[.slice A q.length c] w (c0h q w):=by
 have hlen:=hq.len
 obtain ⟨ad,rfl,hcs⟩:=a5m hr (by omega)
 rw [hlen] at hcs ⊢
 have HC:=Lib.hid hcs
 have HQ:=Lib.hid hq
 have HE:=Lib.hid hlen
 clear hcs hr hq hlen
 obtain ⟨p,hp⟩ : ∃ p,p = w.heap.size:=⟨_,rfl⟩
 have HP:=Lib.hid hp
 have HI : Hid (a6D w.heap.size w.heap.size q w 0 (.slice none 0 0) [] (w.alloc (.cells #[.slice none 0 0] 279))):=
  ⟨⟨a0k _ _,Kd.R_nil _ _ _ _ _⟩,Fill.start q,(Below.refl _ _).alloc (Nat.le_refl _) _⟩
 clear hp
 go_enter Tryz.func241,Tryz.ntmps241
 go_wp2_with fail
 go_loopw [12] (λ kv wr=>∃ (k : Nat) (v : Value) (xs : List K3),kv = .int .i64 k /\ k <= 256 /\ Hid (a6D w.heap.size w.heap.size q w k v xs wr)) (λ kv _=>256 - (intOf kv).toNat)
 case atStart=>exact ⟨0,_,_,rfl,by omega,HI⟩
 case round=>
  obtain ⟨k,v,xs,rfl,hk,H⟩:=hrel
  by_cases hlt : k < 256
  · have hcell:=a0t H.out.2.2 (HC.out k hlt)
    obtain ⟨x,hx⟩ : ∃ x,x = q.getD k 0:=⟨_,rfl⟩
    rw [<- hx] at hcell
    have HX:=Lib.hid hx
    have hx2:=HQ.out.get k
    rw [<- hx] at hx2
    obtain ⟨hx0,hx1⟩:=hx2
    clear hx
    by_cases hpos : 0 < x
    · go_wp2_with fail
      refine (b2H ordK (x,x,(k : Int)) _ H.out.1 H.out.2.2.size (by have:=H.out.2.1.len; omega) H.out.2.1.good (by have:=b2P HQ.out hlt (by rw [<- HX.out]; exact hpos); rw [<- HX.out] at this; exact this) H.out.2.1.heap).mono ?_
      rintro e w1 ⟨rfl,v',ys,h1,h2,h3,h4,h5⟩
      have H1 : Hid (a6D w.heap.size w.heap.size q w (k + 1) v' ys w1):=
       ⟨h1,H.out.2.1.put HQ.out (by rw [HE.out]; exact hlt) (by rw [<- HX.out]; exact hpos) (by rw [<- HX.out]; exact h2) h3,H.out.2.2.trans (H.out.1.only_below (Nat.le_refl _) h5 H.out.2.2.size)⟩
      clear h1 h2 h3 h4 h5 hcell
      go_wp2_with fail
      go_roundw
      case rel=>exact ⟨k + 1,_,_,by go_num,by omega,H1⟩
      case measure=>simp [intOf]; omega
    · have H1 : Hid (a6D w.heap.size w.heap.size q w (k + 1) v xs wr):=
        ⟨H.out.1,H.out.2.1.skip (by rw [HE.out]; exact hlt) (by rw [<- HX.out]; exact hpos),H.out.2.2⟩
      go_wp2_with fail
      go_roundw
      case rel=>exact ⟨k + 1,_,_,by go_num,by omega,H1⟩
      case measure=>simp [intOf]; omega
  · go_wp2_with fail
    obtain rfl : k = 256:=by omega
    have HS : Hid (a6C w.heap.size w.heap.size q w [] v (.slice none 0 0) xs wr):=
     ⟨H.out.1,Kd.R_nil _ _ _ _ _,(λ k hk=>by simp [Value.ownBlock] at hk),Pour.start (by rw [HE.out]; exact H.out.2.1),H.out.2.2⟩
    have ta:=b2B
    clear H
    go_loopg [6] 4096 (λ kq vo wr=>∃ (outs : List K3) (v : Value) (xs : List K3),Hid (a6C w.heap.size w.heap.size q w outs v vo xs wr /\ (xs.flatMap a1n).length <= kq))
    case atStart=>exact ⟨[],v,xs,HS.out,by have:=HS.out.2.2.2.1.len HQ.out; omega⟩
    case round=>
     obtain ⟨outs,v,xs,H⟩:=hrel
     by_cases hz : xs.length = 0
     · obtain ⟨A1,c1,rfl⟩:=Kd.R_slice H.out.1.1.row
       have hc:=H.out.1.1.cell
       have hz' : ¬ (0 < xs.length):=by omega
       have HZ:=Lib.hid hz
       clear hz
       go_wp2_with fail
       refine (a6t _ _ _ _).mono ?_
       rintro e w2 ⟨rfl,rfl⟩
       go_wp2_with fail
       go_ret
       obtain ⟨⟨h1,h2,h3,h4,h5⟩,-⟩:=H.out
       obtain rfl:=List.length_eq_zero_iff.1 HZ.out
       exact ⟨_,rfl,by rw [<- h4.order HQ.out]; exact h2,h5⟩
     · obtain ⟨g,cap,rfl,-⟩:=Kd.R_form H.out.1.1.row (by omega)
       obtain ⟨n,hn⟩ : ∃ n,xs.length = n + 1:=⟨xs.length - 1,by omega⟩
       rw [hn] at H
       have HN:=Lib.hid hn
       have hc:=H.out.1.1.cell
       have hz' : n <= 4096:=by have:=H.out.1.2.2.2.1.len HQ.out; have:=c0i H.out.1.2.2.2.1.good; omega
       clear hz hn
       go_wp2_with fail
       refine (a6t _ _ _ _).mono ?_
       rintro e w2 ⟨rfl,rfl⟩
       go_wp2_with fail
       refine (b9W ordK _ H.out.1.1 (by omega) H.out.1.2.2.2.1.good (by have:=H.out.1.2.2.2.1.heap; rw [HN.out] at this; exact this)).mono ?_
       rintro e w1 ⟨rfl,ys,h1,h2,h3,h4⟩
       obtain ⟨x,hx⟩ : ∃ x,x = xs.getD 0 z3:=⟨_,rfl⟩
       rw [<- hx] at h2 ⊢
       have HX:=Lib.hid hx
       have H1:=Lib.hid h1; have HY:=Lib.hid h2; have HF:=Lib.hid h3; have HO:=Lib.hid h4
       clear hx h1 h2 h3 h4 hc
       have HV : Hid (k3.R 266 w1 w.heap.size (λ _=>True) u6 outs):=
        a3e rfl H.out.1.2.1 HO.out (λ k hk e=>e.elim (H.out.1.2.2.1 k hk).1 (λ e=>(H.out.1.2.2.1 k hk).2 (by rw [e]; rfl)))
       have HB1 : Hid (Below w.heap.size w w1):=H.out.1.2.2.2.2.trans (H.out.1.1.only_below (Nat.le_refl _) (HO.out.mono (λ k _ e=>e.imp_right (λ e=>by rw [e]; rfl))) H.out.1.2.2.2.2.size)
       have HL : Hid ((outs.length + 1) * 24 <= 140737488355328):=by have:=H.out.1.2.2.2.1.len HQ.out; show _ <= _; omega
       have HS1 : Hid (w.heap.size <= (w1.alloc (.cells #[.int .i64 x.1,.int .i64 x.2.1,.int .i64 x.2.2] 266)).heap.size):=by show _ <= _; have:=HB1.out.size; simp; omega
       have HB2 : Hid (Below w.heap.size w (w1.alloc (.cells #[.int .i64 x.1,.int .i64 x.2.1,.int .i64 x.2.2] 266))):=HB1.out.alloc HB1.out.size _
       have HNE : Hid (some w1.heap.size ≠ u6.ownBlock):=λ e=>by have:=Kd.R_lt HV.out _ e.symm; omega
       go_wp2_with (at_builtin; refine Kd.R_append k3 (w0:=w) (W:=w1.alloc (.cells #[.int .i64 x.1,.int .i64 x.2.1,.int .i64 x.2.2] 266)) w.heap.size rfl (.tmp 33) (.tmp 35) 263 266 _ 24 rfl Tryz.underlying263 b2A rfl (by decide) (by decide) u6 outs x [.int .i64 x.1,.int .i64 x.2.1,.int .i64 x.2.2] (λ _=>True) (λ _=>False) rfl (by simp [go_sem]) (a5n _ _ _ x) (λ _ h=>h.elim) (λ _ _=>trivial) (Kd.R_alloc HV.out _) HB2.out HS1.out HL.out ?_; intro v2 w2 hr2 hb2 hg2 hat2; have HK2:=Lib.hid (a1e (a0k w1 (.cells #[.int .i64 x.1,.int .i64 x.2.1,.int .i64 x.2.2] 266)) hg2 HNE.out); have c0:=(a0a HK2.out 0).trans rfl; have c1:=(a0a HK2.out 1).trans rfl; have c2:=(a0a HK2.out 2).trans rfl; have HR2:=Lib.hid hr2; have HG2:=Lib.hid hg2; have HA2:=Lib.hid hat2; have HW2:=Lib.hid hb2; clear hr2 hb2 hg2 hat2)
       have hap:=H.out.1.2.2.1
       have HKp : Hid (Kp w.heap.size w.heap.size w2 (.slice (some ⟨g,0,none⟩) n cap) ys):=
        (H1.out.below ((Below.refl _ _).alloc (Nat.le_refl _) _)).grown HG2.out (λ e=>(hap _ e.symm).1 rfl) (λ k hk e=>(hap _ e.symm).2 hk)
       have HAP : Hid (∀ k,v2.ownBlock = some k -> k ≠ w.heap.size /\ (Value.slice (some ⟨g,0,none⟩) n cap).ownBlock ≠ some k):=by
        intro k hk
        rcases HA2.out with ha | ⟨b,hb,hle⟩
        · exact hap k (by rw [<- ha]; exact hk)
        · rw [hb] at hk
          injection hk with hk
          subst hk
          have h1:=a0f H1.out.blk
          have h2:=Kd.R_lt H1.out.row
          simp at hle
          exact ⟨by omega,λ e=>by have:=h2 _ e; omega⟩
       have HGX : Hid (GK x):=by rw [HX.out]; exact H.out.1.2.2.2.1.good.get 0 (by rw [HN.out]; omega)
       have HYL : Hid (ys.length = n):=H1.out.len.symm
       have HPr : Hid (0 < xs.length):=by show _ < _; rw [HN.out]; omega
       clear hap c0 c1 c2
       by_cases hl : x.1 + 1 = 2 * x.2.1
       · have HLX:=Lib.hid hl
         clear hl
         refine (c0e x.1 x.2.1 x.2.2 _ HGX.out HLX.out).mono ?_
         rintro e w3 ⟨rfl,hb3⟩
         have HP3 : Hid (a6C w.heap.size w.heap.size q w (outs ++ [x]) (.slice (some ⟨g,0,none⟩) n cap) v2 ys (w3.alloc (.cells #[.int .i64 0,.int .i64 0,.int .i64 0] 266)) /\ (ys.flatMap a1n).length < gk):=by
          have hb4:=hb3.trans ((Below.refl w2.heap.size w3).alloc hb3.size (.cells #[.int .i64 0,.int .i64 0,.int .i64 0] 266))
          refine ⟨⟨HKp.out.below hb4,Kd.R_below HR2.out hb4,HAP.out,?_,HW2.out.trans (hb4.mono HW2.out.size)⟩,?_⟩
          · have:=H.out.1.2.2.2.1.last HPr.out (by rw [<- HX.out]; exact HY.out) (by rw [HYL.out]; exact HF.out) (by rw [<- HX.out]; exact HLX.out)
            rw [<- HX.out] at this; exact this
          · have h1:=(HY.out.flatMap_right a1n).length_eq
            rw [List.flatMap_cons,b2M HLX.out] at h1
            have h2:=H.out.2
            simp only [List.length_append,List.length_cons,List.length_nil] at h1; omega
         clear hb3
         go_wp2_with fail
         go_roundg (gk - 1)
         case measure=>have:=HP3.out.2; omega
         case rel=>exact ⟨_,_,_,HP3.out.1,by have:=HP3.out.2; omega⟩
       · have HLX:=Lib.hid hl
         clear hl
         refine (c0f x.1 x.2.1 x.2.2 _ HGX.out HLX.out).mono ?_
         rintro e w3 ⟨rfl,hb3⟩
         have HP3 : Hid (Below w2.heap.size w2 (w3.alloc (.cells #[.int .i64 (x.1 + 1),.int .i64 x.2.1,.int .i64 x.2.2] 266))):=hb3.trans ((Below.refl w2.heap.size w3).alloc hb3.size _)
         clear hb3
         have HYG : Hid (All GK ys):=λ y hy=>H.out.1.2.2.2.1.good y (HY.out.subset (List.mem_cons_of_mem _ hy))
         go_wp2_with fail
         refine (b2H ordK (x.1 + 1,x.2.1,x.2.2) _ (HKp.out.below HP3.out) (Nat.le_trans HW2.out.size HP3.out.size) (by rw [HYL.out]; omega) HYG.out (a6A HGX.out HLX.out) (by rw [HYL.out]; exact HF.out)).mono ?_
         rintro e w4 ⟨rfl,v5,zs,h1,h2,h3,h4,h5⟩
         have HP4 : Hid (a6C w.heap.size w.heap.size q w (outs ++ [x]) v5 v2 zs w4 /\ (zs.flatMap a1n).length < gk):=by
          have hlt:=λ k hk=>Kd.R_lt (Kd.R_below HR2.out HP3.out) k hk
          refine ⟨⟨h1,a3e rfl (Kd.R_below HR2.out HP3.out) h5 (λ k hk e=>e.elim (HAP.out k hk).1 (HAP.out k hk).2),λ k hk=>⟨(HAP.out k hk).1,λ e=>?_⟩,?_,(HW2.out.trans (HP3.out.mono HW2.out.size)).trans ((HKp.out.below HP3.out).only_below (Nat.le_refl _) h5 (Nat.le_trans HW2.out.size HP3.out.size))⟩,?_⟩
          · rcases h4 with h4 | ⟨b,hb,hle⟩
            · exact (HAP.out k hk).2 (h4 ▸ e)
            · rw [hb] at e
              injection e with e
              have:=hlt k hk
              omega
          · have:=H.out.1.2.2.2.1.more (ys:=ys) (zs:=zs) HPr.out (by rw [<- HX.out]; exact HY.out) (by rw [<- HX.out]; exact HLX.out) (by rw [<- HX.out]; exact h2) h3
            rw [<- HX.out] at this; exact this
          · have e1:=(HY.out.flatMap_right a1n).length_eq
            have e2:=(h2.flatMap_right a1n).length_eq
            have hb:=rightB_iff.1 HGX.out
            have:=HLX.out
            rw [List.flatMap_cons,b2N (by omega)] at e1
            rw [List.flatMap_cons] at e2
            have:=H.out.2
            simp only [List.length_append,List.length_cons,List.cons_append] at e1 e2; omega
         clear h1 h2 h3 h4 h5
         go_wp2_with fail
         go_roundg (gk - 1)
         case measure=>have:=HP4.out.2; omega
         case rel=>exact ⟨_,_,_,HP4.out.1,by have:=HP4.out.2; omega⟩
theorem a1B {q : List Int} (h : logC q ≠ 0) : Good q:=by
 have h1:=a8D h
 have h2:=a1A (a1S (a1b q))
 have hr : a0P q = true:=by
  cases e : a0P q with
  | true=>rfl
  | false=>unfold a1b at h1 h2; rw [e] at h1 h2; simp at h1 h2; omega
 have h3 : a1b q = q.sum:=by unfold a1b; rw [if_pos hr]
 obtain ⟨a,b,c⟩:=rightC_iff.1 hr
 exact ⟨a,b,by omega⟩
def symsL (q : List Int) : List Int:=(a0r q).map (λ x=>x.2.2)
def c0k (q : List Int) (w : World) (e : Ending) (w' : World) : Prop:=
 (logC q = 0 -> e = .returned (.tuple #[.slice none 0 0,.int .i64 1])) /\ (logC q ≠ 0 -> ∃ v,e = .returned (.tuple #[v,.int .i64 0]) /\ (Kd.int .u8).R 5 w' w.heap.size (λ _=>True) v (symsL q)) /\ Below w.heap.size w w'
theorem b2T {q : List Int} (hq : Good q) : (a0r q).length <= 4096:=by
 have h1:=(a3d hq).length_eq
 have h2:=a6z hq.nonneg
 have h3:=hq.sum
 omega
theorem b2U {q : List Int} (hq : Good q) (k : Nat) (hk : k < (a0r q).length) : 0 <= ((a0r q).getD k z3).2.2 /\ ((a0r q).getD k z3).2.2 < 256:=by
 have hm : (a0r q).getD k z3 ∈ a0r q:=by rw [List.getD_eq_getElem?_getD,List.getElem?_eq_getElem hk]; exact List.getElem_mem hk
 have:=rightB_iff.1 (a3B hq _ ((a3d hq).subset hm))
 omega
theorem c0l {q : List Int} {k : Nat} (hk : k < (a0r q).length) : (symsL q).take (k + 1) = (symsL q).take k ++ [((a0r q).getD k z3).2.2]:=by
 have h : k < (symsL q).length:=by unfold symsL; simpa using hk
 rw [List.take_succ_eq_append_getElem h]
 congr 2
 rw [List.getD_eq_getElem?_getD,List.getElem?_eq_getElem hk]
 simp [symsL]
set_option maxRecDepth 100000 in
set_option maxHeartbeats 1000000 in
theorem a6E (A : Option Addr) (c : Nat) (q : List Int) (w : World) (hr : (Kd.int .i64).C w A q.length q) :
    Calls Tryz.prog 216 #[.slice A q.length c] w (c0k q w):=by
 have HR:=Lib.hid hr
 clear hr
 by_cases hl : logC q ≠ 0
 · have hd : decide (logC q ≠ 0) = true:=decide_eq_true hl
   have HQ:=Lib.hid (a1B hl)
   have HL:=Lib.hid hl
   clear hl
   go_enter Tryz.func216,Tryz.ntmps216
   go_wp2_with fail
   refine (a5o _ _ _ _ HR.out).mono ?_
   unfold a6x
   rw [hd]
   rintro e w' ⟨rfl,rfl⟩
   clear hd
   go_wp2_with fail
   refine (c0j _ _ _ _ HQ.out HR.out).mono ?_
   rintro e w1 ⟨vo,rfl,hv,hb⟩
   obtain ⟨A1,c1,rfl⟩:=Kd.R_slice hv
   have HC:=Lib.hid (Kd.R_reads' hv).2.2
   have HB:=Lib.hid hb
   have HN:=Lib.hid (b2T HQ.out)
   have hn:=HN.out
   clear hv hb
   go_wp2_with fail
   go_loopw [6,19] (λ v kv wr=>∃ (k : Nat),kv = .int .i64 k /\ k <= (a0r q).length /\ Hid ((Kd.int .u8).R 5 wr w1.heap.size (λ _=>True) v ((symsL q).take k) /\ Below w1.heap.size w1 wr)) (λ _ kv _=>(a0r q).length - (intOf kv).toNat)
   case atStart=>exact ⟨0,rfl,by omega,Kd.R_nil _ _ _ _ _,Below.refl _ _⟩
   case round=>
    obtain ⟨k,rfl,hk,H⟩:=hrel
    by_cases hlt : k < (a0r q).length
    · obtain ⟨ad,rfl,cx1,cx2,cx3⟩:=k3_at (Kd.C_below HC.out H.out.2) k hlt
      have hs:=b2U HQ.out k hlt
      obtain ⟨x,hx⟩ : ∃ x,x = (a0r q).getD k z3:=⟨_,rfl⟩
      rw [<- hx] at cx1 cx2 cx3 hs
      have HX:=Lib.hid hx
      obtain ⟨hs1,hs2⟩:=hs
      clear hx
      have HV:=Lib.hid (Kd.R_alloc H.out.1 (.cells #[.int .i64 x.1,.int .i64 x.2.1,.int .i64 x.2.2] 266))
      have HB2:=Lib.hid (H.out.2.alloc H.out.2.size (.cells #[.int .i64 x.1,.int .i64 x.2.1,.int .i64 x.2.2] 266))
      have HLn : Hid ((((symsL q).take k).length + 1) * 1 <= 140737488355328):=by show _ <= _; rw [List.length_take]; omega
      go_wp2_with (at_builtin; refine a8q .u8 (w0:=w1) (W:=wr.alloc (.cells #[.int .i64 x.1,.int .i64 x.2.1,.int .i64 x.2.2] 266)) rfl (.tmp 23) (.tmp 27) 22 5 1 rfl Tryz.underlying22 a0w (by decide) u6 _ x.2.2 rfl (by simp [go_sem]) HV.out HB2.out HLn.out ?_; intro v2 w2 hr2 hb2 hg2 hat2; have HR2:=Lib.hid hr2; have HW2:=Lib.hid hb2; have HG2:=Lib.hid hg2; clear hr2 hb2 hg2 hat2)
      go_roundw
      case rel=>
       refine ⟨k + 1,by go_num,by omega,?_,HW2.out⟩
       rw [c0l hlt,<- HX.out]; exact HR2.out
      case measure=>simp [intOf]; omega
    · go_wp2_with fail
      go_ret2
      have hk' : (symsL q).take k = symsL q:=by rw [List.take_of_length_le]; simp [symsL]; omega
      exact ⟨λ h=>absurd h HL.out,λ _=>⟨_,rfl,by rw [<- hk']; exact Kd.R_lower H.out.1 HB.out.size⟩,HB.out.trans (H.out.2.mono HB.out.size)⟩
 · have hd : decide (logC q ≠ 0) = false:=decide_eq_false hl
   have HL:=Lib.hid hl
   clear hl
   go_enter Tryz.func216,Tryz.ntmps216
   go_wp2_with fail
   refine (a5o _ _ _ _ HR.out).mono ?_
   unfold a6x
   rw [hd]
   rintro e w' ⟨rfl,rfl⟩
   clear hd
   go_wp2_with fail
   go_ret2
   exact ⟨λ _=>rfl,λ h=>absurd h HL.out,Below.refl _ _⟩
end Go.Proofs.YtflfjpkmjnnodaaGreat
namespace Go.Proofs.YtflfjpkmjnnodaaGreat
open Go.RowKit Go.ChangeMaps Go.MapKept
open Go.WideElems (Fit rd rg pl rd_val elemAt)
open Go.Maps
def tok (v : Value) : Option (DataW Value × List MemPlace):=some (.held v,[])
def held? (o : Option Value) (z : DataW Value) : DataW Value:=match o with | some v=>.held v | none=>z
def MapB (P : Program) (k : TypeId) (q : IntKind) (o : Option Obj) (n : Nat) (f : Int -> Option Value) : Prop:=
 ∃ es clock,o = some (.map es clock) /\ Fit P k tok es clock /\ es.size <= n /\ ∀ i,(Lit.int q i).wf = true -> ∀ z,(DataW.map ((es.toList.map (rg P k tok)).foldr DataW.insert [])).atKey (.int q i) z = held? (f i) z
def upd (f : Int -> Option Value) (i : Int) (u : Value) : Int -> Option Value:=λ j=>if j = i then some u else f j
theorem a3C (f : Int -> Option Value) (i : Int) (u : Value) : upd f i u i = some u:=by simp [upd]
theorem a3D (f : Int -> Option Value) {i j : Int} (u : Value) (h : j ≠ i) : upd f i u j = f j:=by simp [upd,h]
section
variable {P : Program} {k t e : TypeId} {q : IntKind} {n : Nat} {f : Int -> Option Value}
theorem a8H : MapB P k q (some (.map #[] 0)) 0 (λ _=>none):=⟨#[],0,rfl,⟨by simp,stamped_empty 0,by simp⟩,Nat.le_refl _,λ _ _ _=>rfl⟩
theorem b2V {o : Option Obj} {m : Nat} (h : MapB P k q o n f) (hm : n <= m) : MapB P k q o m f:=by
 obtain ⟨es,cl,a,b,c,d⟩:=h
 exact ⟨es,cl,a,b,Nat.le_trans c hm,d⟩
theorem a5p (hk : P.underlying k = some (.int q)) (ht : P.underlying t = some (.map k e)) {z : Value} {i : Int} (hi : (Lit.int q i).wf = true) {w : World} {b : Nat} (hz : (zeroValue e).run P w = .ok z w) (h : MapB P k q w.heap[b]? n f) :
    (Instr.lookup t (.map (some b)) (.int q i) false).run P w = .ok ((f i).getD z) w:=by
 obtain ⟨es,cl,hb,F,_,hat⟩:=h
 have hat:=hat i hi
 rcases Maps.fit_look false (int_keyed hk) ht hz hb F (keyOf_int_mk hk hi) with ⟨hrun,_,h1⟩ | ⟨e0,y,_,_,hrun,hR,h1,_⟩
 · cases hf : f i with
   | none=>exact hrun
   | some v=>
    have:=h1 .nil
    rw [hat .nil,hf] at this
    cases this
 · cases hf : f i with
   | none=>
    have h2:=h1 .nil
    have h3:=h1 (.held (.int .i64 0))
    rw [hat,hf] at h2 h3
    rw [<- h3] at h2
    cases h2
   | some v=>
    have h2:=h1 .nil
    rw [hat .nil,hf] at h2
    cases hR
    cases h2
    exact hrun
theorem a5q (hk : P.underlying k = some (.int q)) (ht : P.underlying t = some (.map k e)) {i : Int} (hi : (Lit.int q i).wf = true) {w : World} {b : Nat} (h : MapB P k q w.heap[b]? n f) (hn : n < maxLen) (u : Value) :
    ∃ w',(Instr.mapUpdate t (.map (some b)) (.int q i) u).run P w = .ok () w' /\ MapB P k q w'.heap[b]? (n + 1) (upd f i u) /\ w.grownBy w' (some b) /\ w'.heap.size = w.heap.size:=by
 obtain ⟨es,cl,hb,F,hs,hat⟩:=h
 obtain ⟨es',clock',hrun,F',hput,_⟩:=Maps.fit_store (R':=tok) (int_keyed hk) ht hb F (Nat.lt_of_le_of_lt hs hn) (λ _ _ _ _ hz=>hz) (keyOf_int_mk hk hi) (yv:=(.held u,[])) (val:=u) rfl
 refine ⟨_,hrun,⟨es',clock',heap_setBlock_same hb _,F',?_,?_⟩,⟨rfl,rfl,rfl,by simp [setBlock],λ i _ hi=>heap_setBlock_other hb _ (λ e=>hi (by rw [e]))⟩,by simp [setBlock]⟩
 · have e1 : es'.size = ((es'.toList.map (rg P k tok)).foldr DataW.insert []).length:=by rw [length_sorted]; simp
   rw [e1,hput]
   unfold ChangeMaps.putKey
   rw [length_insert]
   have e2:=List.length_filter_le (ChangeMaps.notKey (.int q i)) ((es.toList.map (rg P k tok)).foldr DataW.insert [])
   rw [length_sorted] at e2
   simp at e2
   omega
 · intro j hj z
   rw [hput,<- DataW.put_eq]
   by_cases hij : j = i
   · subst hij
     rw [a3C,Maps.atKey_put_same (k:=.int q j) ⟨_,rfl⟩ (by trivial)]; rfl
   · rw [a3D _ _ hij,Maps.atKey_put_other (by intro e; cases e; exact hij rfl)]
     exact hat j hj z
end
end Go.Proofs.YtflfjpkmjnnodaaGreat
namespace Go.Proofs.YtflfjpkmjnnodaaGreat
open Go.RowKit Go.Proofs.YtflfjpkmjnnodaaGreatW.PrintWords
def posN (l : List Int) (s : Int) (k : Nat) : List Int:=((List.range k).filter (λ j=>decide (l.getD j (-1) = s))).map Int.ofNat
theorem a8I (l : List Int) (s : Int) : posN l s 0 = []:=rfl
theorem a2v {l : List Int} {s : Int} {k : Nat} (h : l.getD k (-1) = s) : posN l s (k + 1) = posN l s k ++ [(k : Int)]:=by
 unfold posN; rw [List.range_succ,List.filter_append,List.map_append]
 have : [k].filter (λ j=>decide (l.getD j (-1) = s)) = [k]:=by simp only [List.filter_cons,List.filter_nil,h,decide_true]; rfl
 rw [this]; rfl
theorem a3E {l : List Int} {s : Int} {k : Nat} (h : l.getD k (-1) ≠ s) : posN l s (k + 1) = posN l s k:=by
 unfold posN; rw [List.range_succ,List.filter_append,List.map_append]
 have : [k].filter (λ j=>decide (l.getD j (-1) = s)) = []:=by simp only [List.filter_cons,List.filter_nil,h,decide_false]; rfl
 rw [this]; simp
theorem b2W (l : List Int) (s : Int) (k : Nat) : (posN l s k).length <= k:=by
 unfold posN; rw [List.length_map]; exact Nat.le_trans (List.length_filter_le _ _) (by simp)
def a1o (q : List Int) (s : Int) : List Int:=posN (symsL q) s (symsL q).length
def nilS : Value:=.slice none 0 0
def rowOf (f : Int -> Option Value) (s : Int) : Value:=(f s).getD nilS
structure Rows (w : World) (base : Nat) (ok : Nat -> Prop) (f : Int -> Option Value) (l : List Int) (k : Nat) : Prop where
 row : ∀ s : Int,0 <= s -> s < 256 -> (Kd.int .i64).R 3 w base ok (rowOf f s) (posN l s k)
 apart : ∀ s s' : Int,0 <= s -> s < 256 -> 0 <= s' -> s' < 256 -> s ≠ s' -> (rowOf f s).ownBlock = none \/ (rowOf f s).ownBlock ≠ (rowOf f s').ownBlock
def EtabAt (lo hi : Nat) (w : World) (tb : Nat) (q : List Int) : Prop:=
 ∃ (b n : Nat) (f : Int -> Option Value),lo <= b /\ b < hi /\ lo <= tb /\ tb < hi /\ w.heap[tb]? = some (.cells #[.int .i64 (logC q),.map (some b)] 259 (0,0)) /\
  MapB Tryz.prog 5 .u8 w.heap[b]? n f /\ ∀ s : Int,0 <= s -> s < 256 -> (Kd.int .i64).R 3 w lo (λ k=>lo <= k /\ k < hi) (rowOf f s) (a1o q s)
theorem EtabAt.agree {lo hi : Nat} {w w' : World} {tb : Nat} {q : List Int} (h : EtabAt lo hi w tb q) (ha : ∀ k,lo <= k -> k < hi -> w'.heap[k]? = w.heap[k]?) : EtabAt lo hi w' tb q:=by
 obtain ⟨b,n,f,h1,h2,h3,h4,h5,h6,h7⟩:=h
 exact ⟨b,n,f,h1,h2,h3,h4,(ha _ h3 h4).trans h5,by rw [ha _ h1 h2]; exact h6,λ s s0 s1=>Kd.R_step (h7 s s0 s1) (λ k hk _=>ha k hk.1 hk.2)⟩
def a8J (q : List Int) (w : World) (e : Ending) (w' : World) : Prop:=
 (logC q = 0 -> e = .returned (.tuple #[.pointer none,.int .i64 1])) /\ (logC q ≠ 0 -> ∃ tb,e = .returned (.tuple #[.pointer (some ⟨tb,0,none⟩),.int .i64 0]) /\ EtabAt w.heap.size w'.heap.size w' tb q) /\ Below w.heap.size w w'
theorem c0m (w : World) (base : Nat) (l : List Int) : Rows w base (λ _=>True) (λ _=>none) l 0:=
 ⟨λ _ _ _=>Kd.R_nil _ _ _ _ _,λ _ _ _ _ _ _ _=>.inl rfl⟩
theorem c0n {w w1 w2 : World} {base : Nat} {f : Int -> Option Value} {l : List Int} {k : Nat} {s : Int} {v1 : Value} {bm : Nat} (h : Rows w base (λ _=>True) f l k) (hs : 0 <= s /\ s < 256) (hl : l.getD k (-1) = s)
    (h1 : (Kd.int .i64).R 3 w1 base (λ _=>True) v1 (posN l s k ++ [(k : Int)])) (hg : w.grownBy w1 (rowOf f s).ownBlock) (hat : v1.ownBlock = (rowOf f s).ownBlock \/ ∃ b,v1.ownBlock = some b /\ w.heap.size <= b)
    (hg2 : w1.grownBy w2 (some bm)) (hbm : bm < base) : Rows w2 base (λ _=>True) (upd f s v1) l (k + 1):=by
 have far : ∀ {u : Value} {xs : List Int},(Kd.int .i64).R 3 w1 base (λ _=>True) u xs -> (Kd.int .i64).R 3 w2 base (λ _=>True) u xs:=λ {u xs} hu=>
  Kd.R_grown1 hu rfl hg2 (λ e=>by have:=(Kd.R_bound hu).1 bm e.symm; omega)
 have hlt : ∀ s' : Int,0 <= s' -> s' < 256 -> ∀ g,(rowOf f s').ownBlock = some g -> g < w.heap.size:=λ s' a b g hg=>((Kd.R_bound (h.row s' a b)).1 g hg).2.2.1
 refine ⟨λ s' a b=>?_,λ s1 s2 a b c d hne=>?_⟩
 · by_cases e : s' = s
   · subst e
     rw [a2v hl]; unfold rowOf; rw [a3C]; exact far h1
   · rw [a3E (by rw [hl]; exact λ x=>e x.symm)]
     unfold rowOf; rw [a3D _ _ e]
     refine far ?_
     rcases h.apart s' s a b hs.1 hs.2 e with x | x
     · refine Kd.R_mono (Kd.R_grown (Kd.R_tight rfl (h.row s' a b)) hg (λ k hk=>?_)) (λ _ _=>trivial)
       have : some k = (rowOf f s').ownBlock:=hk
       rw [x] at this; cases this
     · exact Kd.R_grown1 (h.row s' a b) rfl hg (λ y=>x y.symm)
 · by_cases e1 : s1 = s
   · subst e1
     have e2 : s2 ≠ s1:=λ x=>hne x.symm
     unfold rowOf; rw [a3C,a3D _ _ e2]
     show v1.ownBlock = none \/ v1.ownBlock ≠ (rowOf f s2).ownBlock
     rcases hat with x | ⟨g,x,y⟩
     · rw [x]; exact h.apart s1 s2 a b c d hne
     · right; rw [x]; intro z; have:=hlt s2 c d g z.symm; omega
   · by_cases e2 : s2 = s
     · subst e2
       unfold rowOf; rw [a3C,a3D _ _ e1]
       show (rowOf f s1).ownBlock = none \/ (rowOf f s1).ownBlock ≠ v1.ownBlock
       rcases hat with x | ⟨g,x,y⟩
       · rw [x]; exact h.apart s1 s2 a b c d hne
       · cases hz : (rowOf f s1).ownBlock with
         | none=>exact .inl rfl
         | some g'=>right; rw [x]; intro z; cases z; have:=hlt s1 a b g hz; omega
     · unfold rowOf; rw [a3D _ _ e1,a3D _ _ e2]
       exact h.apart s1 s2 a b c d hne
theorem c0o (w : World) : (zeroValue 84).run Tryz.prog w = .ok nilS w:=by kernel_rfl
theorem wf_u8 {s : Int} (h0 : 0 <= s) (h1 : s < 256) : (Lit.int .u8 s).wf = true:=by
 have a : IntKind.u8.min = 0:=rfl
 have b : IntKind.u8.max = 255:=rfl
 simp only [Lit.wf,a,b,Bool.and_eq_true,decide_eq_true_eq]; omega
theorem a4C {q : List Int} (hq : Good q) (k : Nat) (hk : k < (symsL q).length) : 0 <= (symsL q).getD k 0 /\ (symsL q).getD k 0 < 256 /\ (symsL q).getD k (-1) = (symsL q).getD k 0:=by
 have hk' : k < (a0r q).length:=by simpa [symsL] using hk
 have:=b2U hq k hk'
 have e : (symsL q).getD k 0 = ((a0r q).getD k z3).2.2:=by
  unfold symsL
  rw [List.getD_eq_getElem?_getD,List.getElem?_map,List.getD_eq_getElem?_getD,List.getElem?_eq_getElem hk']; rfl
 rw [e]
 refine ⟨this.1,this.2,?_⟩
 rw [<- e,List.getD_eq_getElem?_getD,List.getD_eq_getElem?_getD,List.getElem?_eq_getElem hk]; rfl
theorem a8K {q : List Int} (hq : Good q) : (symsL q).length <= 4096:=by have:=b2T hq; simpa [symsL] using this
structure NewRel (q : List Int) (w1 : World) (bm k : Nat) (f : Int -> Option Value) (wr : World) : Prop where
 mapB : MapB Tryz.prog 5 .u8 wr.heap[bm]? k f
 rows : Rows wr (bm + 2) (λ _=>True) f (symsL q) k
 blk : wr.heap[bm + 1]? = some (.cells #[.int .i64 (logC q),.map (some bm)] 259 (0,0))
 below : Below w1.heap.size w1 wr
 lt : bm + 2 <= wr.heap.size
theorem c0p (q : List Int) (w1 : World) (bm : Nat) (hbm : bm = w1.heap.size) : NewRel q w1 bm 0 (λ _=>none) ((w1.alloc (.map #[] 0)).alloc (.cells #[.int .i64 (logC q),.map (some bm)] 259)):=by
 subst hbm
 have e : (w1.alloc (.map #[] 0)).heap.size = w1.heap.size + 1:=by simp
 refine ⟨?_,c0m _ _ _,?_,((Below.refl _ _).alloc (Nat.le_refl _) _).alloc (by omega) _,by simp⟩
 · rw [a0n (a0k w1 (.map #[] 0))]; exact a8H
 · have:=a0k (w1.alloc (.map #[] 0)) (.cells #[.int .i64 (logC q),.map (some w1.heap.size)] 259)
   rw [e] at this; exact this
theorem c0q {q : List Int} {w1 wr wa w2 : World} {bm k : Nat} {f : Int -> Option Value} {x : Int} {vr v1 : Value} (h : NewRel q w1 bm k f wr) (hv : vr = rowOf f x) (hx : 0 <= x /\ x < 256) (hl : (symsL q).getD k (-1) = x)
    (h1 : (Kd.int .i64).R 3 wa (bm + 2) (λ _=>True) v1 (posN (symsL q) x k ++ [(k : Int)])) (hg : wr.grownBy wa vr.ownBlock) (hat : v1.ownBlock = vr.ownBlock \/ ∃ b,v1.ownBlock = some b /\ wr.heap.size <= b)
    (hm : MapB Tryz.prog 5 .u8 w2.heap[bm]? (k + 1) (upd f x v1)) (hg2 : wa.grownBy w2 (some bm)) (hB : w1.heap.size <= bm:=by assumption) : NewRel q w1 bm (k + 1) (upd f x v1) w2:=by
 subst hv
 have hne : ∀ j,j < bm + 2 -> some j ≠ (rowOf f x).ownBlock:=λ j hj e=>by have:=(Kd.R_bound (h.rows.row x hx.1 hx.2)).1 j e.symm; omega
 have hge : ∀ j,(rowOf f x).ownBlock = some j -> bm + 2 <= j:=λ j e=>((Kd.R_bound (h.rows.row x hx.1 hx.2)).1 j e).2.1
 have hs:=h.below.size
 refine ⟨hm,c0n h.rows hx hl h1 hg hat hg2 (by omega),a1e (a1e h.blk hg (hne _ (by omega))) hg2 (by simp),?_,Nat.le_trans h.lt (Nat.le_trans hg.size hg2.size)⟩
 exact (h.below.grown hg hs (λ j e=>by have:=hge j e; omega)).grown hg2 (Nat.le_trans hs hg.size) (λ j e=>by cases e; exact hB)
theorem c0r {q : List Int} {w w1 wr : World} {bm : Nat} {f : Int -> Option Value} (hb : Below w.heap.size w w1) (hl : logC q ≠ 0) (hbm : bm = w1.heap.size) (h : NewRel q w1 bm (symsL q).length f wr) :
    a8J q w (.returned (.tuple #[.pointer (some ⟨bm + 1,0,none⟩),.int .i64 0])) wr:=by
 have hs:=hb.size
 have hl2:=h.lt
 refine ⟨λ e=>absurd e hl,λ _=>⟨bm + 1,rfl,bm,(symsL q).length,f,by omega,by omega,by omega,by omega,h.blk,h.mapB,λ s a b=>?_⟩,hb.trans (h.below.mono hs)⟩
 exact Kd.R_mono (Kd.R_bound (Kd.R_lower (h.rows.row s a b) (by omega))) (λ k hk=>⟨hk.2.1,hk.2.2.1⟩)
theorem lookT (b n : Nat) (f : Int -> Option Value) (x : Int) (W : World) (hx : (Lit.int .u8 x).wf = true) (h : MapB Tryz.prog 5 .u8 W.heap[b]? n f) :
    (Instr.lookup 257 (.map (some b)) (.int .u8 x) false).run Tryz.prog W = .ok (rowOf f x) W:=
 a5p (t:=257) (e:=84) Tryz.underlying5 Tryz.underlying257 hx (c0o W) h
set_option maxRecDepth 100000 in
set_option maxHeartbeats 1000000 in
theorem c0s (A : Option Addr) (c : Nat) (q : List Int) (w : World) (hr : (Kd.int .i64).C w A q.length q) :
    Calls Tryz.prog 201 #[.slice A q.length c] w (a8J q w):=by
 have HR:=Lib.hid hr
 clear hr
 have hmm:=@run_makeMap Tryz.prog
 by_cases hl : logC q ≠ 0
 · have HQ:=Lib.hid (a1B hl)
   have HL:=Lib.hid hl
   have hd : decide (logC q ≠ 0) = true:=decide_eq_true hl
   clear hl
   go_enter Tryz.func201,Tryz.ntmps201
   go_wp2_with fail
   refine (a6E _ _ _ _ HR.out).mono ?_
   rintro e w1 ⟨_,h2,hb⟩
   obtain ⟨v,rfl,hv⟩:=h2 HL.out
   obtain ⟨A1,c1,rfl⟩:=Kd.R_slice hv
   have HC:=Lib.hid (Kd.R_reads' hv).2.2
   have HB:=Lib.hid hb
   clear h2 hv hb
   go_wp2_with fail
   refine (b2K _ _ _ _ (Kd.C_below HR.out HB.out)).mono ?_
   rintro e w' ⟨rfl,rfl⟩
   obtain ⟨bm,hbm⟩ : ∃ bm,bm = w1.heap.size:=⟨_,rfl⟩
   go_wp2_with fail
   have hl2:=lookT
   rw [<- hbm]
   have HBM:=Lib.hid hbm
   clear hbm
   go_loopw [24] (λ kv wr=>∃ (k : Nat) (f : Int -> Option Value),kv = .int .i64 k /\ k <= (symsL q).length /\ Hid (NewRel q w1 bm k f wr)) (λ kv _=>(symsL q).length - (intOf kv).toNat)
   case atStart=>exact ⟨0,λ _=>none,rfl,Nat.zero_le _,c0p q w1 bm HBM.out⟩
   case round=>
    obtain ⟨k,f,rfl,hk,H⟩:=hrel
    by_cases hlt : k < (symsL q).length
    · obtain ⟨ad,rfl,hc⟩:=a0v (Kd.C_below HC.out H.out.below) k hlt
      have hs:=a4C HQ.out k hlt
      obtain ⟨x,hx⟩ : ∃ x,x = (symsL q).getD k 0:=⟨_,rfl⟩
      rw [<- hx] at hc hs
      obtain ⟨hs0,hs1,hs2⟩:=hs
      have HX:=Lib.hid hs2
      clear hs2 hx
      have hcell : wr.cell? ⟨bm + 1,1,none⟩ = some (.map (some bm)):=(a0a H.out.blk 1).trans rfl
      have hcell2 : (wr.alloc (.cells #[.int .i64 k] 3)).cell? ⟨bm + 1,1,none⟩ = some (.map (some bm)):=(a0a (a0n H.out.blk _) 1).trans rfl
      have hlen:=a8K HQ.out
      have HLn : Hid (((posN (symsL q) x k).length + 1) * 8 <= 140737488355328):=by show _ <= _; have:=b2W (symsL q) x k; omega
      have HN : Hid (k < maxLen):=by show _ < _; unfold maxLen; omega
      have HW:=Lib.hid (wf_u8 hs0 hs1)
      have HV:=Lib.hid (H.out.rows.row x hs0 hs1)
      have hlk : (Instr.lookup 257 (.map (some bm)) (.int .u8 x) false).run Tryz.prog wr.drew = .ok (rowOf f x) wr.drew:=hl2 bm k f x wr.drew HW.out H.out.mapB
      have hlk2 : (Instr.lookup 257 (.map (some bm)) (.int .u8 x) false).run Tryz.prog (wr.alloc (.cells #[.int .i64 k] 3)).drew = .ok (rowOf f x) (wr.alloc (.cells #[.int .i64 k] 3)).drew:=hl2 bm k f x _ HW.out (by rw [show (wr.alloc (.cells #[.int .i64 k] 3)).drew.heap[bm]? = wr.heap[bm]? from Below.heap_alloc wr _ bm (by have:=H.out.lt; omega)]; exact H.out.mapB)
      obtain ⟨vr,hvr⟩ : ∃ vr,vr = rowOf f x:=⟨_,rfl⟩
      rw [<- hvr] at hlk hlk2
      rw [<- hvr] at HV
      have HVR:=Lib.hid hvr
      clear hvr hl2
      go_wp2_with fail
      have HM : Hid (∀ wa,wr.grownBy wa vr.ownBlock -> MapB Tryz.prog 5 .u8 wa.heap[bm]? k f /\ wa.cell? ⟨bm + 1,1,none⟩ = some (.map (some bm))):=λ wa hg=>by
       have hne : ∀ j,j < bm + 2 -> some j ≠ vr.ownBlock:=λ j hj e=>by have:=(Kd.R_bound HV.out).1 j e.symm; omega
       refine ⟨?_,(a0a (a1e H.out.blk hg (hne _ (by omega))) 1).trans rfl⟩
       rw [hg.block bm (by have:=H.out.lt; omega) (hne _ (by omega))]; exact H.out.mapB
      have HSz:=Lib.hid H.out.lt
      go_region_law (first
       | (refine a5i (Kd.int .i64) (w0:=wr) (W:=wr) (bm + 2) rfl (.tmp 39) (.tmp 41) 84 3 (.int .i64 0) 8 rfl Tryz.underlying84 a4x rfl (by decide) (by decide) vr _ (k : Int) [.int .i64 k] (λ _=>True) (λ _=>False) rfl rfl rfl (λ _ h=>h.elim) (λ _ _=>trivial) HV.out (Below.refl _ _) HSz.out HLn.out ?_; intro v1 wa hr1 hb1 hg1 hat1; obtain ⟨hmB,hca⟩:=HM.out wa hg1; have HR1:=Lib.hid hr1; have HG1:=Lib.hid hg1; have HAT:=Lib.hid hat1; obtain ⟨w2,hrun,hm2,hg2,hs2⟩:=a5q (t:=257) Tryz.underlying5 Tryz.underlying257 HW.out hmB HN.out v1; have HM2:=Lib.hid hm2; have HG2:=Lib.hid hg2; clear hr1 hb1 hg1 hat1 hmB hm2 hg2 hs2)
       | fail)
      all_goals
       go_wp2_with fail
       go_roundw
       case rel=>
        refine ⟨k + 1,upd f x v1,by go_num,by omega,?_⟩
        exact c0q H.out HVR.out ⟨hs0,hs1⟩ HX.out HR1.out HG1.out HAT.out HM2.out HG2.out (Nat.le_of_eq HBM.out.symm)
       case measure=>simp [intOf]; omega
    · have hkk : k = (symsL q).length:=by omega
      subst hkk
      go_wp2_with fail
      go_ret2
      exact c0r HB.out HL.out HBM.out H.out
 · have HL:=Lib.hid hl
   clear hl
   go_enter Tryz.func201,Tryz.ntmps201
   go_wp2_with fail
   refine (a6E _ _ _ _ HR.out).mono ?_
   rintro e w1 ⟨h1,_,hb⟩
   have h3:=h1 (by have:=HL.out; omega)
   subst h3
   go_wp2_with fail
   go_ret2
   exact ⟨λ _=>rfl,λ h=>absurd h HL.out,hb⟩
end Go.Proofs.YtflfjpkmjnnodaaGreat
namespace Go.Proofs.YtflfjpkmjnnodaaGreat
open Go.RowKit Go.Proofs.YtflfjpkmjnnodaaGreatW.PrintWords Go.Proofs.YtflfjpkmjnnodaaGreatW.PrintMore
attribute [local go_sem] a1Z a1Q a2a a1R
def a1T (n : Int) : Nat:=Lib.bitLen n.toNat
def a0s (n : Int) : Nat:=a1T n - 1
theorem b2X (n : Int) (w : World) (h0 : 0 <= n) (h1 : n <= 18446744073709551615) : Calls Tryz.prog 240 #[.int .u64 n] w λ e w'=>e = .returned (.int .i64 (a1T n)) /\ w = w':=
 (c0v n w h0 h1).mono λ _ _ ⟨a,b⟩=>⟨a,b.symm⟩
theorem c0w {n : Int} (h : n < 0) : a1T n = a1T 0:=by unfold a1T; rw [show n.toNat = 0 by omega]; rfl
set_option maxRecDepth 100000 in
theorem a5r (n : Int) (w : World) (h : -9223372036854775808 <= n /\ n <= 9223372036854775807) :
    Calls Tryz.prog 210 #[.int .i64 n] w λ e w'=>e = .returned (.int .i64 (a1T n)) /\ w = w':=by
 by_cases h0 : 0 <= n
 · go_enter Tryz.func210,Tryz.ntmps210
   go_wp2_with fail
   refine (b2X _ _ h0 (by omega)).mono ?_
   rintro e w' ⟨rfl,rfl⟩
   go_wp2_with fail
   go_ret
   exact ⟨rfl,rfl⟩
 · have HW:=Lib.hid (c0w (n:=n) (by omega))
   go_enter Tryz.func210,Tryz.ntmps210
   go_wp2_with fail
   refine (b2X 0 _ (by omega) (by omega)).mono ?_
   rintro e w' ⟨rfl,rfl⟩
   go_wp2_with fail
   go_ret
   exact ⟨by rw [HW.out]; rfl,rfl⟩
theorem c0x (n : Int) (h : n <= 9223372036854775807) : a1T n <= 64:=by
 unfold a1T
 have : Lib.bitLen n.toNat <= 64:=Lib.bitLen_le _ 64 (by omega) (by omega)
 exact this
set_option maxRecDepth 100000 in
theorem a6F (n : Int) (w : World) (h : -9223372036854775808 <= n /\ n <= 9223372036854775807) :
    Calls Tryz.prog 193 #[.int .i64 n] w λ e w'=>e = .returned (.int .i64 (a0s n)) /\ w = w':=by
 have hw:=c0x n h.2
 obtain ⟨m,hm⟩ : ∃ m,m = a1T n:=⟨_,rfl⟩
 rw [<- hm] at hw
 have HM:=Lib.hid hm
 clear hm
 have hf : Hid (a0s n = m - 1):=by show _ = _; unfold a0s; rw [HM.out]
 by_cases h0 : m = 0
 · have h1 : (m : Int) - 1 < 0:=by omega
   go_enter Tryz.func193,Tryz.ntmps193
   go_wp2_with fail
   refine (a5r _ _ h).mono ?_
   rw [<- HM.out]
   rintro e w' ⟨rfl,rfl⟩
   go_wp2_with fail
   go_ret
   exact ⟨a1F (by rw [hf.out]; omega),rfl⟩
 · have h1 : ¬ (m : Int) - 1 < 0:=by omega
   go_enter Tryz.func193,Tryz.ntmps193
   go_wp2_with fail
   refine (a5r _ _ h).mono ?_
   rw [<- HM.out]
   rintro e w' ⟨rfl,rfl⟩
   go_wp2_with fail
   go_ret
   exact ⟨a1F (by rw [hf.out]; omega),rfl⟩
end Go.Proofs.YtflfjpkmjnnodaaGreat
namespace Go.Proofs.YtflfjpkmjnnodaaGreat
open Go.RowKit Go.Proofs.YtflfjpkmjnnodaaGreatW.PrintWords
def outC (x c : Nat) : Nat:=((List.range 64).find? (λ n=>decide (x < 2 * c * 2 ^ n))).getD 0
theorem a5s {x c n : Nat} (_ : 0 < c) (hn : n < 64) (h1 : c * 2 ^ n <= x) (h2 : x < 2 * c * 2 ^ n) : outC x c = n:=by
 unfold outC
 have : (List.range 64).find? (λ n=>decide (x < 2 * c * 2 ^ n)) = some n:=by
  rw [List.find?_eq_some_iff_append]
  refine ⟨by simpa using h2,List.range n,(List.range' (n + 1) (63 - n)),?_,?_⟩
  · rw [List.range_eq_range',List.range_eq_range']
    have : List.range' 0 64 = List.range' 0 n ++ List.range' (0 + n) (64 - n):=by rw [List.range'_append_1]; congr 1; omega
    rw [this,show 64 - n = (63 - n) + 1 by omega,List.range'_succ]; simp
  · intro m hm
    simp only [List.mem_range] at hm
    simp only [Bool.not_eq_true',decide_eq_false_iff_not,Nat.not_lt]
    have : 2 ^ (m + 1) <= 2 ^ n:=Nat.pow_le_pow_right (by omega) (by omega)
    calc 2 * c * 2 ^ m = c * 2 ^ (m + 1):=by rw [Nat.pow_succ]; ac_rfl
     _ <= c * 2 ^ n:=Nat.mul_le_mul_left _ this
     _ <= x:=h1
 rw [this]; rfl
theorem a6G {x c : Nat} (hc : 0 < c) (h : c <= x) (hx : x < 100000) : c * 2 ^ outC x c <= x /\ x < 2 * c * 2 ^ outC x c /\ outC x c <= 17:=by
 have hm : x / c ≠ 0:=by have:=Nat.div_pos h hc; omega
 obtain ⟨n,hn⟩ : ∃ n,n = Nat.log2 (x / c):=⟨_,rfl⟩
 have h1 : 2 ^ n <= x / c:=by rw [hn]; exact Nat.log2_self_le hm
 have h2 : x / c < 2 ^ (n + 1):=by rw [hn]; exact Nat.lt_log2_self
 have h3 : c * 2 ^ n <= x:=Nat.le_trans (Nat.mul_le_mul_left _ h1) (Nat.mul_div_le x c)
 have h4 : x < 2 * c * 2 ^ n:=by
  have:=(Nat.div_lt_iff_lt_mul hc).1 h2
  rw [Nat.pow_succ] at this
  calc x < 2 ^ n * 2 * c:=this
   _ = 2 * c * 2 ^ n:=by ac_rfl
 have h5 : n <= 17:=by
  by_cases e : n <= 17
  · exact e
  · have : 2 ^ 18 <= 2 ^ n:=Nat.pow_le_pow_right (by omega) (by omega)
    have:=Nat.div_le_self x c
    omega
 rw [a5s hc (by omega) h3 h4]
 exact ⟨h3,h4,h5⟩
theorem a3F (x : Nat) : 0 < x -> x < 2 ^ 64 -> 0 < Lib.bitLen x /\ 2 ^ (Lib.bitLen x - 1) <= x /\ x < 2 ^ Lib.bitLen x:=by
 induction x using Nat.strongRecOn with
 | _ x ih=>
  intro h0 h1
  by_cases h : x = 1
  · subst h; decide
  · obtain ⟨a,b,c⟩:=ih (x / 2) (by omega) (by omega) (by omega)
    rw [Lib.bitLen_half x (by omega) h1]
    obtain ⟨m,hm⟩ : ∃ m,Lib.bitLen (x / 2) = m + 1:=⟨Lib.bitLen (x / 2) - 1,by omega⟩
    rw [hm] at b c ⊢
    simp only [Nat.add_sub_cancel] at b
    refine ⟨by omega,?_,?_⟩
    · rw [show 1 + (m + 1) - 1 = m + 1 by omega,Nat.pow_succ]; omega
    · rw [show 1 + (m + 1) = (m + 1) + 1 by omega,Nat.pow_succ]; omega
theorem a3f (x : Nat) (h : 0 < x) (h2 : x < 2 ^ 64) : 2 ^ a0s x <= x /\ x < 2 ^ (a0s x + 1):=by
 obtain ⟨a,b,c⟩:=a3F x h h2
 have e : a0s x = Lib.bitLen x - 1:=rfl
 rw [e,show Lib.bitLen x - 1 + 1 = Lib.bitLen x by omega]
 exact ⟨b,c⟩
theorem c0y (c x : Nat) (hc : 0 < c) (h : c <= x) (h2 : x < 2 ^ 64) : a0s c <= a0s x:=by
 have h1:=a3f c hc (by omega)
 have h2:=a3f x (by omega) h2
 by_cases hh : a0s c <= a0s x
 · exact hh
 · have : 2 ^ (a0s x + 1) <= 2 ^ a0s c:=Nat.pow_le_pow_right (by omega) (by omega)
   omega
theorem c0z (x : Nat) (h : x < 100000) : a0s x <= 16:=by
 by_cases h0 : 0 < x
 · have h1:=a3f x h0 (by omega)
   by_cases hh : a0s x <= 16
   · exact hh
   · have : 2 ^ 17 <= 2 ^ a0s x:=Nat.pow_le_pow_right (by omega) (by omega)
     omega
 · have : x = 0:=by omega
   subst this; decide
theorem c0A {x c fc n : Nat} (hc : 0 < c) (h16 : fc + n <= 16) (hc1 : 2 ^ fc <= c) (_ : c < 2 ^ (fc + 1)) (_ : 2 ^ (fc + n) <= x) (hx2 : x < 2 ^ (fc + n + 1)) (h : 2 * c <= x / 2 ^ n) : outC x c = n + 1:=by
 have hp : 0 < 2 ^ n:=Nat.two_pow_pos n
 have h1:=(Nat.le_div_iff_mul_le hp).1 h
 refine a5s hc (by omega) (by rw [Nat.pow_succ]; calc c * (2 ^ n * 2) = 2 * c * 2 ^ n:=by ac_rfl
                                                        _ <= x:=h1) ?_
 have h2 : 2 ^ fc * 2 ^ n <= c * 2 ^ n:=Nat.mul_le_mul_right _ hc1
 rw [<- Nat.pow_add] at h2
 have e1 : 2 ^ (fc + n + 1) = 2 * 2 ^ (fc + n):=by rw [Nat.pow_succ]; ac_rfl
 have e2 : 2 * c * 2 ^ (n + 1) = 4 * (c * 2 ^ n):=by rw [Nat.pow_succ]; rw [show (4 : Nat) = 2 * 2 from rfl]; ac_rfl
 omega
theorem c0B {x c fc n : Nat} (hc : 0 < c) (h16 : fc + n <= 16) (_ : 2 ^ fc <= c) (hc2 : c < 2 ^ (fc + 1)) (hx1 : 2 ^ (fc + n) <= x) (hx2 : x < 2 ^ (fc + n + 1)) (h1 : c <= x) (h : x / 2 ^ n < c) : 1 <= n /\ outC x c = n - 1:=by
 have hp : 0 < 2 ^ n:=Nat.two_pow_pos n
 have h3:=(Nat.div_lt_iff_lt_mul hp).1 h
 have hn : 1 <= n:=by
  by_cases e : n = 0
  · subst e; simp at h3; omega
  · omega
 obtain ⟨m,rfl⟩ : ∃ m,n = m + 1:=⟨n - 1,by omega⟩
 refine ⟨hn,?_⟩
 rw [Nat.add_sub_cancel]
 have e0 : c * 2 ^ (m + 1) = 2 * (c * 2 ^ m):=by rw [Nat.pow_succ]; ac_rfl
 have e1 : 2 * c * 2 ^ m = 2 * (c * 2 ^ m):=by ac_rfl
 have h2 : c * 2 ^ (m + 1) < 2 ^ (fc + 1) * 2 ^ (m + 1):=Nat.mul_lt_mul_of_pos_right hc2 (Nat.two_pow_pos _)
 have e2 : 2 ^ (fc + 1) * 2 ^ (m + 1) = 2 * 2 ^ (fc + (m + 1)):=by rw [<- Nat.pow_add,show fc + 1 + (m + 1) = (fc + (m + 1)) + 1 by omega,Nat.pow_succ]; ac_rfl
 exact a5s hc (by omega) (by omega) (by omega)
set_option maxRecDepth 100000 in
set_option maxHeartbeats 400000 in
theorem c0C (x c : Nat) (w : World) (hc : 0 < c) (h1 : c <= x) (h2 : x < 100000) :
    Calls Tryz.prog 237 #[.int .i64 x,.int .i64 c] w λ e w'=>e = .returned (.int .i64 (outC x c)) /\ w = w':=by
 obtain ⟨hx1,hx2⟩:=a3f x (by omega) (by omega)
 obtain ⟨hc1,hc2⟩:=a3f c (by omega) (by omega)
 have hle:=c0y c x hc h1 (by omega)
 have h16:=c0z x h2
 obtain ⟨fc,hfc⟩ : ∃ m,m = a0s c:=⟨_,rfl⟩
 obtain ⟨n,hn⟩ : ∃ n,a0s x = fc + n:=⟨a0s x - fc,by omega⟩
 rw [hn] at hx1 hx2 h16
 rw [<- hfc] at hc1 hc2
 have HN:=Lib.hid hn
 have HC:=Lib.hid hfc
 clear hn hfc hle
 go_enter Tryz.func237,Tryz.ntmps237
 go_wp2_with fail
 refine (a6F _ _ (by omega)).mono ?_
 rintro e w' ⟨rfl,rfl⟩
 rw [HN.out]
 go_wp2_with fail
 refine (a6F _ _ (by omega)).mono ?_
 rintro e w' ⟨rfl,rfl⟩
 rw [<- HC.out]
 go_wp2_with fail
 · rename_i hh
   go_ret
   refine ⟨a1F ?_,rfl⟩
   have hh' : 2 * c <= x / 2 ^ n:=by exact_mod_cast hh
   rw [c0A hc h16 hc1 hc2 hx1 hx2 hh']; omega
 · rename_i hh
   go_ret
   refine ⟨a1F ?_,rfl⟩
   have hh' : x / 2 ^ n < c:=by exact_mod_cast hh
   obtain ⟨a,b⟩:=c0B hc h16 hc1 hc2 hx1 hx2 h1 hh'
   rw [b]; omega
 · rename_i hh1 hh
   go_ret
   refine ⟨a1F ?_,rfl⟩
   have hh' : c <= x / 2 ^ n:=by exact_mod_cast hh
   have hh1' : x / 2 ^ n < 2 * c:=by exact_mod_cast hh1
   have hp : 0 < 2 ^ n:=Nat.two_pow_pos n
   rw [a5s hc (by omega) ((Nat.le_div_iff_mul_le hp).1 hh') ((Nat.div_lt_iff_lt_mul hp).1 hh1')]; omega
open Go.IntWalk
def a0V (q : List Int) (x : Int) : Nat:=2 ^ logC q + x.toNat
def cntC (q : List Int) (s : Int) : Nat:=(a1o q s).length
def a0C (q : List Int) (x s : Int) : Nat:=outC (a0V q x) (cntC q s)
def a1p (q : List Int) (x s : Int) : Int:=(a1o q s).getD (a0V q x / 2 ^ a0C q x s - cntC q s) 0
def a1r (q : List Int) (x s : Int) : Nat:=a0V q x % 2 ^ a0C q x s
theorem a3g {q : List Int} (h : logC q ≠ 0) : (symsL q).length = 2 ^ logC q:=by
 have hq:=a1B h
 have h1:=(a3d hq).length_eq
 have h2:=a6z hq.nonneg
 have h3:=a8D h
 have h4 : a1b q = q.sum:=by unfold a1b; rw [if_pos (rightC_iff.2 ⟨hq.len,hq.nonneg,by have:=hq.sum; omega⟩)]
 have h5 : (symsL q).length = (a0r q).length:=by simp [symsL]
 have h6 : ((symsL q).length : Int) = ((2 ^ logC q : Nat) : Int):=by
  rw [h5,h1,h2,<- h4,h3]; unfold logC; simp
 exact_mod_cast h6
theorem a5t {q : List Int} (h : logC q ≠ 0) (s : Int) : cntC q s <= 2 ^ logC q:=by
 have:=b2W (symsL q) s (symsL q).length
 rw [a3g h] at this
 unfold cntC a1o
 rw [a3g h]; exact this
theorem c0D (n : Int) (h₀ : 0 <= n) (h₁ : n < 2 ^ 62) : IntKind.i64.wrap n = n:=i64_in _ (by omega)
theorem c0E (W m : Nat) (hW : W < 100000) (hm : m <= 17) : bits BinOp.and IntKind.i64 W (wrap64 (wrap64 (2 ^ m) - 1)) % 4294967296 = ((W % 2 ^ m : Nat) : Int):=by
 have hp : (2 : Int) ^ m <= 131072:=by
  have : 2 ^ m <= 2 ^ 17:=Nat.pow_le_pow_right (by omega) hm
  have h2 : ((2 ^ m : Nat) : Int) <= 131072:=by omega
  simpa using h2
 have hp1 : (1 : Int) <= 2 ^ m:=by
  have:=Nat.two_pow_pos m
  have h2 : (1 : Int) <= ((2 ^ m : Nat) : Int):=by omega
  simpa using h2
 rw [w64 (n:=2 ^ m) (by omega),w64 (n:=2 ^ m - 1) (by omega)]
 rw [bits_mask .i64 62 (by decide) c0D m (by omega) (W : Int) (by omega) (by omega)]
 have e : (W : Int) % 2 ^ m = ((W % 2 ^ m : Nat) : Int):=by simp
 rw [e]
 have:=Nat.mod_le W (2 ^ m)
 omega
set_option maxRecDepth 100000 in
set_option maxHeartbeats 400000 in
theorem c0F (lo hi tb : Nat) (q : List Int) (x s : Int) (w : World) (hT : EtabAt lo hi w tb q) (hl0 : logC q ≠ 0) (hx0 : 0 <= x) (hx1 : x < 2 ^ logC q) (hs0 : 0 <= s) (hs1 : s < 256) (hn : 0 < cntC q s) :
    Calls Tryz.prog 199 #[.pointer (some ⟨tb,0,none⟩),.int .i64 x,.int .u8 s] w (Ret (.tuple #[.int .i64 (a1p q x s),.int .i64 (a0C q x s),.int .u32 (a1r q x s),.bool true]) w):=by
 obtain ⟨b,n,f,h1,h2,h3,h4,hblk,hM,hR⟩:=hT
 have hlk:=lookT b n f s w (wf_u8 hs0 hs1) hM
 have hrow:=hR s hs0 hs1
 obtain ⟨v,hv⟩ : ∃ v,v = rowOf f s:=⟨_,rfl⟩
 rw [<- hv] at hlk hrow
 clear hv hR hM
 obtain ⟨A,c,rfl⟩:=Kd.R_slice hrow
 have HC:=Lib.hid (Kd.R_reads' hrow).2.2
 clear hrow
 have hc0 : w.cell? ⟨tb,0,none⟩ = some (.int .i64 (logC q)):=(a0a hblk 0).trans rfl
 have hc1 : w.cell? ⟨tb,1,none⟩ = some (.map (some b)):=(a0a hblk 1).trans rfl
 obtain ⟨y,rfl⟩ : ∃ y : Nat,x = y:=⟨x.toNat,by omega⟩
 have hr12:=a1S (a1b q)
 obtain ⟨r,hr⟩ : ∃ r,r = logC q:=⟨_,rfl⟩
 rw [<- hr] at hx1 hc0
 have hr12 : r <= 12:=by rw [hr]; exact a1S _
 have hb3 : decide ((y : Int) < 0) = false:=by simp
 clear hblk
 have hp:=a1A hr12
 obtain ⟨P,hP⟩ : ∃ P : Nat,P = 2 ^ r:=⟨_,rfl⟩
 have hPI : (2 : Int) ^ r = P:=by rw [hP,Int.natCast_pow]; rfl
 rw [hPI] at hp hx1
 have hp4 : P <= 4096:=by omega
 have hyP : y < P:=by omega
 have HWR : Hid (wrap64 (2 ^ r) = (P : Int)):=by show _ = _; rw [hPI]; exact w64 (by omega)
 have hb : decide (wrap64 (2 ^ r) <= (y : Int)) = false:=by rw [HWR.out]; simp; omega
 clear hp hPI hx1 hx0
 obtain ⟨N,hN⟩ : ∃ N,N = a0C q y s:=⟨_,rfl⟩
 obtain ⟨X,hX⟩ : ∃ X,X = a1p q y s:=⟨_,rfl⟩
 obtain ⟨L,hL⟩ : ∃ L,L = a1r q y s:=⟨_,rfl⟩
 rw [<- hN,<- hX,<- hL]
 obtain ⟨l,hl⟩ : ∃ l,l = a1o q s:=⟨_,rfl⟩
 have hcl : cntC q s = l.length:=by rw [hl]; rfl
 have hcP:=a5t hl0 s
 rw [<- hr,<- hP] at hcP
 rw [hcl] at hn hcP
 rw [<- hl] at hlk HC
 have HNX:=Lib.hid (And.intro hN (And.intro hX hL))
 have HL:=Lib.hid hl
 have HP:=Lib.hid hP
 have HR:=Lib.hid hr
 have HW2 : Hid (wrap64 (wrap64 (2 ^ r) + (y : Int)) = ((P + y : Nat) : Int)):=by show _ = _; rw [HWR.out]; rw [w64 (by omega)]; simp
 clear hP hr
 have hb2 : ((l.length : Int) == 0) = false:=by simp; intro e; rw [e] at hn; cases hn
 clear hN hX hL hcl hl
 go_enter Tryz.func199,Tryz.ntmps199
 go_wp2_with fail
 rw [HW2.out]
 obtain ⟨W,hW⟩ : ∃ W,W = P + y:=⟨_,rfl⟩
 rw [<- hW]
 have hWl : l.length <= W:=by omega
 have hWu : W < 100000:=by omega
 have hl4 : l.length <= 4096:=by omega
 refine (c0C W l.length w hn hWl hWu).mono ?_
 obtain ⟨o1,o2,o3⟩:=a6G hn hWl hWu
 obtain ⟨m,hm⟩ : ∃ m,m = outC W l.length:=⟨_,rfl⟩
 rw [<- hm] at o1 o2 o3 ⊢
 rintro e w' ⟨rfl,rfl⟩
 have HM:=Lib.hid hm
 have HWW:=Lib.hid hW
 have hp2 : 0 < 2 ^ m:=Nat.two_pow_pos m
 have p1:=(Nat.le_div_iff_mul_le hp2).2 o1
 have p2:=(Nat.div_lt_iff_lt_mul hp2).2 o2
 obtain ⟨D,hD⟩ : ∃ D,D = W / 2 ^ m:=⟨_,rfl⟩
 have hDI : (W : Int) / 2 ^ m = (D : Int):=by rw [hD,Int.natCast_ediv,Int.natCast_pow]; rfl
 rw [<- hD] at p1 p2
 have hjl : D - l.length < l.length:=by omega
 obtain ⟨ad,rfl,hcx⟩:=a0v HC.out (D - l.length) hjl
 have hX : X = l.getD (D - l.length) 0:=by
  rw [HNX.out.2.1]
  unfold a1p a0V a0C cntC
  rw [<- HL.out,<- HR.out,<- HP.out]
  rw [hD,hm,hW]
  simp only [Int.toNat_natCast]
  unfold a0V
  rw [<- HR.out,<- HP.out]; simp only [Int.toNat_natCast]
 rw [<- hX] at hcx
 have HO:=Lib.hid (And.intro o1 (And.intro o2 o3))
 have HDD:=Lib.hid hD
 have HXX:=Lib.hid hX
 clear hm hW hWl hcP hp2 o1 o2 hD hX
 obtain ⟨j,hj⟩ : ∃ j,j = D - l.length:=⟨_,rfl⟩
 rw [<- hj] at hcx hjl
 have hDj : D = l.length + j:=by omega
 have hadd : ((D : Int) - (l.length : Int)) = (j : Int):=by rw [hDj]; simp; omega
 have hj4 : j < 100000:=by omega
 have hwj : IntKind.i64.wrap (j : Int) = (j : Int):=i64_in _ (by omega)
 have hji : (j : Int) < (l.length : Int):=by omega
 have HJ:=Lib.hid hj
 have HDJ:=Lib.hid hDj
 clear hj hDj
 go_wp2_with fail
 go_region
 all_goals
  go_wp2
  rw [c0E W m hWu o3]
  refine bodyPost_ret (v:=.tuple #[.int .i64 X,.int .i64 N,.int .u32 L,.bool true]) ?_ rfl ⟨rfl,(Below.refl _ _).drew⟩
  have e1 : m = N:=by rw [HNX.out.1]; unfold a0C a0V; rw [show cntC q s = l.length by rw [HL.out]; rfl,HM.out,HWW.out,HP.out,HR.out]; simp
  have e2 : W % 2 ^ m = L:=by rw [HNX.out.2.2]; unfold a1r; rw [<- HNX.out.1,e1]; unfold a0V; rw [HWW.out,HP.out,HR.out]; simp
  rw [e2,e1]
  simp [results,Tryz.results199,go_sem]
end Go.Proofs.YtflfjpkmjnnodaaGreat
namespace Go.Proofs.YtflfjpkmjnnodaaGreat
open Go.RowKit Go.Proofs.YtflfjpkmjnnodaaGreatW.PrintWords
theorem c0G (l : List Int) (d : Int) : l = (List.range l.length).map (λ j=>l.getD j d):=by
 apply List.ext_getElem
 · simp
 · intro i h1 h2
   simp [List.getElem?_eq_getElem h1]
theorem c0H (l : List Int) (s : Int) : (posN l s l.length).length = l.count s:=by
 have e : l.count s = ((List.range l.length).map (λ j=>l.getD j (-1))).count s:=congrArg (List.count s) (c0G l (-1))
 rw [e]
 unfold posN
 rw [List.length_map,List.count,List.countP_map,List.countP_eq_length_filter]
 congr 1
theorem b2Y {l : List Int} {s : Int} {k : Nat} (hk : k < l.length) (h : l.getD k (-1) = s) : (posN l s k).length < (posN l s l.length).length:=by
 have mono : ∀ m n,m <= n -> (posN l s m).length <= (posN l s n).length:=by
  intro m n hmn
  induction hmn with
  | refl=>exact Nat.le_refl _
  | step _ ih=>
   rename_i n _
   refine Nat.le_trans ih ?_
   by_cases e : l.getD n (-1) = s
   · rw [a2v e]; simp
   · rw [a3E e]; exact Nat.le_refl _
 have:=mono (k + 1) l.length hk
 rw [a2v h] at this
 simp at this; omega
theorem c0I (n : Int) (k : Nat) (s : Int) : ((a0Z n k).map (λ x=>x.2.2)).count s = if s = (k : Int) then n.toNat else 0:=by
 unfold a0Z
 rw [List.map_map]
 have : (λ (d : Nat)=>(k : Int)) = ((λ x : K3=>x.2.2) ∘ λ (d : Nat)=>((n + d,n,(k : Int)) : K3)):=rfl
 rw [<- this,List.map_const',List.count_replicate]
 simp only [List.length_range]
 by_cases e : s = (k : Int)
 · subst e; simp
 · simp [e,show ¬ (k : Int) = s from λ x=>e x.symm]
theorem c0J (q : List Int) (s : Nat) : ((a0B q).map (λ x=>x.2.2)).count (s : Int) = (q.getD s 0).toNat:=by
 have key : ∀ k,k <= q.length -> ((a0B (q.take k)).map (λ x=>x.2.2)).count (s : Int) = if s < k then (q.getD s 0).toNat else 0:=by
  intro k
  induction k with
  | zero=>intro _; simp [a0B]
  | succ k ih=>
   intro hk
   rw [a3c (by omega),List.map_append,List.count_append,ih (by omega),c0I]
   by_cases e : s = k
   · subst e; simp
   · have e2 : ¬ (s : Int) = (k : Int):=by omega
     by_cases e3 : s < k
     · simp [e2,e3,show s < k + 1 by omega]
     · simp [e2,e3,show ¬ s < k + 1 by omega]
 have h:=key q.length (Nat.le_refl _)
 rw [List.take_length] at h
 rw [h]
 by_cases e : s < q.length
 · simp [e]
 · simp [e]
theorem a2L {q : List Int} (hq : Good q) (s : Nat) : cntC q s = (q.getD s 0).toNat:=by
 unfold cntC a1o
 rw [c0H,<- c0J q s]
 unfold symsL
 exact ((a3d hq).map _).count_eq _
def a0y (q : List Int) (j : Nat) : Nat:=(q.getD ((symsL q).getD j 0).toNat 0).toNat + (posN (symsL q) ((symsL q).getD j 0) j).length
theorem c0K {q : List Int} (hq : Good q) (j : Nat) (hj : j < (symsL q).length) : 0 < (q.getD ((symsL q).getD j 0).toNat 0).toNat /\ a0y q j < 2 * (q.getD ((symsL q).getD j 0).toNat 0).toNat:=by
 have hs:=a4C hq j hj
 obtain ⟨s,hse⟩ : ∃ s : Nat,(symsL q).getD j 0 = s:=⟨((symsL q).getD j 0).toNat,by omega⟩
 have h1:=b2Y hj hs.2.2
 rw [hse] at h1
 have h2:=a2L hq s
 unfold cntC a1o at h2
 unfold a0y
 rw [hse]
 simp only [Int.toNat_natCast]
 omega
def a1u (q : List Int) (j : Nat) : K3:=((symsL q).getD j 0,((logC q - a0s (a0y q j) : Nat) : Int),(a0y q j : Int) * 2 ^ (logC q - a0s (a0y q j)) - 2 ^ logC q)
def a1U (q : List Int) (k : Nat) : List K3:=(List.range k).map (a1u q)
def a2M (q : List Int) : List K3:=a1U q (symsL q).length
theorem b2Z {q : List Int} (hl : logC q ≠ 0) (j : Nat) (hj : j < (symsL q).length) : 0 < a0y q j /\ a0y q j < 100000 /\ a0s (a0y q j) <= logC q /\ 2 ^ logC q <= a0y q j * 2 ^ (logC q - a0s (a0y q j)) /\ a0y q j * 2 ^ (logC q - a0s (a0y q j)) < 2 * 2 ^ logC q:=by
 have hq:=a1B hl
 obtain ⟨h0,h1⟩:=c0K hq j hj
 have hs:=a4C hq j hj
 obtain ⟨s,hse⟩ : ∃ s : Nat,(symsL q).getD j 0 = s:=⟨((symsL q).getD j 0).toNat,by omega⟩
 have h2:=a5t hl s
 rw [a2L hq s] at h2
 rw [hse] at h0 h1
 simp only [Int.toNat_natCast] at h0 h1
 have hr : logC q <= 12:=a1S _
 have hp : 2 ^ logC q <= 2 ^ 12:=Nat.pow_le_pow_right (by omega) hr
 have hg0 : 0 < a0y q j:=by unfold a0y; rw [hse]; simp only [Int.toNat_natCast]; omega
 obtain ⟨f1,f2⟩:=a3f (a0y q j) hg0 (by omega)
 have hf : a0s (a0y q j) <= logC q:=by
  by_cases e : a0s (a0y q j) <= logC q
  · exact e
  · have : 2 ^ (logC q + 1) <= 2 ^ a0s (a0y q j):=Nat.pow_le_pow_right (by omega) (by omega)
    rw [Nat.pow_succ] at this; omega
 refine ⟨hg0,by omega,hf,?_,?_⟩
 · calc 2 ^ logC q = 2 ^ a0s (a0y q j) * 2 ^ (logC q - a0s (a0y q j)):=by rw [<- Nat.pow_add]; congr 1; omega
     _ <= _:=Nat.mul_le_mul_right _ f1
 · calc _ < 2 ^ (a0s (a0y q j) + 1) * 2 ^ (logC q - a0s (a0y q j)):=Nat.mul_lt_mul_of_pos_right f2 (Nat.two_pow_pos _)
     _ = 2 ^ (logC q + 1):=by rw [<- Nat.pow_add]; congr 1; omega
     _ = _:=by rw [Nat.pow_succ]; ac_rfl
open Go.IntWalk
def kc : Kd K3:=Kd.pair (Kd.int .u8) (Kd.pair (Kd.int .i64) (Kd.int .i64))
theorem a6H (κ : IntKind) (e : TypeId) (W : World) (base : Nat) (ok : Nat -> Prop) (hb : base <= W.heap.size) (hok : ok W.heap.size) : (Kd.int κ).R e (W.alloc (.cells #[] e)) base ok (.slice (some ⟨W.heap.size,0,none⟩) 0 0) []:=by
 refine ⟨λ k hk=>by cases hk; exact hok,[],⟨rfl,.inr ⟨W.heap.size,0,#[],rfl,hb,a0k W _,Nat.le_refl _,Nat.zero_le _,rfl,rfl⟩⟩,Reps.none _ _⟩
theorem a8L {κ : IntKind} {e base : Nat} {ok : Nat -> Prop} {w : World} {v : Value} {xs : List Int} (h : (Kd.int κ).R e w base ok v xs) (hn : 0 < xs.length) : ∃ g c,v = .slice (some ⟨g,0,none⟩) xs.length c:=by
 obtain ⟨ad,c,rfl⟩:=Kd.R_slice1 h hn
 obtain ⟨g,rfl⟩:=Kd.R_head h
 exact ⟨g,c,rfl⟩
theorem a1C {κ : IntKind} {e : TypeId} {W : World} {base : Nat} {ok : Nat -> Prop} {g n cap : Nat} {xs : List Int} (h : (Kd.int κ).R e W base ok (.slice (some ⟨g,0,none⟩) n cap) xs) (i : Nat) (hi : i < n) :
    W.cell? ⟨g,i,none⟩ = some (.int κ (xs.getD i 0)) /\ W.frozen? ⟨g,i,none⟩ = false:=by
 obtain ⟨c,hl,hm,hc,hf⟩:=Kd.R_elem h 0 (i : Int) (by omega) (by omega)
 have hm' : c = [.int κ (xs.getD (i : Int).toNat 0)]:=hm
 subst hm'
 simp only [Int.toNat_natCast] at hc hf
 have e1 : i * (Kd.int κ).sz + 0 = i:=by show i * 1 + 0 = i; omega
 have h1:=hc 0 _ rfl
 have h2:=hf 0
 rw [e1] at h1 h2
 exact ⟨h1,h2⟩
def byteL : List Bool -> Nat
 | []=>0
 | b :: l=>b.toNat + 2 * byteL l
theorem a4e : ∀ l : List Bool,byteL l < 2 ^ l.length
 | []=>by decide
 | b :: l=>by
  have:=a4e l
  simp only [byteL,List.length_cons,Nat.pow_succ]
  have : b.toNat <= 1:=by cases b <;> decide
  omega
theorem a3h : ∀ (l : List Bool) (b : Bool),byteL (l ++ [b]) = byteL l + b.toNat * 2 ^ l.length
 | [],b=>by simp [byteL]
 | a :: l,b=>by
  simp only [List.cons_append,byteL,a3h l b,List.length_cons,Nat.pow_succ]
  rw [Nat.mul_add]
  have : b.toNat * (2 ^ l.length * 2) = 2 * (b.toNat * 2 ^ l.length):=by ac_rfl
  omega
def packB (bs : List Bool) : List Int:=(List.range ((bs.length + 7) / 8)).map (λ i=>(byteL ((bs.drop (8 * i)).take 8) : Int))
theorem a0z (bs : List Bool) : (packB bs).length = (bs.length + 7) / 8:=by simp [packB]
theorem a1V (bs : List Bool) (i : Nat) (h : i < (packB bs).length) : (packB bs)[i] = (byteL ((bs.drop (8 * i)).take 8) : Int):=by simp [packB]
theorem a8M (bs : List Bool) (b : Bool) (i : Nat) (h : 8 * i + 8 <= bs.length) : ((bs ++ [b]).drop (8 * i)).take 8 = (bs.drop (8 * i)).take 8:=by
 rw [List.drop_append_of_le_length (by omega),List.take_append_of_le_length (by rw [List.length_drop]; omega)]
theorem c1a {bs : List Bool} (b : Bool) (h : bs.length % 8 = 0) : packB (bs ++ [b]) = packB bs ++ [(b.toNat : Int)]:=by
 apply List.ext_getElem
 · simp [a0z]; omega
 · intro i h1 h2
   rw [a1V]
   by_cases hi : i < (packB bs).length
   · rw [List.getElem_append_left hi,a1V,a8M _ _ _ (by rw [a0z] at hi; omega)]
   · have hl : (packB bs).length = bs.length / 8:=by rw [a0z]; omega
     have he : i = bs.length / 8:=by rw [List.length_append,List.length_singleton] at h2; omega
     rw [List.getElem_append_right (by omega)]
     have e8 : 8 * i = bs.length:=by omega
     rw [e8,List.drop_append_of_le_length (Nat.le_refl _),List.drop_length]
     simp [byteL]
theorem c1b {bs : List Bool} (b : Bool) (h : bs.length % 8 ≠ 0) : packB (bs ++ [b]) = (packB bs).set ((packB bs).length - 1) ((byteL (bs.drop (8 * (bs.length / 8))) : Int) + (b.toNat : Int) * 2 ^ (bs.length % 8)):=by
 have hl : (packB bs).length = bs.length / 8 + 1:=by rw [a0z]; omega
 apply List.ext_getElem
 · simp [a0z]; omega
 · intro i h1 h2
   rw [a1V,List.getElem_set]
   by_cases hi : (packB bs).length - 1 = i
   · rw [if_pos hi]
     have he : i = bs.length / 8:=by omega
     rw [he,List.drop_append_of_le_length (by omega)]
     have hdl : (bs.drop (8 * (bs.length / 8))).length = bs.length % 8:=by rw [List.length_drop]; omega
     rw [List.take_of_length_le (by rw [List.length_append,hdl,List.length_singleton]; omega),a3h,hdl]
     simp
   · rw [if_neg hi,a1V,a8M _ _ _ (by rw [List.length_set] at h2; omega)]
theorem b3c {bs : List Bool} (h : bs.length % 8 ≠ 0) : (packB bs).getD ((packB bs).length - 1) 0 = (byteL (bs.drop (8 * (bs.length / 8))) : Int) /\ byteL (bs.drop (8 * (bs.length / 8))) < 2 ^ (bs.length % 8):=by
 have hl : (packB bs).length = bs.length / 8 + 1:=by rw [a0z]; omega
 have hdl : (bs.drop (8 * (bs.length / 8))).length = bs.length % 8:=by rw [List.length_drop]; omega
 constructor
 · rw [List.getD_eq_getElem?_getD,List.getElem?_eq_getElem (by omega),Option.getD_some,a1V]
   rw [show (packB bs).length - 1 = bs.length / 8 by omega,List.take_of_length_le (by omega)]
 · have:=a4e (bs.drop (8 * (bs.length / 8)))
   rw [hdl] at this; exact this
structure WrVal (w : World) (base p : Nat) (v : Value) (bs : List Bool) : Prop where
 blk : w.heap[p]? = some (.cells #[v,.int .i64 bs.length] 229 (0,0))
 row : (Kd.int .u8).R 5 w base (λ k=>k ≠ p) v (packB bs)
def a6I (base p : Nat) (v0 : Value) (bs : List Bool) (b : Bool) (w : World) (e : Ending) (w' : World) : Prop:=
 e = .returned (.tuple #[]) /\ ∃ v',WrVal w' base p v' (bs ++ [b]) /\ (v'.ownBlock = v0.ownBlock \/ ∃ b,v'.ownBlock = some b /\ w.heap.size <= b) /\ Only (λ k=>k = p \/ v0.ownBlock = some k) w w'
theorem c1c {base p g c1 : Nat} {v0 : Value} {bs : List Bool} {w wa : World} (h : WrVal w base p v0 bs) (hr : (Kd.int .u8).R 5 wa base (λ k=>k ≠ p) (.slice (some ⟨g,0,none⟩) (packB bs ++ [0]).length c1) (packB bs ++ [0])) (hg : w.grownBy wa v0.ownBlock)
    (hat : (Value.slice (some ⟨g,0,none⟩) (packB bs ++ [0]).length c1).ownBlock = v0.ownBlock \/ ∃ b,(Value.slice (some ⟨g,0,none⟩) (packB bs ++ [0]).length c1).ownBlock = some b /\ w.heap.size <= b) :
    wa.frozen? ⟨p,0,none⟩ = false /\ wa.cell? ⟨p,0,none⟩ = some v0 /\ Hid (wa.heap[p]? = some (.cells #[v0,.int .i64 bs.length] 229 (0,0)) /\ (Kd.int .u8).R 5 wa base (λ k=>k ≠ p) (.slice (some ⟨g,0,none⟩) (packB bs ++ [0]).length c1) (packB bs ++ [0]) /\
     (some g = v0.ownBlock \/ w.heap.size <= g) /\ Only (λ k=>k = p \/ v0.ownBlock = some k) w wa):=by
 have hb:=a1e h.blk hg (λ e=>h.row.1 p e.symm rfl)
 refine ⟨a0e hb 0,(a0a hb 0).trans rfl,hb,hr,?_,Only.of_grown hg (λ k hk=>.inr hk)⟩
 rcases hat with e | ⟨b,e,hb⟩
 · exact .inl e
 · cases e; exact .inr hb
theorem c1d {base p g c1 k n : Nat} {v0 : Value} {bs : List Bool} {xs : List Int} {wa : World} (hb : wa.heap[p]? = some (.cells #[v0,.int .i64 bs.length] 229 (0,0)))
    (hr : (Kd.int .u8).R 5 wa base (λ k=>k ≠ p) (.slice (some ⟨g,0,none⟩) k c1) xs) (hk : 0 < k) (hn : n = bs.length) :
    ((wa.setCell ⟨p,0,none⟩ (.slice (some ⟨g,0,none⟩) k c1)).heap[p]? = some (.cells #[.slice (some ⟨g,0,none⟩) k c1,.int .i64 bs.length] 229 (0,0)) /\ (Kd.int .u8).R 5 (wa.setCell ⟨p,0,none⟩ (.slice (some ⟨g,0,none⟩) k c1)) base (λ k=>k ≠ p) (.slice (some ⟨g,0,none⟩) k c1) xs) /\
    (wa.setCell ⟨p,0,none⟩ (.slice (some ⟨g,0,none⟩) k c1)).cell? ⟨p,0,none⟩ = some (.slice (some ⟨g,0,none⟩) k c1) /\ (wa.setCell ⟨p,0,none⟩ (.slice (some ⟨g,0,none⟩) k c1)).cell? ⟨p,1,none⟩ = some (.int .i64 n) /\
    (wa.setCell ⟨p,0,none⟩ (.slice (some ⟨g,0,none⟩) k c1)).frozen? ⟨p,1,none⟩ = false /\ g ≠ p /\
    (wa.setCell ⟨p,0,none⟩ (.slice (some ⟨g,0,none⟩) k c1)).cell? ⟨g,k - 1,none⟩ = some (.int .u8 (xs.getD (k - 1) 0)) /\ (wa.setCell ⟨p,0,none⟩ (.slice (some ⟨g,0,none⟩) k c1)).frozen? ⟨g,k - 1,none⟩ = false:=by
 have h1:=a0u hb 0 (.slice (some ⟨g,0,none⟩) k c1)
 have h2:=Kd.R_far (p:=⟨p,0,none⟩) hr (λ k hk=>hk) (.slice (some ⟨g,0,none⟩) k c1)
 have h3:=a1C h2 (k - 1) (by omega)
 subst hn
 exact ⟨⟨h1,h2⟩,(a0a h1 0).trans rfl,(a0a h1 1).trans rfl,a0e h1 1,hr.1 g rfl,h3.1,h3.2⟩
structure Mid (p g m c1 n : Nat) (x : Int) (W1 : World) : Prop where
 c0 : W1.cell? ⟨p,0,none⟩ = some (.slice (some ⟨g,0,none⟩) (m + 1) c1)
 c1 : W1.cell? ⟨p,1,none⟩ = some (.int .i64 n)
 f1 : W1.frozen? ⟨p,1,none⟩ = false
 ne : g ≠ p
 cx : W1.cell? ⟨g,m,none⟩ = some (.int .u8 x)
 fx : W1.frozen? ⟨g,m,none⟩ = false
theorem c1e {base p g c1 n : Nat} {v0 : Value} {bs : List Bool} {wa : World} (hb : wa.heap[p]? = some (.cells #[v0,.int .i64 bs.length] 229 (0,0)))
    (hr : (Kd.int .u8).R 5 wa base (λ k=>k ≠ p) (.slice (some ⟨g,0,none⟩) (packB bs ++ [0]).length c1) (packB bs ++ [0])) (hn : n = bs.length) :
    Mid p g (packB bs).length c1 n 0 (wa.setCell ⟨p,0,none⟩ (.slice (some ⟨g,0,none⟩) ((packB bs).length + 1) c1)):=by
 obtain ⟨_,a,b,c,d,e,f⟩:=c1d (k:=(packB bs ++ [0]).length) hb hr (by simp) hn
 have e1 : (packB bs ++ [0]).length = (packB bs).length + 1:=by simp
 have e2 : (packB bs ++ [0]).getD (packB bs).length 0 = 0:=by rw [List.getD_eq_getElem?_getD,List.getElem?_append_right (Nat.le_refl _)]; simp
 rw [e1] at a b c e f
 rw [Nat.add_sub_cancel] at e f
 rw [e2] at e
 exact ⟨a,b,c,d,e,f⟩
theorem a8g {W : World} {p g i j : Nat} {u : Value} (h : W.cell? ⟨p,i,none⟩ = some u) (hne : p ≠ g) (v : Value) : (W.setCell ⟨g,j,none⟩ v).drew.cell? ⟨p,i,none⟩ = some u:=by
 have e : (W.setCell ⟨g,j,none⟩ v).drew.heap[p]? = W.heap[p]?:=Below.heap_setCell W ⟨g,j,none⟩ v p hne
 exact (World.cell?_of_block (a:=⟨p,i,none⟩) e).trans h
theorem b3d {W : World} {p g i j : Nat} {b : Bool} (h : W.frozen? ⟨p,i,none⟩ = b) (hne : p ≠ g) (v : Value) : (W.setCell ⟨g,j,none⟩ v).drew.frozen? ⟨p,i,none⟩ = b:=by
 have e : (W.setCell ⟨g,j,none⟩ v).drew.heap[p]? = W.heap[p]?:=Below.heap_setCell W ⟨g,j,none⟩ v p hne
 exact (World.frozen?_of_block (a:=⟨p,i,none⟩) e).trans h
theorem b3e (u : Nat) (hu : u < 4294967296) : bits BinOp.and IntKind.u32 (u : Int) 1 % 256 = ((decide (u % 2 = 1)).toNat : Int):=by
 have h:=bits_mask .u32 32 (by decide) (λ n h0 h1=>by rw [IntKind.wrap_u32]; omega) 1 (by decide) (u : Int) (by omega) (by omega)
 have e : ((2 : Int) ^ 1 - 1) = 1:=by decide
 rw [e] at h
 rw [h]
 by_cases h2 : u % 2 = 1
 · simp [h2]; omega
 · simp [h2]; omega
theorem or_u8 (a b j : Nat) (ha : a < 2 ^ j) (hb : b <= 1) (hj : j < 8) : bits BinOp.or IntKind.u8 (a : Int) ((b * 2 ^ j : Nat) : Int) = ((a + b * 2 ^ j : Nat) : Int):=by
 have h8 : 2 ^ (j + 1) <= 2 ^ 8:=Nat.pow_le_pow_right (by omega) (by omega)
 rw [Nat.pow_succ] at h8
 have hb2 : b * 2 ^ j <= 2 ^ j:=by have:=Nat.mul_le_mul_right (2 ^ j) hb; omega
 have h:=(bits_nat .u8 8 (by decide) (λ n h0 h1=>by rw [IntKind.wrap_u8]; omega) a (b * 2 ^ j) (by omega) (by omega)).2
 rw [h]
 have e:=Nat.two_pow_add_eq_or_of_lt ha b
 rw [Nat.mul_comm b,Nat.or_comm,<- e,Nat.add_comm]
theorem c1f (u : Nat) (hu : u < 4294967296:=by assumption) : bits BinOp.or IntKind.u8 0 (bits BinOp.and IntKind.u32 (u : Int) 1 % 256) = ((decide (u % 2 = 1)).toNat : Int):=by
 rw [b3e u hu]
 have:=or_u8 0 (decide (u % 2 = 1)).toNat 0 (by decide) (by cases decide (u % 2 = 1) <;> decide) (by decide)
 simpa using this
theorem c1g (u x j : Nat) (hu : u < 4294967296) (hx : x < 2 ^ j) (hj : j < 8) : bits BinOp.or IntKind.u8 (x : Int) (bits BinOp.and IntKind.u32 (u : Int) 1 % 256 * 2 ^ j % 256) = ((x + (decide (u % 2 = 1)).toNat * 2 ^ j : Nat) : Int):=by
 rw [b3e u hu]
 have hb : (decide (u % 2 = 1)).toNat <= 1:=by cases decide (u % 2 = 1) <;> decide
 have hp : 2 ^ j <= 2 ^ 7:=Nat.pow_le_pow_right (by omega) (by omega)
 have h2:=Nat.mul_le_mul_right (2 ^ j) hb
 have e : ((decide (u % 2 = 1)).toNat : Int) * 2 ^ j % 256 = (((decide (u % 2 = 1)).toNat * 2 ^ j : Nat) : Int):=by
  have e1 : ((decide (u % 2 = 1)).toNat : Int) * 2 ^ j = (((decide (u % 2 = 1)).toNat * 2 ^ j : Nat) : Int):=by simp
  rw [e1]; omega
 rw [e]
 exact or_u8 x _ j hx hb hj
theorem b3f {base p g m n c1 : Nat} {V : Int} {v0 : Value} {bs : List Bool} {xs : List Int} {b : Bool} {w W1 W2 : World} (hb : W1.heap[p]? = some (.cells #[.slice (some ⟨g,0,none⟩) (m + 1) c1,.int .i64 n] 229 (0,0)))
    (hr : (Kd.int .u8).R 5 W1 base (λ k=>k ≠ p) (.slice (some ⟨g,0,none⟩) (m + 1) c1) xs) (hloc : some g = v0.ownBlock \/ w.heap.size <= g) (ho : Only (λ k=>k = p \/ v0.ownBlock = some k) w W1)
    (hne : g ≠ p) (hn : n = bs.length) (hx : xs.set m V = packB (bs ++ [b])) (hW2 : W2 = (W1.setCell ⟨g,m,none⟩ (.int .u8 V)).drew) :
    a6I base p v0 bs b w (.returned (.tuple #[])) (W2.setCell ⟨p,1,none⟩ (.int .i64 ((n : Int) + 1))):=by
 have r2:=Kd.R_drew (Kd.R_putn hr (m : Int) V)
 have b2:=a0U (a1x hb (p:=⟨g,m,none⟩) (λ e=>hne e.symm) (.int .u8 V))
 have e2 : ((W1.setCell ⟨g,(m : Int).toNat,none⟩ (.int .u8 V)).drew) = W2:=by rw [hW2]; rfl
 rw [e2] at r2
 rw [<- hW2] at b2
 have r3:=Kd.R_far (p:=⟨p,1,none⟩) r2 (λ k hk=>hk) (.int .i64 ((n : Int) + 1))
 have b3:=a0u b2 1 (.int .i64 ((n : Int) + 1))
 have hx' : xs.set (m : Int).toNat V = packB (bs ++ [b]):=hx
 rw [hx'] at r3
 refine ⟨rfl,.slice (some ⟨g,0,none⟩) (m + 1) c1,⟨?_,r3⟩,?_,?_⟩
 · rw [b3]; simp [hn]
 · rcases hloc with e | e
   · exact .inl e
   · exact .inr ⟨g,rfl,e⟩
 · have hS : g = p \/ v0.ownBlock = some g \/ w.heap.size <= g:=by
     rcases hloc with e | e
     · exact .inr (.inl e.symm)
     · exact .inr (.inr e)
   have o1 : Only (λ k=>(k = p \/ v0.ownBlock = some k) \/ w.heap.size <= k) w W2:=by
    rw [hW2]
    exact (((ho.mono (λ k _ hk=>.inl hk)).setCell (p:=⟨g,m,none⟩) (by rcases hS with h | h | h; exact .inl (.inl h); exact .inl (.inr h); exact .inr h) _).drew)
   refine Only.mono (o1.setCell (p:=⟨p,1,none⟩) (.inl (.inl rfl)) _) (λ k hk h=>?_)
   rcases h with h | h
   · exact h
   · omega
theorem c1h {base p g m n c1 V : Nat} {v0 : Value} {bs : List Bool} {b : Bool} {w wa W1 W2 : World} (hb : wa.heap[p]? = some (.cells #[v0,.int .i64 bs.length] 229 (0,0)))
    (hr : (Kd.int .u8).R 5 wa base (λ k=>k ≠ p) (.slice (some ⟨g,0,none⟩) (packB bs ++ [0]).length c1) (packB bs ++ [0])) (hloc : some g = v0.ownBlock \/ w.heap.size <= g) (ho : Only (λ k=>k = p \/ v0.ownBlock = some k) w wa)
    (hne : g ≠ p) (hn : n = bs.length) (h8 : n % 8 = 0) (hm : m = (packB bs).length) (hW1 : W1 = wa.setCell ⟨p,0,none⟩ (.slice (some ⟨g,0,none⟩) (m + 1) c1)) (hW2 : W2 = (W1.setCell ⟨g,m,none⟩ (.int .u8 (V : Int))).drew) (hV : V = b.toNat) :
    a6I base p v0 bs b w (.returned (.tuple #[])) (W2.setCell ⟨p,1,none⟩ (.int .i64 ((n : Int) + 1))):=by
 have e1 : (packB bs ++ [0]).length = m + 1:=by rw [hm]; simp
 rw [e1] at hr
 have r1:=Kd.R_far (p:=⟨p,0,none⟩) hr (λ k hk=>hk) (.slice (some ⟨g,0,none⟩) (m + 1) c1)
 rw [<- hW1] at r1
 have b1:=a0u hb 0 (.slice (some ⟨g,0,none⟩) (m + 1) c1)
 rw [<- hW1] at b1
 refine b3f (xs:=packB bs ++ [0]) (by rw [b1]; simp [hn]) r1 hloc (by rw [hW1]; exact ho.setCell (p:=⟨p,0,none⟩) (.inl rfl) _) hne hn ?_ hW2
 rw [c1a b (by omega),hV,hm]
 simp [List.set_append_right]
set_option maxRecDepth 100000 in
set_option maxHeartbeats 1000000 in
theorem b3g (base p : Nat) (v0 : Value) (bs : List Bool) (u : Nat) (w : World) (h : WrVal w base p v0 bs) (hB : base <= w.heap.size) (hl : bs.length <= 1000000) (hu : u < 4294967296) :
    Calls Tryz.prog 202 #[.pointer (some ⟨p,0,none⟩),.int .u32 u] w (a6I base p v0 bs (decide (u % 2 = 1)) w):=by
 have hc0 : w.cell? ⟨p,0,none⟩ = some v0:=(a0a h.blk 0).trans rfl
 have hc1 : w.cell? ⟨p,1,none⟩ = some (.int .i64 bs.length):=(a0a h.blk 1).trans rfl
 have hf0:=a0e h.blk 0
 have hf1:=a0e h.blk 1
 obtain ⟨n,hn⟩ : ∃ n,n = bs.length:=⟨_,rfl⟩
 rw [<- hn] at hc1 hl
 have HH:=Lib.hid h
 have HN:=Lib.hid hn
 have hltp : p < w.heap.size:=a0f h.blk
 have HB:=Lib.hid hB
 clear h hn hB
 by_cases h8 : n % 8 = 0
 · have h8' : (n : Int) % 8 = 0:=by omega
   have HL : Hid (((packB bs).length + 1) * 1 <= 140737488355328):=by show _ <= _; rw [a0z,<- HN.out]; omega
   have HP:=Lib.hid hltp
   have HFr : Hid (∀ k,w.heap.size <= k -> k ≠ p):=λ k hk e=>by have:=HP.out; omega
   go_enter Tryz.func202,Tryz.ntmps202
   go_wp2_with (at_builtin; refine Kd.R_append (Kd.int .u8) (w0:=w) (W:=w) base rfl (.tmp 14) (.tmp 15) 22 5 (.int .u8 0) 1 rfl Tryz.underlying22 a0w rfl (by decide) (by decide) v0 _ (0 : Int) [.int .u8 0] (λ k=>k ≠ p) (λ _=>False) rfl rfl rfl (λ _ h=>h.elim) HFr.out HH.out.row (Below.refl _ _) HB.out HL.out ?_; intro v1 wa hr1 hb1 hg1 hat1; obtain ⟨g,c1,rfl⟩:=a8L hr1 (by simp); obtain ⟨hfa,hca,HA⟩:=c1c HH.out hr1 hg1 hat1; clear hr1 hb1 hg1 hat1)
   have HM:=c1e (n:=n) HA.out.1 HA.out.2.1 HN.out
   obtain ⟨m,hm⟩ : ∃ m,m = (packB bs).length:=⟨_,rfl⟩
   rw [<- hm]
   rw [<- hm] at HM
   obtain ⟨W1,hW1⟩ : ∃ W1,W1 = wa.setCell ⟨p,0,none⟩ (.slice (some ⟨g,0,none⟩) (m + 1) c1):=⟨_,rfl⟩
   rw [<- hW1]
   rw [<- hW1] at HM
   obtain ⟨S1,S2,S3,S4,S5,S6⟩:=HM
   have HW1:=Lib.hid hW1
   have HMM:=Lib.hid hm
   have hm4 : m <= 1000000:=by rw [hm,a0z,<- HN.out]; omega
   have hwm : IntKind.i64.wrap (m : Int) = m:=i64_in _ (by omega)
   have hm1 : (m : Int) < (m : Int) + 1:=by omega
   clear hW1 hm hc0 hf0 hf1 hc1 hca hfa
   go_wp2_with fail
   go_region
   all_goals
    rw [c1f u]
    obtain ⟨V,hV⟩ : ∃ V : Nat,V = (decide (u % 2 = 1)).toNat:=⟨_,rfl⟩
    rw [<- hV]
    obtain ⟨W2,hW2⟩ : ∃ W2,W2 = (W1.setCell ⟨g,m,none⟩ (.int .u8 (V : Int))).drew:=⟨_,rfl⟩
    rw [<- hW2]
    have hc2 : W2.cell? ⟨p,1,none⟩ = some (.int .i64 n):=by rw [hW2]; exact a8g S2 (λ e=>S4 e.symm) _
    have hf2 : W2.frozen? ⟨p,1,none⟩ = false:=by rw [hW2]; exact b3d S3 (λ e=>S4 e.symm) _
    have HV:=Lib.hid (And.intro hV (And.intro hW2 S4))
    clear hV hW2 S1 S2 S3 S4 S5 S6
    go_wp2_with fail
    go_end0
    exact c1h HA.out.1 HA.out.2.1 HA.out.2.2.1 HA.out.2.2.2 HV.out.2.2 HN.out h8 HMM.out HW1.out HV.out.2.1 HV.out.1
 · obtain ⟨j,hj⟩ : ∃ j,j = n % 8:=⟨_,rfl⟩
   have h8' : (n : Int) % 8 = (j : Int):=by omega
   have hlen:=a0z bs
   obtain ⟨m,hm⟩ : ∃ m,(packB bs).length = m + 1:=⟨(packB bs).length - 1,by rw [hlen,<- HN.out]; omega⟩
   obtain ⟨g,c1,rfl⟩:=a8L HH.out.row (by omega)
   have hne : g ≠ p:=HH.out.row.1 g rfl
   obtain ⟨S5,S6⟩:=a1C HH.out.row m (by omega)
   have hlast:=b3c (bs:=bs) (by rw [<- HN.out]; omega)
   rw [hm,Nat.add_sub_cancel] at hlast
   rw [hlast.1] at S5
   obtain ⟨x,hx⟩ : ∃ x,x = byteL (bs.drop (8 * (bs.length / 8))):=⟨_,rfl⟩
   rw [<- hx] at S5 hlast
   have HX : Hid (x < 2 ^ j /\ j < 8 /\ x = byteL (bs.drop (8 * (bs.length / 8))) /\ j = bs.length % 8):=⟨by rw [hj,HN.out]; exact hlast.2,by omega,hx,by rw [hj,HN.out]⟩
   have hm4 : m <= 1000000:=by have:=HN.out; omega
   have hwm : IntKind.i64.wrap (m : Int) = m:=i64_in _ (by omega)
   have hm1 : (m : Int) < (m : Int) + 1:=by omega
   rw [hm] at hc0 ⊢
   have HM:=Lib.hid hm
   clear hm hlen hlast hj hx
   have hj8 : j < 8:=HX.out.2.1
   have h80 : ¬ (j : Int) = 0:=by have:=HX.out.2.2.2; have:=HN.out; omega
   go_enter Tryz.func202,Tryz.ntmps202
   go_wp2_with fail
   go_region
   all_goals
    rw [c1g u x j hu HX.out.1 HX.out.2.1]
    obtain ⟨V,hV⟩ : ∃ V : Nat,V = x + (decide (u % 2 = 1)).toNat * 2 ^ j:=⟨_,rfl⟩
    rw [<- hV]
    obtain ⟨W2,hW2⟩ : ∃ W2,W2 = (w.setCell ⟨g,m,none⟩ (.int .u8 (V : Int))).drew:=⟨_,rfl⟩
    rw [<- hW2]
    have hc2 : W2.cell? ⟨p,1,none⟩ = some (.int .i64 n):=by rw [hW2]; exact a8g hc1 (λ e=>hne e.symm) _
    have hf2 : W2.frozen? ⟨p,1,none⟩ = false:=by rw [hW2]; exact b3d hf1 (λ e=>hne e.symm) _
    have HV:=Lib.hid (And.intro hV (And.intro hW2 hne))
    clear hV hW2 S5 S6 hc0 hf0 hne
    go_wp2_with fail
    go_end0
    have hrow:=HH.out.row
    have hblk:=HH.out.blk
    rw [HM.out] at hrow hblk
    rw [<- HN.out] at hblk
    refine b3f (xs:=packB bs) hblk hrow (.inl rfl) (Only.refl _ _) HV.out.2.2 HN.out ?_ HV.out.2.1
    rw [c1b _ (by rw [<- HN.out]; exact h8),HM.out,Nat.add_sub_cancel,<- HX.out.2.2.1,<- HX.out.2.2.2,HV.out.1]
    simp
def a0j (u n : Nat) : List Bool:=(List.range n).map (λ i=>decide (u / 2 ^ i % 2 = 1))
theorem b3h (u n : Nat) : a0j u (n + 1) = a0j u n ++ [decide (u / 2 ^ n % 2 = 1)]:=by unfold a0j; rw [List.range_succ,List.map_append]; rfl
theorem a0E (u n : Nat) : (a0j u n).length = n:=by simp [a0j]
def PutRel (base p : Nat) (v0 : Value) (bs : List Bool) (w : World) (w' : World) : Prop:=
 ∃ v',WrVal w' base p v' bs /\ (v'.ownBlock = v0.ownBlock \/ ∃ b,v'.ownBlock = some b /\ w.heap.size <= b) /\ Only (λ k=>k = p \/ v0.ownBlock = some k) w w'
theorem PutRel.trans {base p : Nat} {v0 v1 : Value} {b1 b2 : List Bool} {w w1 w2 : World} (h : WrVal w1 base p v1 b1 /\ (v1.ownBlock = v0.ownBlock \/ ∃ b,v1.ownBlock = some b /\ w.heap.size <= b) /\ Only (λ k=>k = p \/ v0.ownBlock = some k) w w1) (k : PutRel base p v1 b2 w1 w2) : PutRel base p v0 b2 w w2:=by
 obtain ⟨_,ha,ho⟩:=h
 obtain ⟨v2,h2,hb,ho2⟩:=k
 refine ⟨v2,h2,?_,ho.trans2 ho2 (λ i hi hs=>?_)⟩
 · rcases hb with e | ⟨b,e,hb⟩
   · rcases ha with e1 | ⟨b,e1,hb⟩
     · exact .inl (e.trans e1)
     · exact .inr ⟨b,e.trans e1,hb⟩
   · exact .inr ⟨b,e,Nat.le_trans ho.size hb⟩
 · rcases hs with hs | hs
   · exact .inl hs
   · rcases ha with e1 | ⟨b,e1,hb⟩
     · exact .inr (e1 ▸ hs)
     · rw [e1] at hs; cases hs; omega
set_option maxRecDepth 100000 in
set_option maxHeartbeats 400000 in
theorem a2e (base p : Nat) (v0 : Value) (bs : List Bool) (u n : Nat) (w : World) (h : WrVal w base p v0 bs) (hB : base <= w.heap.size) (hl : bs.length <= 900000) (hu : u < 4294967296) (hn : n <= 24) :
    Calls Tryz.prog 200 #[.pointer (some ⟨p,0,none⟩),.int .u32 u,.int .i64 n] w λ e w'=>e = .returned (.bool true) /\ PutRel base p v0 (bs ++ a0j u n) w w':=by
 have HH:=Lib.hid h
 have HB:=Lib.hid hB
 have HL:=Lib.hid hl
 clear h hB hl
 go_enter Tryz.func200,Tryz.ntmps200
 go_wp2_with fail
 go_loopw [15] (λ kv wr=>∃ (k : Nat),kv = .int .i64 k /\ k <= n /\ Hid (PutRel base p v0 (bs ++ a0j u k) w wr)) (λ kv _=>n - (intOf kv).toNat)
 case atStart=>exact ⟨0,rfl,by omega,v0,by simpa [a0j] using HH.out,.inl rfl,Only.refl _ _⟩
 case round=>
  obtain ⟨k,rfl,hk,H⟩:=hrel
  by_cases hlt : k < n
  · obtain ⟨vk,hk1,hk2,hk3⟩:=H.out
    have HK:=Lib.hid (And.intro hk1 (And.intro hk2 hk3))
    clear hk1 hk2 hk3
    have hsh : (u : Int) / 2 ^ k = ((u / 2 ^ k : Nat) : Int):=by simp
    have hul : u / 2 ^ k < 4294967296:=Nat.lt_of_le_of_lt (Nat.div_le_self _ _) hu
    obtain ⟨y,hy⟩ : ∃ y,y = u / 2 ^ k:=⟨_,rfl⟩
    rw [<- hy] at hsh hul
    have HY:=Lib.hid hy
    clear hy
    go_wp2_with fail
    refine (b3g base p vk (bs ++ a0j u k) y wr HK.out.1 (Nat.le_trans HB.out HK.out.2.2.size) (by rw [List.length_append,a0E]; have:=HL.out; omega) hul).mono ?_
    rintro e w1 ⟨rfl,hp⟩
    have HP:=Lib.hid (PutRel.trans HK.out hp)
    clear hp
    go_wp2_with fail
    go_roundw
    case rel=>
     refine ⟨k + 1,by go_num,by omega,?_⟩
     rw [b3h,<- HY.out,<- List.append_assoc]
     exact HP.out
    case measure=>simp [intOf]; omega
  · have hkn : k = n:=by omega
    subst hkn
    go_wp2_with fail
    go_ret
    exact ⟨rfl,H.out⟩
set_option maxRecDepth 100000 in
theorem a6J (w : World) : Calls Tryz.prog 152 #[] w λ e w'=>e = .returned (.pointer (some ⟨w.heap.size,0,none⟩)) /\ w' = w.alloc (.cells #[.slice none 0 0,.int .i64 0] 229):=by
 go_enter Tryz.func152,Tryz.ntmps152
 go_wp2_with fail
 go_ret
 exact ⟨rfl,rfl⟩
set_option maxRecDepth 100000 in
theorem b3i (base p : Nat) (v0 : Value) (bs : List Bool) (w : World) (h : WrVal w base p v0 bs) :
    Calls Tryz.prog 203 #[.pointer (some ⟨p,0,none⟩)] w λ e w'=>e = .returned (.int .i64 bs.length) /\ w = w':=by
 have hc1 : w.cell? ⟨p,1,none⟩ = some (.int .i64 bs.length):=(a0a h.blk 1).trans rfl
 clear h
 go_enter Tryz.func203,Tryz.ntmps203
 go_wp2_with fail
 go_ret
 exact ⟨rfl,rfl⟩
def ctxI (b : List Int) (i : Int) : Int:=if i < 0 \/ (b.length : Int) <= i then -1 else if i = 0 then 0 else b.getD (i - 1).toNat 0
set_option maxRecDepth 100000 in
set_option maxHeartbeats 400000 in
theorem a6K (A : Option Addr) (c : Nat) (b : List Int) (i : Nat) (w : World) (hr : (Kd.int .u8).C w A b.length b) (hi : i < b.length) (hl : b.length <= 1000000) (hb : ∀ x ∈ b,0 <= x /\ x < 256) :
    Calls Tryz.prog 155 #[.slice A b.length c,.int .i64 i] w λ e w'=>e = .returned (.int .i64 (ctxI b i)) /\ w = w':=by
 have he : ctxI b i = if i = 0 then 0 else b.getD (i - 1) 0:=by
  unfold ctxI; rw [if_neg (by omega)]
  by_cases h : i = 0
  · subst h; rfl
  · rw [if_neg (by omega),if_neg h]; congr 1; omega
 obtain ⟨z,hz⟩ : ∃ z,z = ctxI b i:=⟨_,rfl⟩
 rw [<- hz] at he ⊢
 have HE:=Lib.hid he
 have hlt : (i : Int) < (b.length : Int):=by omega
 have hbn : ¬ b = []:=by intro e; subst e; cases hi
 clear he hz
 by_cases h0 : i = 0
 · subst h0
   have HR:=Lib.hid hr
   clear hr
   go_enter Tryz.func155,Tryz.ntmps155
   go_wp2_with fail
   go_ret
   exact ⟨a1F HE.out.symm,rfl⟩
 · obtain ⟨j,rfl⟩ : ∃ j,i = j + 1:=⟨i - 1,by omega⟩
   obtain ⟨ad,rfl,hc⟩:=a0v hr j (by omega)
   have HR:=Lib.hid hr
   obtain ⟨x,hx⟩ : ∃ x,x = b.getD j 0:=⟨_,rfl⟩
   have hxr : 0 <= x /\ x < 256:=by
    rw [hx,List.getD_eq_getElem?_getD,List.getElem?_eq_getElem (by omega)]
    exact hb _ (List.getElem_mem _)
   rw [<- hx] at hc
   have HX:=Lib.hid hx
   clear hr hx
   go_enter Tryz.func155,Tryz.ntmps155
   go_wp2_with fail
   go_ret
   refine ⟨a1F ?_,rfl⟩
   rw [HE.out,if_neg h0,Nat.add_sub_cancel,<- HX.out]
def kq : Kd (List Int):=Kd.slice 3 (Kd.int .i64)
theorem kq_at {w : World} {A : Option Addr} {n : Nat} {qs : List (List Int)} (h : kq.C w A n qs) (i : Nat) (hi : i < n) :
    ∃ ad B c,A = some ad /\ w.cell? (ad.add i) = some (.slice B (qs.getD i []).length c) /\ (qs.getD i []).length <= c /\ (Kd.int .i64).C w B (qs.getD i []).length (qs.getD i []):=by
 obtain ⟨ad,e,hc⟩:=h.2.2 (by omega)
 have hl : i < qs.length:=by have:=h.1; omega
 obtain ⟨cs,hs,hr,hcell⟩:=hc i _ (List.getElem?_eq_getElem hl)
 obtain ⟨B,c,rfl,hle,hC⟩:=hr
 have h1:=hcell 0 _ rfl
 have e1 : i * kq.sz + 0 = i:=by show i * 1 + 0 = i; omega
 rw [e1] at h1
 rw [List.getD_eq_getElem?_getD,List.getElem?_eq_getElem hl,Option.getD_some]
 exact ⟨ad,B,c,e,h1,hle,hC⟩
def badQ (lg : Int) (q : List Int) : Bool:=decide (0 < q.length /\ ¬ (logC q ≠ 0 /\ (logC q : Int) = lg))
set_option maxRecDepth 100000 in
set_option maxHeartbeats 400000 in
theorem c1i (lg : Int) (A : Option Addr) (c : Nat) (q : List Int) (w : World) (hr : (Kd.int .i64).C w A q.length q) :
    Calls Tryz.prog 165 #[.int .i64 lg,.slice A q.length c] w λ e w'=>e = .returned (.bool (badQ lg q)) /\ w = w':=by
 have HR:=Lib.hid hr
 clear hr
 by_cases h0 : 0 < q.length
 · have hb : decide (0 < (q.length : Int)) = true:=decide_eq_true (by omega)
   have hne : ¬ q = []:=by intro e; subst e; cases h0
   have hp : 0 < (q.length : Int):=by omega
   obtain ⟨b,hbb⟩ : ∃ b,b = decide (logC q ≠ 0 /\ (logC q : Int) = lg):=⟨_,rfl⟩
   have HZ : Hid (badQ lg q = !b):=by show _ = _; unfold badQ; rw [hbb]; by_cases h : (logC q ≠ 0 /\ (logC q : Int) = lg) <;> simp [h,h0] <;> omega
   rw [HZ.out]
   have HB:=Lib.hid hbb
   clear hbb HZ
   go_enter Tryz.func165,Tryz.ntmps165
   go_wp2_with fail
   refine (b9X _ _ _ _ _ HR.out).mono ?_
   rw [<- HB.out]
   rintro e w' ⟨rfl,rfl⟩
   go_wp2_with fail
   go_ret
   exact ⟨rfl,rfl⟩
 · have h1 : q = []:=List.eq_nil_of_length_eq_zero (by omega)
   subst h1
   go_enter Tryz.func165,Tryz.ntmps165
   go_wp2_with fail
   go_ret
   exact ⟨rfl,rfl⟩
set_option maxRecDepth 100000 in
set_option maxHeartbeats 400000 in
theorem c1j (lg : Int) (A : Option Addr) (c : Nat) (qs : List (List Int)) (w : World) (hr : kq.C w A qs.length qs) (hl : qs.length <= 1000000) :
    Calls Tryz.prog 212 #[.slice A qs.length c,.func (.func 165) #[.int .i64 lg] #[]] w λ e w'=>∃ i : Int,e = .returned (.int .i64 i) /\ (0 <= i ↔ qs.any (badQ lg) = true) /\ w = w':=by
 have HR:=Lib.hid hr
 clear hr
 go_enter Tryz.func212,Tryz.ntmps212
 go_wp2_with fail
 go_loop [8] (λ kv=>∃ (k : Nat),kv = .int .i64 k /\ k <= qs.length /\ Hid (∀ q ∈ qs.take k,badQ lg q = false)) (λ kv=>qs.length - (intOf kv).toNat)
 case atStart=>exact ⟨0,rfl,by omega,λ q hq=>by simp at hq⟩
 case round=>
  obtain ⟨k,rfl,hk,H⟩:=hrel
  by_cases hlt : k < qs.length
  · obtain ⟨ad,B,cb,rfl,hc,_,hC⟩:=kq_at HR.out k hlt
    have hkI : (k : Int) < (qs.length : Int):=by omega
    obtain ⟨q,hq⟩ : ∃ q,q = qs.getD k []:=⟨_,rfl⟩
    rw [<- hq] at hc hC
    have HQ:=Lib.hid (And.intro hq hC)
    clear hq hC
    go_wp2_with fail
    refine (c1i lg B cb q w HQ.out.2).mono ?_
    obtain ⟨b,hb⟩ : ∃ b,b = badQ lg q:=⟨_,rfl⟩
    rw [<- hb]
    rintro e w' ⟨rfl,rfl⟩
    have hq2 : qs[k] = q:=by rw [HQ.out.1,List.getD_eq_getElem?_getD,List.getElem?_eq_getElem hlt]; rfl
    have HB:=Lib.hid (And.intro hb hq2)
    clear hb hq2
    cases b with
    | true=>
     go_wp2_with fail
     go_ret
     exact ⟨k,rfl,⟨λ _=>List.any_eq_true.2 ⟨q,HB.out.2 ▸ List.getElem_mem hlt,HB.out.1.symm⟩,λ _=>by omega⟩,rfl⟩
    | false=>
     go_wp2_with fail
     go_round
     case rel=>
      refine ⟨k + 1,by go_num,by omega,λ x hx=>?_⟩
      rw [List.take_succ_eq_append_getElem hlt] at hx
      rcases List.mem_append.1 hx with h | h
      · exact H.out x h
      · rw [List.mem_singleton.1 h,HB.out.2]; exact HB.out.1.symm
     case measure=>simp [intOf]; omega
  · have hkn : k = qs.length:=by omega
    go_wp2_with fail
    go_ret
    refine ⟨-1,rfl,⟨λ h=>by omega,λ h=>?_⟩,rfl⟩
    obtain ⟨x,hx,hb⟩:=h
    have:=H.out x (by rw [hkn,List.take_length]; exact hx)
    rw [this] at hb; cases hb
set_option maxRecDepth 100000 in
set_option maxHeartbeats 400000 in
theorem a6L (lg : Int) (A : Option Addr) (c : Nat) (qs : List (List Int)) (w : World) (hr : kq.C w A qs.length qs) (hl : qs.length <= 1000000) :
    Calls Tryz.prog 164 #[.slice A qs.length c,.func (.func 165) #[.int .i64 lg] #[]] w λ e w'=>e = .returned (.bool (qs.any (badQ lg))) /\ w = w':=by
 have HR:=Lib.hid hr
 have HL:=Lib.hid hl
 clear hr hl
 obtain ⟨b,hb⟩ : ∃ b,b = qs.any (badQ lg):=⟨_,rfl⟩
 rw [<- hb]
 have HB:=Lib.hid hb
 clear hb
 go_enter Tryz.func164,Tryz.ntmps164
 go_wp2_with fail
 refine (c1j lg A c qs w HR.out HL.out).mono ?_
 rintro e w' ⟨i,rfl,hi,rfl⟩
 rw [<- HB.out] at hi
 cases b with
 | true=>
  have h0 : 0 <= i:=hi.2 rfl
  clear hi
  go_wp2_with fail
  go_ret
  exact ⟨rfl,rfl⟩
 | false=>
  have h0 : decide (0 <= i) = false:=decide_eq_false (λ h=>by have:=hi.1 h; cases this)
  clear hi
  go_wp2_with fail
  go_ret
  exact ⟨rfl,rfl⟩
def a0x (lg : Int) (one : Bool) (qs : List (List Int)) : Bool:=
 if lg < 1 \/ 12 < lg then false else if qs.any (badQ lg) then false else if one then decide (qs.length = 1 /\ 0 < (qs.getD 0 []).length) else decide (qs.length = 256)
set_option maxRecDepth 100000 in
set_option maxHeartbeats 400000 in
theorem b3j (lg : Int) (one : Bool) (A : Option Addr) (c : Nat) (qs : List (List Int)) (w : World) (hr : kq.C w A qs.length qs) (hl : qs.length <= 1000000) :
    Calls Tryz.prog 115 #[.agg #[.int .i64 lg,.bool one,.slice A qs.length c]] w (Ret (.bool (a0x lg one qs)) w):=by
 have HR:=Lib.hid (Kd.C_alloc hr (.cells #[.int .i64 lg,.bool one,.slice A qs.length c] 26))
 have HL:=Lib.hid hl
 have HB:=Lib.hid ((Below.refl w.heap.size w).alloc (Nat.le_refl _) (.cells #[.int .i64 lg,.bool one,.slice A qs.length c] 26))
 clear hr hl
 by_cases h1 : lg < 1 \/ 12 < lg
 · have HZ : Hid (a0x lg one qs = false):=by show _ = _; unfold a0x; rw [if_pos h1]
   rw [HZ.out]
   by_cases h2 : lg < 1
   · have hd : decide (lg < 1) = true:=decide_eq_true h2
     clear h1 h2
     go_enter Tryz.func115,Tryz.ntmps115
     go_wp2_with fail
     go_ret
     exact ⟨rfl,HB.out⟩
   · have hd : decide (lg < 1) = false:=decide_eq_false h2
     have hd2 : decide (12 < lg) = true:=decide_eq_true (by omega)
     clear h1 h2
     go_enter Tryz.func115,Tryz.ntmps115
     go_wp2_with fail
     go_ret
     exact ⟨rfl,HB.out⟩
 · have hd : decide (lg < 1) = false:=decide_eq_false (by omega)
   have hd2 : decide (12 < lg) = false:=decide_eq_false (by omega)
   obtain ⟨b,hb⟩ : ∃ b,b = qs.any (badQ lg):=⟨_,rfl⟩
   have HZ : Hid (a0x lg one qs = if b then false else if one then decide (qs.length = 1 /\ 0 < (qs.getD 0 []).length) else decide (qs.length = 256)):=by
    show _ = _
    unfold a0x; rw [if_neg h1,hb]
   have HBB:=Lib.hid hb
   clear hb h1
   cases b with
   | true=>
    have HZ2 : Hid (a0x lg one qs = false):=HZ.out
    rw [HZ2.out]
    go_enter Tryz.func115,Tryz.ntmps115
    go_wp2_with fail
    refine (a6L lg A c qs _ HR.out HL.out).mono ?_
    rw [<- HBB.out]
    rintro e w' ⟨rfl,rfl⟩
    go_wp2_with fail
    go_ret
    exact ⟨rfl,HB.out⟩
   | false=>
    cases one with
    | false=>
     have HZ2 : Hid (a0x lg false qs = decide (qs.length = 256)):=HZ.out
     rw [HZ2.out]
     go_enter Tryz.func115,Tryz.ntmps115
     go_wp2_with fail
     refine (a6L lg A c qs _ HR.out HL.out).mono ?_
     rw [<- HBB.out]
     rintro e w' ⟨rfl,rfl⟩
     go_wp2_with fail
     go_ret
     refine ⟨?_,HB.out⟩
     have : ((qs.length : Int) == 256) = decide (qs.length = 256):=by
      by_cases h : qs.length = 256
      · simp [h]
      · simp [h]; omega
     simp [this]
    | true=>
     have HZ2 : Hid (a0x lg true qs = decide (qs.length = 1 /\ 0 < (qs.getD 0 []).length)):=HZ.out
     by_cases hq : qs.length = 1
     · obtain ⟨ad,B,cb,rfl,hc,_,hC⟩:=kq_at HR.out 0 (by omega)
       have hI : ((qs.length : Int) == 1) = true:=by simp; omega
       have hlt : (0 : Int) < (qs.length : Int):=by omega
       obtain ⟨q,hqq⟩ : ∃ q,q = qs.getD 0 []:=⟨_,rfl⟩
       rw [<- hqq] at hc hC
       rw [Addr.add_zero'] at hc
       have HQ:=Lib.hid hqq
       have HC:=Lib.hid hC
       have HE : Hid (a0x lg true qs = decide (0 < q.length)):=by
        show _ = _
        rw [HZ2.out,<- HQ.out]
        by_cases h : 0 < q.length
        · rw [decide_eq_true h,decide_eq_true ⟨hq,h⟩]
        · rw [decide_eq_false h,decide_eq_false (λ x=>h x.2)]
       rw [HE.out]
       clear hqq hC hq
       go_enter Tryz.func115,Tryz.ntmps115
       go_wp2_with fail
       refine (a6L lg (some ad) c qs _ HR.out HL.out).mono ?_
       rw [<- HBB.out]
       rintro e w' ⟨rfl,rfl⟩
       go_wp2_with fail
       go_ret
       exact ⟨rfl,HB.out⟩
     · have hI : ((qs.length : Int) == 1) = false:=by simp; omega
       have HE : Hid (a0x lg true qs = false):=by show _ = _; rw [HZ2.out]; exact decide_eq_false (λ x=>hq x.1)
       rw [HE.out]
       clear hq
       go_enter Tryz.func115,Tryz.ntmps115
       go_wp2_with fail
       refine (a6L lg A c qs _ HR.out HL.out).mono ?_
       rw [<- HBB.out]
       rintro e w' ⟨rfl,rfl⟩
       go_wp2_with fail
       go_ret
       exact ⟨rfl,HB.out⟩
def Bytes (b : List Int) : Prop:=∀ x ∈ b,0 <= x /\ x < 256
theorem Bytes.get {b : List Int} (h : Bytes b) (i : Nat) : 0 <= b.getD i 0 /\ b.getD i 0 < 256:=by
 rw [List.getD_eq_getElem?_getD]
 by_cases hi : i < b.length
 · rw [List.getElem?_eq_getElem hi]; exact h _ (List.getElem_mem hi)
 · rw [List.getElem?_eq_none (by omega)]; decide
def listI (one : Bool) (c : Int) : Nat:=if one then 0 else c.toNat
theorem a4f {b : List Int} (h : Bytes b) (i : Nat) (hi : i < b.length) : 0 <= ctxI b i /\ ctxI b i < 256:=by
 unfold ctxI
 rw [if_neg (by omega)]
 split
 · decide
 · exact h.get _
def fitAt (one : Bool) (qs : List (List Int)) (b : List Int) (i : Nat) : Bool:=
 decide ((qs.getD (listI one (ctxI b i)) []).length ≠ 0 /\ (qs.getD (listI one (ctxI b i)) []).getD (b.getD i 0).toNat 0 ≠ 0)
def fitsM (lg : Int) (one : Bool) (qs : List (List Int)) (b : List Int) : Bool:=a0x lg one qs && (List.range b.length).all (fitAt one qs b)
theorem a1W {lg : Int} {one : Bool} {qs : List (List Int)} (h : a0x lg one qs = true) : 1 <= lg /\ lg <= 12 /\ qs.length = (if one then 1 else 256) /\ ∀ q ∈ qs,q.length ≠ 0 -> logC q ≠ 0 /\ (logC q : Int) = lg:=by
 unfold a0x at h
 split at h
 · cases h
 · rename_i h1
   split at h
   · cases h
   · rename_i h2
     refine ⟨by omega,by omega,?_,λ q hq hne=>?_⟩
     · cases one with
       | true=>simp at h; simp [h]
       | false=>simp at h; simp [h]
     · have h3 : ¬ (badQ lg q = true):=λ hb=>h2 (List.any_eq_true.2 ⟨q,hq,hb⟩)
       unfold badQ at h3
       simp only [decide_eq_true_eq] at h3
       by_cases h4 : logC q ≠ 0 /\ (logC q : Int) = lg
       · exact h4
       · exact absurd ⟨by omega,h4⟩ h3
theorem a6M {lg : Int} {one : Bool} {qs : List (List Int)} (h : a0x lg one qs = true) (k : Nat) (hn : (qs.getD k []).length ≠ 0) : logC (qs.getD k []) ≠ 0 /\ (logC (qs.getD k []) : Int) = lg:=by
 have hk : k < qs.length:=by
  by_cases e : k < qs.length
  · exact e
  · exfalso; apply hn; rw [List.getD_eq_getElem?_getD,List.getElem?_eq_none (by omega)]; rfl
 have hm : qs.getD k [] ∈ qs:=by rw [List.getD_eq_getElem?_getD,List.getElem?_eq_getElem hk]; exact List.getElem_mem hk
 exact (a1W h).2.2.2 _ hm hn
theorem a8N {lg : Int} {one : Bool} {qs : List (List Int)} (h : a0x lg one qs = true) {c : Int} (hc : 0 <= c /\ c < 256) : listI one c < qs.length:=by
 have:=(a1W h).2.2.1
 unfold listI
 cases one with
 | true=>simp at this ⊢; omega
 | false=>simp at this ⊢; omega
set_option maxRecDepth 100000 in
set_option maxHeartbeats 1000000 in
theorem c1k (lg : Int) (one : Bool) (A : Option Addr) (c : Nat) (qs : List (List Int)) (B : Option Addr) (cb : Nat) (b : List Int) (w : World) (hr : kq.C w A qs.length qs) (hl : qs.length <= 1000000) (hb : (Kd.int .u8).C w B b.length b) (hby : Bytes b) (hbl : b.length <= 1000000) :
    Calls Tryz.prog 198 #[.agg #[.int .i64 lg,.bool one,.slice A qs.length c],.slice B b.length cb] w (Ret (.bool (fitsM lg one qs b)) w):=by
 have HR:=Lib.hid hr
 have HBR:=Lib.hid hb
 have HL:=Lib.hid hl
 have HX:=Lib.hid (And.intro hby hbl)
 obtain ⟨W1,hW1⟩ : ∃ W1,W1 = w.alloc (.cells #[.int .i64 lg,.bool one,.slice A qs.length c] 26):=⟨_,rfl⟩
 have hbl1 : W1.heap[w.heap.size]? = some (.cells #[.int .i64 lg,.bool one,.slice A qs.length c] 26 (0,0)):=by rw [hW1]; exact a0k _ _
 have HB1 : Hid (Below w.heap.size w W1):=by show Below _ _ _; rw [hW1]; exact (Below.refl w.heap.size w).alloc (Nat.le_refl _) _
 clear hr hl hb hby hbl
 go_enter Tryz.func198,Tryz.ntmps198
 go_wp2_with fail
 rw [<- hW1]
 have HK:=Lib.hid hbl1
 clear hW1 hbl1
 refine (b3j lg one A c qs W1 (Kd.C_below HR.out HB1.out) HL.out).mono ?_
 rintro e w2 ⟨rfl,hb2⟩
 have hk2:=a0i HK.out hb2
 have hm1 : w2.cell? ⟨w.heap.size,1,none⟩ = some (.bool one):=(a0a hk2 1).trans rfl
 have hm2 : w2.cell? ⟨w.heap.size,2,none⟩ = some (.slice A qs.length c):=(a0a hk2 2).trans rfl
 have HB2 : Hid (Below w.heap.size w w2):=HB1.out.trans (hb2.mono HB1.out.size)
 clear hk2 hb2
 obtain ⟨rt,hrt⟩ : ∃ rt,rt = a0x lg one qs:=⟨_,rfl⟩
 rw [<- hrt]
 have HZ:=Lib.hid hrt
 clear hrt
 cases rt with
 | false=>
  have HE : Hid (fitsM lg one qs b = false):=by show _ = _; unfold fitsM; rw [<- HZ.out]; rfl
  go_wp2_with fail
  go_ret
  exact ⟨a0S HE.out.symm,HB2.out⟩
 | true=>
  have HRT : Hid (a0x lg one qs = true):=HZ.out.symm
  have HZ2 : Hid (fitsM lg one qs b = (List.range b.length).all (fitAt one qs b)):=by show _ = _; unfold fitsM; rw [HRT.out]; rfl
  clear HZ
  go_wp2_with fail
  go_loop [14] (λ kv=>∃ (k : Nat),kv = .int .i64 k /\ k <= b.length /\ Hid ((List.range k).all (fitAt one qs b) = true)) (λ kv=>b.length - (intOf kv).toNat)
  case atStart=>exact ⟨0,rfl,by omega,rfl⟩
  case round=>
   obtain ⟨k,rfl,hk,H⟩:=hrel
   by_cases hlt : k < b.length
   · have hC2:=Kd.C_below HBR.out HB2.out
     obtain ⟨ad,rfl,hc⟩:=a0v hC2 k hlt
     have hx:=HX.out.1.get k
     obtain ⟨x,hxe⟩ : ∃ x : Nat,b.getD k 0 = x:=⟨(b.getD k 0).toNat,by omega⟩
     rw [hxe] at hc hx
     have HC2:=Lib.hid hC2
     have HXE:=Lib.hid hxe
     have hx256 : x < 256:=by omega
     have hk6 : k < 1000000:=by have:=HX.out.2; omega
     clear hC2 hxe hx
     go_wp2_with fail
     refine (a6K (some ad) cb b k w2 HC2.out hlt HX.out.2 HX.out.1).mono ?_
     rintro e w' ⟨rfl,rfl⟩
     have hcr:=a4f HX.out.1 k hlt
     obtain ⟨cx,hcx⟩ : ∃ cx : Nat,ctxI b k = cx:=⟨(ctxI b k).toNat,by omega⟩
     have hll:=a8N HRT.out hcr
     rw [hcx] at hcr hll ⊢
     have HCX:=Lib.hid hcx
     obtain ⟨j,hj⟩ : ∃ j,listI one (cx : Int) = j:=⟨_,rfl⟩
     rw [hj] at hll
     obtain ⟨ad2,B2,c2,rfl,hq1,_,hq2⟩:=kq_at (Kd.C_below HR.out HB2.out) j hll
     obtain ⟨q,hq⟩ : ∃ q,q = qs.getD j []:=⟨_,rfl⟩
     rw [<- hq] at hq1 hq2
     have HJ:=Lib.hid (And.intro hj (And.intro hq hq2))
     have hjI : (j : Int) < (qs.length : Int):=by omega
     have HF : Hid (fitAt one qs b k = decide (q.length ≠ 0 /\ q.getD x 0 ≠ 0)):=by
      show _ = _
      unfold fitAt; rw [HCX.out,hj,<- hq,HXE.out]; simp only [Int.toNat_natCast]
     have hcx256 : cx < 256:=by omega
     clear hcx hj hq hq2 hcr hll
     by_cases h0 : q.length = 0
     · have h0b : ((q.length : Int) == 0) = true:=by rw [h0]; rfl
       have HE : Hid (fitsM lg one qs b = false):=by
        show _ = _
        rw [HZ2.out]
        refine List.all_eq_false.2 ⟨k,List.mem_range.2 hlt,?_⟩
        rw [HF.out]; simp; intro h; exact absurd h0 (by simpa using h)
       cases one with
       | true=>
        obtain rfl : j = 0:=by have:=HJ.out.1; simp [listI] at this; omega
        rw [Addr.add_zero'] at hq1
        clear h0
        go_wp2_with fail
        go_ret
        exact ⟨a0S HE.out.symm,HB2.out⟩
       | false=>
        obtain rfl : j = cx:=by have:=HJ.out.1; simp [listI] at this; omega
        clear h0
        go_wp2_with fail
        go_ret
        exact ⟨a0S HE.out.symm,HB2.out⟩
     · have h0b : ((q.length : Int) == 0) = false:=by simp; intro e; exact h0 (by rw [e]; rfl)
       have hg : q.length = 256:=by
        have:=a6M HRT.out j (by rw [<- HJ.out.2.1]; exact h0)
        rw [<- HJ.out.2.1] at this
        exact (a1B this.1).len
       obtain ⟨ad3,rfl,hqc⟩:=a0v HJ.out.2.2 x (by omega)
       have hxl : (x : Int) < (q.length : Int):=by omega
       obtain ⟨y,hy⟩ : ∃ y,y = q.getD x 0:=⟨_,rfl⟩
       rw [<- hy] at hqc
       by_cases hy0 : y = 0
       · have hyb : (y == 0) = true:=by rw [hy0]; rfl
         have HE : Hid (fitsM lg one qs b = false):=by
          show _ = _
          rw [HZ2.out]
          refine List.all_eq_false.2 ⟨k,List.mem_range.2 hlt,?_⟩
          rw [HF.out,<- hy,hy0]; simp
         clear h0 hg hy hy0
         cases one with
         | true=>
          obtain rfl : j = 0:=by have:=HJ.out.1; simp [listI] at this; omega
          rw [Addr.add_zero'] at hq1
          go_wp2_with fail
          go_ret
          exact ⟨a0S HE.out.symm,HB2.out⟩
         | false=>
          obtain rfl : j = cx:=by have:=HJ.out.1; simp [listI] at this; omega
          go_wp2_with fail
          go_ret
          exact ⟨a0S HE.out.symm,HB2.out⟩
       · have hyb : (y == 0) = false:=by simp [hy0]
         have HE : Hid ((List.range (k + 1)).all (fitAt one qs b) = true):=by
          show _ = _
          rw [List.range_succ,List.all_append,H.out,List.all_cons,HF.out,<- hy]; simp [hy0]
          intro e; exact h0 (by rw [e]; rfl)
         clear h0 hg hy hy0
         cases one with
         | true=>
          obtain rfl : j = 0:=by have:=HJ.out.1; simp [listI] at this; omega
          rw [Addr.add_zero'] at hq1
          go_wp2_with fail
          go_round
          case rel=>exact ⟨k + 1,by go_num,by omega,HE.out⟩
          case measure=>simp [intOf]; omega
         | false=>
          obtain rfl : j = cx:=by have:=HJ.out.1; simp [listI] at this; omega
          go_wp2_with fail
          go_round
          case rel=>exact ⟨k + 1,by go_num,by omega,HE.out⟩
          case measure=>simp [intOf]; omega
   · have hkn : k = b.length:=by omega
     subst hkn
     go_wp2_with fail
     go_ret
     exact ⟨a0S (by rw [HZ2.out]; exact H.out.symm),HB2.out⟩
structure EncInv (lg : Int) (one : Bool) (A : Option Addr) (c : Nat) (qs : List (List Int)) (tb me md n : Nat) (f : Int -> Option Value) (Out : Nat -> Prop) (w0 w : World) : Prop where
 blk : w.heap[tb]? = some (.cells #[.int .i64 lg,.bool one,.slice A qs.length c,.map (some me),.map (some md)] 213 (0,0))
 mp : MapB Tryz.prog 3 .i64 w.heap[me]? n f
 mlt : me < w.heap.size
 below : Below w0.heap.size w0 w
 mge : w0.heap.size <= me
 oge : ∀ b,Out b -> w0.heap.size <= b /\ b < w.heap.size
 ent : ∀ i : Int,0 <= i -> ∀ v,f i = some v -> ∃ t lo hi,v = .pointer (some ⟨t,0,none⟩) /\ EtabAt lo hi w t (qs.getD i.toNat []) /\ hi <= w.heap.size /\ (∀ b,lo <= b -> b < hi -> ¬ Out b /\ b ≠ me)
 ne : ¬ Out tb /\ ¬ Out me /\ tb ≠ me
theorem a6N {i : Nat} (h : i <= 1000000) : (Lit.int .i64 (i : Int)).wf = true:=by
 have a : IntKind.i64.min = -9223372036854775808:=rfl
 have b : IntKind.i64.max = 9223372036854775807:=rfl
 simp only [Lit.wf,a,b,Bool.and_eq_true,decide_eq_true_eq]; omega
theorem b3k (w : World) : (zeroValue 223).run Tryz.prog w = .ok (.pointer none) w:=by kernel_rfl
set_option maxRecDepth 100000 in
set_option maxHeartbeats 400000 in
theorem b3l (lg : Int) (one : Bool) (V M D : Value) (tb ci : Nat) (w : World) (hb : w.heap[tb]? = some (.cells #[.int .i64 lg,.bool one,V,M,D] 213 (0,0))) :
    Calls Tryz.prog 170 #[.pointer (some ⟨tb,0,none⟩),.int .i64 ci] w λ e w'=>e = .returned (.int .i64 (listI one ci)) /\ w = w':=by
 have hc : w.cell? ⟨tb,1,none⟩ = some (.bool one):=(a0a hb 1).trans rfl
 clear hb
 cases one with
 | true=>
  go_enter Tryz.func170,Tryz.ntmps170
  go_wp2_with fail
  go_ret
  exact ⟨rfl,rfl⟩
 | false=>
  go_enter Tryz.func170,Tryz.ntmps170
  go_wp2_with fail
  go_ret
  exact ⟨rfl,rfl⟩
def b3m (lg : Int) (one : Bool) (A : Option Addr) (c : Nat) (qs : List (List Int)) (tb me md n : Nat) (Out : Nat -> Prop) (j : Nat) (w0 w : World) (e : Ending) (w' : World) : Prop:=
 ∃ f' t lo hi,e = .returned (.pointer (some ⟨t,0,none⟩)) /\ EncInv lg one A c qs tb me md (n + 1) f' Out w0 w' /\ EtabAt lo hi w' t (qs.getD j []) /\ Only (λ b=>b = me) w w'
theorem c1l {lg : Int} {one : Bool} {A : Option Addr} {c : Nat} {qs : List (List Int)} {tb me md n j : Nat} {f : Int -> Option Value} {Out : Nat -> Prop} {w0 w w1 : World} {q : List Int} {e : Ending} (h : EncInv lg one A c qs tb me md n f Out w0 w) (hq : logC (qs.getD j []) ≠ 0) (hqq : q = qs.getD j []) (hwf : (Lit.int .i64 (j : Int)).wf = true) (hn : n < maxLen)
    (hp : a8J q w.drew e w1) : ∃ t lo hi,e = .returned (.tuple #[.pointer (some ⟨t,0,none⟩),.int .i64 0]) /\ ∃ w2,(Instr.mapUpdate 210 (.map (some me)) (.int .i64 (j : Int)) (.pointer (some ⟨t,0,none⟩))).run Tryz.prog w1 = .ok () w2 /\
     Hid (EncInv lg one A c qs tb me md (n + 1) (upd f (j : Int) (.pointer (some ⟨t,0,none⟩))) Out w0 w2 /\ EtabAt lo hi w2 t (qs.getD j []) /\ Below w.heap.size w w1 /\ w1.grownBy w2 (some me)):=by
 subst hqq
 obtain ⟨_,h2,hb⟩:=hp
 obtain ⟨t,rfl,hE⟩:=h2 hq
 have hb' : Below w.heap.size w w1:=⟨hb.os,hb.tape,hb.output,hb.size,hb.block⟩
 have hE' : EtabAt w.heap.size w1.heap.size w1 t (qs.getD j []):=hE
 have hm1 : MapB Tryz.prog 3 .i64 w1.heap[me]? n f:=by rw [hb'.block me h.mlt]; exact h.mp
 obtain ⟨w2,hrun,hm2,hg2,hs2⟩:=a5q (t:=210) Tryz.underlying3 Tryz.underlying210 hwf hm1 hn (.pointer (some ⟨t,0,none⟩))
 have hlt:=h.mlt
 have agr : ∀ lo hi u q',EtabAt lo hi w1 u q' -> hi <= w1.heap.size -> (∀ b,lo <= b -> b < hi -> b ≠ me) -> EtabAt lo hi w2 u q':=λ lo hi u q' hu hh hne=>hu.agree (λ k k1 k2=>hg2.block k (by omega) (λ e=>by injection e with e; exact hne k k1 k2 e))
 have hnew : EtabAt w.heap.size w1.heap.size w2 t (qs.getD j []):=agr _ _ _ _ hE' (Nat.le_refl _) (λ b b1 _ e=>by omega)
 have hsz : w.heap.size <= w2.heap.size:=by have:=hb'.size; omega
 refine ⟨t,w.heap.size,w1.heap.size,rfl,w2,hrun,⟨?_,hm2,by omega,?_,h.mge,λ b hb=>⟨(h.oge b hb).1,by have:=(h.oge b hb).2; omega⟩,?_,h.ne⟩,hnew,hb',hg2⟩
 · exact a1e (a0i h.blk hb') hg2 (λ e=>by injection e with e; exact h.ne.2.2 e)
 · exact (h.below.trans (hb'.mono h.below.size)).grown hg2 (Nat.le_trans h.below.size hb'.size) (λ k hk=>by injection hk with hk; subst hk; exact h.mge)
 · intro i hi v hv
   by_cases e : i = (j : Int)
   · subst e
     rw [a3C] at hv
     cases hv
     exact ⟨t,w.heap.size,w1.heap.size,rfl,by simpa using hnew,by omega,λ b b1 _=>⟨λ ho=>by have:=(h.oge b ho).2; omega,by omega⟩⟩
   · rw [a3D _ _ e] at hv
     obtain ⟨u,lo,hi2,rfl,hu,hh,hd⟩:=h.ent i hi v hv
     have hu1 : EtabAt lo hi2 w1 u (qs.getD i.toNat []):=hu.agree (λ k _ k2=>hb'.block k (by omega))
     exact ⟨u,lo,hi2,rfl,agr _ _ _ _ hu1 (by have:=hb'.size; omega) (λ b b1 b2=>(hd b b1 b2).2),by omega,hd⟩
theorem c1m {lg : Int} {one : Bool} {A : Option Addr} {c : Nat} {qs : List (List Int)} {tb me md n j : Nat} {f : Int -> Option Value} {Out : Nat -> Prop} {w0 w w1 w2 : World} {ad : Addr} {u1 u2 u3 : Value} (h : EncInv lg one A c qs tb me md n f Out w0 w) (hlt : ad.block < w0.heap.size)
    (hb : Below w.heap.size w w1 /\ w1.grownBy w2 (some me)) (h1 : w.cell? ⟨tb,2,none⟩ = some u1) (h2 : w.cell? ⟨tb,3,none⟩ = some u2) (h3 : w.cell? (ad.add j) = some u3) :
    w1.cell? ⟨tb,2,none⟩ = some u1 /\ w1.cell? ⟨tb,3,none⟩ = some u2 /\ w1.cell? (ad.add j) = some u3 /\ w2.cell? ⟨tb,2,none⟩ = some u1 /\ w2.cell? ⟨tb,3,none⟩ = some u2 /\ w2.cell? (ad.add j) = some u3:=by
 have ht : tb < w.heap.size:=a0f h.blk
 have hab : (ad.add j).block = ad.block:=by simp only [Addr.add]; split <;> rfl
 have e1 : ∀ k,k < w.heap.size -> k ≠ me -> w2.heap[k]? = w.heap[k]?:=λ k hk hne=>(hb.2.block k (Nat.lt_of_lt_of_le hk hb.1.size) (λ e=>by injection e with e; exact hne e)).trans (hb.1.block k hk)
 have e2 : ∀ (a : Addr) u,a.block < w.heap.size -> w.cell? a = some u -> w1.cell? a = some u:=λ a u ha hu=>(World.cell?_of_block (hb.1.block a.block ha)).trans hu
 have e3 : ∀ (a : Addr) u,a.block < w.heap.size -> a.block ≠ me -> w.cell? a = some u -> w2.cell? a = some u:=λ a u ha hne hu=>(World.cell?_of_block (e1 a.block ha hne)).trans hu
 have hw:=h.below.size
 have hm:=h.mge
 exact ⟨e2 _ _ ht h1,e2 _ _ ht h2,e2 _ _ (by rw [hab]; omega) h3,e3 _ _ ht h.ne.2.2 h1,e3 _ _ ht h.ne.2.2 h2,e3 _ _ (by rw [hab]; omega) (by rw [hab]; omega) h3⟩
set_option maxRecDepth 100000 in
set_option maxHeartbeats 1000000 in
theorem c1n (lg : Int) (one : Bool) (A : Option Addr) (c : Nat) (qs : List (List Int)) (tb me md n ci : Nat) (f : Int -> Option Value) (Out : Nat -> Prop) (w0 w : World) (hrd : kq.C w0 A qs.length qs) (h : EncInv lg one A c qs tb me md n f Out w0 w) (hn : n <= 1000000) (hci : ci <= 1000000) (hj : listI one ci < qs.length) (hq : logC (qs.getD (listI one ci) []) ≠ 0) :
    Calls Tryz.prog 149 #[.pointer (some ⟨tb,0,none⟩),.int .i64 ci] w (b3m lg one A c qs tb me md n Out (listI one ci) w0 w):=by
 have hjl : listI one ci <= 1000000:=by unfold listI; split <;> simp <;> omega
 obtain ⟨j,hje⟩ : ∃ j,j = listI one (ci : Int):=⟨_,rfl⟩
 have hlist:=b3l lg one (.slice A qs.length c) (.map (some me)) (.map (some md)) tb ci w h.blk
 rw [<- hje] at hj hq hjl hlist ⊢
 have hc3 : w.cell? ⟨tb,3,none⟩ = some (.map (some me)):=(a0a h.blk 3).trans rfl
 have hlk:=a5p (t:=210) (e:=223) (z:=.pointer none) (b:=me) (w:=w) Tryz.underlying3 Tryz.underlying210 (a6N hjl) (b3k w) h.mp
 have HH:=Lib.hid h
 have HL:=Lib.hid hlist
 have HQ:=Lib.hid (And.intro hq hj)
 have HN:=Lib.hid hn
 have HRD:=Lib.hid hrd
 clear hrd h hlist hq hn hje
 cases hf : f j with
 | some v=>
  obtain ⟨t,lo,hi,rfl,hE,hhi,_⟩:=HH.out.ent j (by omega) v hf
  rw [hf] at hlk
  have HE:=Lib.hid (And.intro hE hhi)
  clear hf hE hhi
  go_enter Tryz.func149,Tryz.ntmps149
  go_wp2_with fail
  refine HL.out.mono ?_
  rintro e w' ⟨rfl,rfl⟩
  go_wp2_with fail
  go_ret
  refine ⟨f,t,lo,hi,rfl,{ HH.out with mp:=b2V HH.out.mp (Nat.le_succ _) },?_,Only.refl _ _⟩
  exact HE.out.1
 | none=>
  rw [hf] at hlk
  have hc2 : w.cell? ⟨tb,2,none⟩ = some (.slice A qs.length c):=(a0a HH.out.blk 2).trans rfl
  obtain ⟨ad,B,c2,rfl,hqc,_,hqC⟩:=kq_at (Kd.C_below HRD.out HH.out.below) j HQ.out.2
  obtain ⟨q,hqq⟩ : ∃ q,q = qs.getD j []:=⟨_,rfl⟩
  rw [<- hqq] at hqc hqC
  have HQC:=Lib.hid (And.intro hqq hqC)
  have hqlt : ad.block < w0.heap.size:=by
   have h1:=Kd.C_lt HRD.out (by have:=HQ.out.2; omega) (by decide)
   exact h1
  have hjI : (j : Int) < (qs.length : Int):=by have:=HQ.out.2; omega
  have HLT:=Lib.hid hqlt
  have HWF:=Lib.hid (a6N hjl)
  have HNM : Hid (n < maxLen):=by show _ < _; have:=HN.out; unfold maxLen; omega
  clear hqq hqC hqlt hf
  go_enter Tryz.func149,Tryz.ntmps149
  go_wp2_with fail
  refine HL.out.mono ?_
  rintro e w' ⟨rfl,rfl⟩
  go_wp2_with fail
  go_region_held3 (λ w'=>w'.cell? ⟨tb,2,none⟩ = some (.slice (some ad) qs.length c) /\ w'.cell? ⟨tb,3,none⟩ = some (.map (some me)) /\ w'.cell? (ad.add j) = some (.slice B q.length c2)) ((repeat' apply And.intro) <;> first | assumption)
   (first | (go_at_call 201; refine (c0s B c2 q _ (Kd.C_drew HQC.out.2)).mono ?_; rintro e w1 hp; obtain ⟨t,lo,hi,rfl,w2,hrun,HP⟩:=c1l HH.out HQ.out.1 HQC.out.1 HWF.out HNM.out hp; obtain ⟨a1,a2,a3,b1,b2,b3⟩:=c1m HH.out HLT.out HP.out.2.2 hc2 hc3 hqc))
  all_goals
   have hlk2:=a5p (t:=210) (e:=223) (z:=.pointer none) (b:=me) (w:=w2) Tryz.underlying3 Tryz.underlying210 HWF.out (b3k w2) HP.out.1.mp
   rw [a3C] at hlk2
   go_wp2_with fail
   go_ret
   refine ⟨_,t,lo,hi,rfl,HP.out.1,HP.out.2.1,?_⟩
   exact (Only.of_below HP.out.2.2.1).trans2 (Only.of_grown (S:=λ b=>b = me) HP.out.2.2.2 (λ k hk=>by injection hk with hk; exact hk.symm)) (λ _ _ h=>h)
def cellsOf (q : List Int) : List K3:=if logC q = 0 then [] else a2M q
theorem zeroCells (w : World) : (zeroValue 165).run Tryz.prog w = .ok nilS w:=by kernel_rfl
def b3o (xs : List Int) (w : World) (e : Ending) (w' : World) : Prop:=∃ v,e = .returned v /\ (Kd.int .u8).R 5 w' w.heap.size (λ _=>True) v xs /\ Below w.heap.size w w'
set_option maxRecDepth 100000 in
set_option maxHeartbeats 400000 in
theorem a6O (A : Option Addr) (c : Nat) (xs : List Int) (w : World) (hr : (Kd.int .u8).C w A xs.length xs) (hl : xs.length <= 1000000) (hc : xs.length <= c) (hnil : A = none -> c = 0) :
    Calls Tryz.prog 106 #[.slice A xs.length c] w (b3o xs w):=by
 cases A with
 | none=>
  have hc0:=hnil rfl
  have h0 : xs = []:=List.eq_nil_of_length_eq_zero (by omega)
  subst h0
  subst hc0
  have hq:=Lib.run_eql_slice_nil (P:=Tryz.prog) w 22 5 none 0 0 0 0 Tryz.underlying22
  go_enter Tryz.func106,Tryz.ntmps106
  go_wp2_with fail
  go_ret
  exact ⟨_,rfl,Kd.R_nil _ _ _ _ _,Below.refl _ _⟩
 | some ad=>
  have HR:=Lib.hid (Kd.C_alloc hr (.cells #[] 5))
  have HE:=Lib.hid (a6H .u8 5 w w.heap.size (λ _=>True) (Nat.le_refl _) trivial)
  have HL : Hid ((([] : List Int).length + xs.length) * 1 <= 140737488355328):=by show _ <= _; simp; omega
  have hq:=Lib.run_eql_slice_nil (P:=Tryz.prog) w 22 5 (some ad) xs.length c 0 0 Tryz.underlying22
  clear hr
  go_enter Tryz.func106,Tryz.ntmps106
  go_wp2_with (at_builtin; refine Kd.R_append_rows (Kd.int .u8) (Rr:=(Kd.int .u8).K (w.alloc (.cells #[] 5))) (w0:=w) (W:=w.alloc (.cells #[] 5)) w.heap.size rfl (.tmp 5) (.tmp 6) 22 5 (.int .u8 0) 1 rfl Tryz.underlying22 a0w rfl (by decide) (by decide) (.slice (some ⟨w.heap.size,0,none⟩) 0 0) [] xs (some ad) xs.length c (λ _=>True) (λ _=>False) rfl rfl HE.out HR.out (λ _ _ h=>h) (λ _ h=>h.elim) (λ _ _=>trivial) ((Below.refl _ _).alloc (Nat.le_refl _) _) (by simp) HL.out ?_; intro vi w2 hr2 hb2 hg2 hat2; have HR2:=Lib.hid hr2; have HB2:=Lib.hid hb2; clear hr2 hb2 hg2 hat2)
  go_ret
  rw [List.nil_append] at HR2
  exact ⟨_,rfl,HR2.out,HB2.out⟩
theorem b3p {κ : IntKind} {e base n c : Nat} {ok : Nat -> Prop} {w : World} {xs : List Int} (h : (Kd.int κ).R e w base ok (.slice none n c) xs) : c = 0:=by
 obtain ⟨_,inner,ho,_⟩:=h
 rcases ho.2 with ⟨hv,_⟩ | ⟨g,cap,cur,hv,_⟩
 · injection hv
 · cases hv
theorem c1s (base p : Nat) (v0 : Value) (bs : List Bool) (w : World) (h : WrVal w base p v0 bs) (hB : base <= w.heap.size) (hl : bs.length <= 1000000) :
    Calls Tryz.prog 202 #[.pointer (some ⟨p,0,none⟩),.int .u32 1] w (a6I base p v0 bs true w):=b3g base p v0 bs 1 w h hB hl (by decide)
def c1t (bs : List Bool) (w : World) (e : Ending) (w' : World) : Prop:=∃ v,e = .returned v /\ (Kd.int .u8).R 5 w' w.heap.size (λ _=>True) v (packB (bs ++ [true])) /\ Below w.heap.size w w'
set_option maxRecDepth 100000 in
set_option maxHeartbeats 400000 in
theorem c1u (base p : Nat) (v0 : Value) (bs : List Bool) (w : World) (h : WrVal w base p v0 bs) (hl : bs.length <= 900000) :
    Calls Tryz.prog 150 #[.pointer (some ⟨p,0,none⟩)] w (c1t bs w):=by
 have hc0 : w.cell? ⟨p,0,none⟩ = some v0:=(a0a h.blk 0).trans rfl
 have hc1 : w.cell? ⟨p,1,none⟩ = some (.int .i64 bs.length):=(a0a h.blk 1).trans rfl
 obtain ⟨A,c,rfl⟩:=Kd.R_slice h.row
 have HR:=Lib.hid (Kd.R_reads' h.row)
 have HNil : Hid (A = none -> c = 0):=λ e=>by subst e; exact b3p h.row
 have HL : Hid ((packB bs).length <= 1000000):=by show _ <= _; rw [a0z]; omega
 obtain ⟨n,hn⟩ : ∃ n,n = bs.length:=⟨_,rfl⟩
 rw [<- hn] at hc1
 have HN:=Lib.hid (And.intro hn hl)
 clear h hn hl
 go_enter Tryz.func150,Tryz.ntmps150
 go_wp2_with fail
 go_region_held3 (λ w'=>Below w.heap.size w w' /\ w'.cell? ⟨p,0,none⟩ = some (.slice A (packB bs).length c) /\ w'.cell? ⟨p,1,none⟩ = some (.int .i64 n)) ((repeat' apply And.intro) <;> first | exact (Below.refl _ _).drew | assumption | exact a0t hb ‹_› | exact a0t (hb.alloc hb.size _) ‹_› | (refine a5Y ?_ ?_ hb <;> first | assumption | exact Below.size (by assumption)) | exact ⟨hb.os,hb.tape,hb.output,hb.size,hb.block⟩ | exact ⟨(hb.alloc hb.size _).os,(hb.alloc hb.size _).tape,(hb.alloc hb.size _).output,(hb.alloc hb.size _).size,(hb.alloc hb.size _).block⟩)
  (first | (go_at_call 106; refine (a6O _ _ _ _ (Kd.C_below HR.out.2.2 (by first | exact (Below.refl _ _).drew | exact And.left (by assumption))) HL.out HR.out.2.1 HNil.out).mono ?_; rintro e w' ⟨v,rfl,hv,hb⟩; obtain ⟨A1,c1,rfl⟩:=Kd.R_slice hv))
 have hw1 : WrVal (w'.alloc (.cells #[.slice A1 (packB bs).length c1,.int .i64 n] 229)) w.heap.size w'.heap.size (.slice A1 (packB bs).length c1) bs:=by
  rw [HN.out.1]
  exact ⟨a0k _ _,Kd.R_alloc (Kd.R_mono (Kd.R_bound hv) (λ k hk=>by have:=hk.2.2.1; omega)) _⟩
 have HW1:=Lib.hid hw1
 have HB1:=Lib.hid hb
 clear hw1 hb hv hc0 hc1
 rename_i hheld
 have HB2:=Lib.hid hheld.1
 clear hheld
 obtain ⟨W3,hW3⟩ : ∃ W3,W3 = w'.alloc (.cells #[.slice A1 (packB bs).length c1,.int .i64 n] 229):=⟨_,rfl⟩
 rw [<- hW3]
 rw [<- hW3] at HW1 HB2
 clear hW3
 go_wp2_with fail
 refine (c1s w.heap.size w'.heap.size _ bs W3 HW1.out HB2.out.size (by have:=HN.out.2; omega)).mono ?_
 rintro e w4 ⟨rfl,v',h4,_,ho⟩
 have hc4 : w4.cell? ⟨w'.heap.size,0,none⟩ = some v':=(a0a h4.blk 0).trans rfl
 have H4:=Lib.hid (And.intro h4 ho)
 clear h4 ho
 go_wp2_with fail
 go_ret
 refine ⟨_,rfl,Kd.R_mono H4.out.1.row (λ _ _=>trivial),HB2.out.trans (H4.out.2.below HB2.out.size (λ k hk=>?_))⟩
 rcases hk with hk | hk
 · subst hk; exact HB1.out.size
 · exact ((Kd.R_bound HW1.out.row).1 k hk).2.1
def bitI (ps : List Int) (i : Nat) : Nat:=(ps.getD (i / 8) 0).toNat / 2 ^ (i % 8) % 2
def takeV (ps : List Int) (left : Nat) : Nat -> Nat
 | 0=>0
 | k + 1=>2 * takeV ps left k + bitI ps (left - (k + 1))
theorem a6P (ps : List Int) (i : Nat) : bitI ps i <= 1:=by unfold bitI; omega
theorem a2N (ps : List Int) (left : Nat) : ∀ k,takeV ps left k < 2 ^ k
 | 0=>by simp [takeV]
 | k + 1=>by
  have h1:=a2N ps left k
  have h2:=a6P ps (left - (k + 1))
  simp only [takeV,Nat.pow_succ]; omega
def lastB (ps : List Int) : Int:=ps.getD (ps.length - 1) 0
def a0R (ps : List Int) : Nat:=8 * (ps.length - 1) + Lib.bitLen (lastB ps).toNat - 1
theorem b3r (n : Nat) (hn : n <= 1000000) (w : World) : (Instr.makeSlice 22 (.int .i64 n) (.int .i64 n)).run Tryz.prog w = .ok (.slice (some ⟨w.heap.size,0,none⟩) n n) (w.alloc (.cells (madeCells #[.int .u8 0] n) 5)):=by
 obtain ⟨i0,hi,hzz⟩:=Option.map_eq_some_iff.1 a0w
 simp only [Prod.mk.injEq] at hzz
 obtain ⟨hz0,hz1,hz2⟩:=hzz
 have hr:=run_make (P:=Tryz.prog) w 22 5 i0 (.int .u8 0) Tryz.underlying22 hi hz0 .i64 .i64 (n : Int) (n : Int) (by omega) (by omega) (by rw [hz2]; omega) (by omega)
 rw [hz1] at hr
 simpa [Value.cells] using hr
theorem b3s (n : Nat) (hn : n <= 1000000) (W : World) (ok : Nat -> Prop) (hok : ok W.heap.size) (base : Nat) (hb : base <= W.heap.size) : (Kd.int .u8).R 5 (W.alloc (.cells (madeCells #[.int .u8 0] n) 5)) base ok (.slice (some ⟨W.heap.size,0,none⟩) n n) (List.replicate n 0):=by
 have hr:=Kd.reps_made (R:=(Kd.int .u8).M (W.alloc (.cells (madeCells #[.int .u8 0] n) 5)) base (λ k=>ok k /\ some k ≠ (Value.slice (some ⟨W.heap.size,0,none⟩) n n).ownBlock)) (z:=.int .u8 0) (size:=1) (z0:=(0 : Int)) rfl Nat.one_pos rfl n
 have e : (Value.int .u8 0).cells = #[.int .u8 0]:=rfl
 rw [e,Nat.mul_one] at hr
 refine ⟨λ k hk=>by cases hk; exact hok,_,⟨?_,.inr ⟨W.heap.size,n,madeCells #[.int .u8 0] n,by simp,hb,a0k W _,by simp,by unfold maxLen; omega,?_,?_⟩⟩,hr⟩
 · simp [size_madeCells]; exact (Nat.mul_one n).symm
 · rw [size_madeCells]; exact (Nat.mul_one n).symm
 · rw [List.length_replicate]; exact List.take_of_length_le (by simp [size_madeCells]; exact Nat.le_of_eq (Nat.mul_one n).symm)
def pick2 (t : Nat) (x0 x1 : Int) : Int:=if t = 0 then x0 else x1
def set2 (t : Nat) (x0 x1 y : Int) : Int × Int:=if t = 0 then (y,x1) else (x0,y)
def decGo (one : Bool) (qs : List (List Int)) (ps : List Int) : Nat -> Nat -> Int -> Int -> Int -> Nat -> List Int -> Int × List Int
 | 0,_,_,x0,x1,left,out=>if x0 = 0 /\ x1 = 0 /\ left = 0 then (0,out) else (14,[])
 | n + 1,i,last,x0,x1,left,out=>
  let l:=cellsOf (qs.getD (listI one last) [])
  if l.length = 0 then (13,[]) else
   let c:=l.getD (pick2 (i % 2) x0 x1).toNat z3
   if left < c.2.1.toNat then (3,[]) else
    let y:=c.2.2 + takeV ps left c.2.1.toNat
    decGo one qs ps n (i + 1) c.1 (set2 (i % 2) x0 x1 y).1 (set2 (i % 2) x0 x1 y).2 (left - c.2.1.toNat) (out ++ [c.1])
theorem a8U {q : List Int} (h : logC q ≠ 0) : (a2M q).length = 2 ^ logC q:=by
 unfold a2M a1U; rw [List.length_map,List.length_range,a3g h]
theorem a8V {q : List Int} (h : logC q ≠ 0) (x : Nat) (hx : x < 2 ^ logC q) : (a2M q).getD x z3 = a1u q x:=by
 have hl:=a8U h
 rw [List.getD_eq_getElem?_getD,List.getElem?_eq_getElem (by omega),Option.getD_some]
 unfold a2M a1U; simp
theorem a8W {q : List Int} (h : logC q ≠ 0) (x : Nat) (hx : x < 2 ^ logC q) : 0 <= (a1u q x).1 /\ (a1u q x).1 < 256 /\ (∃ b : Nat,(a1u q x).2.1 = b /\ b <= 12 /\ (a1u q x).2.2 + 2 ^ b <= 2 ^ logC q) /\ 0 <= (a1u q x).2.2 /\ (a1u q x).2.2 <= 100000:=by
 have hq:=a1B h
 have hj : x < (symsL q).length:=by rw [a3g h]; exact hx
 have hs:=a4C hq x hj
 obtain ⟨g0,g1,g2,g3,g4⟩:=b2Z h x hj
 have hr : logC q <= 12:=a1S _
 have hp : 2 ^ logC q <= 2 ^ 12:=Nat.pow_le_pow_right (by omega) hr
 have e2 : (2 : Int) ^ logC q = ((2 ^ logC q : Nat) : Int):=by simp
 have e1 : (2 : Int) ^ (logC q - a0s (a0y q x)) = ((2 ^ (logC q - a0s (a0y q x)) : Nat) : Int):=by simp
 have e3 : (a0y q x : Int) * 2 ^ (logC q - a0s (a0y q x)) = ((a0y q x * 2 ^ (logC q - a0s (a0y q x)) : Nat) : Int):=by simp
 have hgb : (a0y q x + 1) * 2 ^ (logC q - a0s (a0y q x)) <= 2 * 2 ^ logC q:=by
  obtain ⟨_,f2⟩:=a3f (a0y q x) g0 (by omega)
  calc _ <= 2 ^ (a0s (a0y q x) + 1) * 2 ^ (logC q - a0s (a0y q x)):=Nat.mul_le_mul_right _ f2
   _ = 2 ^ (logC q + 1):=by rw [<- Nat.pow_add]; congr 1; omega
   _ = _:=by rw [Nat.pow_succ]; omega
 rw [Nat.add_mul,Nat.one_mul] at hgb
 unfold a1u
 refine ⟨hs.1,hs.2.1,⟨_,rfl,by omega,?_⟩,?_,?_⟩
 · show (a0y q x : Int) * 2 ^ (logC q - a0s (a0y q x)) - 2 ^ logC q + 2 ^ (logC q - a0s (a0y q x)) <= 2 ^ logC q
   rw [e1,e2,<- Int.natCast_mul]; omega
 · show 0 <= (a0y q x : Int) * 2 ^ (logC q - a0s (a0y q x)) - 2 ^ logC q
   rw [e1,e2,<- Int.natCast_mul]; omega
 · show (a0y q x : Int) * 2 ^ (logC q - a0s (a0y q x)) - 2 ^ logC q <= 100000
   rw [e1,e2,<- Int.natCast_mul]; omega
theorem b3A {q : List Int} (h : q.length = 0) : logC q = 0:=by
 by_cases e : logC q = 0
 · exact e
 · have:=(a1B e).len; omega
theorem a8X {lg : Int} {one : Bool} {qs : List (List Int)} (h : a0x lg one qs = true) (k : Nat) : (cellsOf (qs.getD k [])).length = 0 \/ (logC (qs.getD k []) ≠ 0 /\ (logC (qs.getD k []) : Int) = lg /\ cellsOf (qs.getD k []) = a2M (qs.getD k []) /\ (cellsOf (qs.getD k [])).length = 2 ^ lg.toNat):=by
 by_cases e : (qs.getD k []).length = 0
 · left; unfold cellsOf; rw [if_pos (b3A e)]; rfl
 · have h2:=a6M h k e
   right
   have e2 : cellsOf (qs.getD k []) = a2M (qs.getD k []):=by unfold cellsOf; rw [if_neg h2.1]
   refine ⟨h2.1,h2.2,e2,?_⟩
   rw [e2,a8U h2.1]
   congr 1; omega
theorem b3B {one : Bool} {qs : List (List Int)} {ps : List Int} {n i lf : Nat} {la y0 y1 : Int} {out : List Int} (h : (cellsOf (qs.getD (listI one la) [])).length = 0) : decGo one qs ps (n + 1) i la y0 y1 lf out = (13,[]):=by
 simp only [decGo]; rw [if_pos h]
theorem b3C {one : Bool} {qs : List (List Int)} {ps : List Int} {n i lf x b : Nat} {la y0 y1 s bs : Int} {out : List Int} (h : (cellsOf (qs.getD (listI one la) [])).length ≠ 0) (hx : pick2 (i % 2) y0 y1 = x) (he : (cellsOf (qs.getD (listI one la) [])).getD x z3 = (s,(b : Int),bs)) (hb : ¬ b <= lf) : decGo one qs ps (n + 1) i la y0 y1 lf out = (3,[]):=by
 simp only [decGo]; rw [if_neg h,hx,Int.toNat_natCast,he,if_pos (by show lf < (b : Int).toNat; omega)]
theorem a8Y {one : Bool} {qs : List (List Int)} {ps : List Int} {n i lf x b : Nat} {la y0 y1 s bs : Int} {out : List Int} (h : (cellsOf (qs.getD (listI one la) [])).length ≠ 0) (hx : pick2 (i % 2) y0 y1 = x) (he : (cellsOf (qs.getD (listI one la) [])).getD x z3 = (s,(b : Int),bs)) (hb : b <= lf) :
    decGo one qs ps (n + 1) i la y0 y1 lf out = decGo one qs ps n (i + 1) s (set2 (i % 2) y0 y1 (bs + takeV ps lf b)).1 (set2 (i % 2) y0 y1 (bs + takeV ps lf b)).2 (lf - b) (out ++ [s]):=by
 simp only [decGo]; rw [if_neg h,hx,Int.toNat_natCast,he,if_neg (by show ¬ lf < (b : Int).toNat; omega)]; rfl
theorem a8Z {t : Nat} {y0 y1 y M : Int} (h0 : 0 <= y0 /\ y0 < M) (h1 : 0 <= y1 /\ y1 < M) (hy : 0 <= y /\ y < M) : (0 <= (set2 t y0 y1 y).1 /\ (set2 t y0 y1 y).1 < M) /\ (0 <= (set2 t y0 y1 y).2 /\ (set2 t y0 y1 y).2 < M):=by
 unfold set2; split
 · exact ⟨hy,h1⟩
 · exact ⟨h0,hy⟩
def qAt (one : Bool) (qs : List (List Int)) (b : List Int) (i : Nat) : List Int:=qs.getD (listI one (ctxI b i)) []
def encN (one : Bool) (qs : List (List Int)) (b : List Int) : Nat -> (Int × Int) × List Bool
 | 0=>((0,0),[])
 | k + 1=>
  let r:=encN one qs b k
  let i:=b.length - 1 - k
  let x:=if i % 2 = 0 then r.1.1 else r.1.2
  let y:=a1p (qAt one qs b i) x (b.getD i 0)
  (if i % 2 = 0 then (y,r.1.2) else (r.1.1,y),r.2 ++ a0j (a1r (qAt one qs b i) x (b.getD i 0)) (a0C (qAt one qs b i) x (b.getD i 0)))
def a0O (lg : Int) (one : Bool) (qs : List (List Int)) (b : List Int) : List Bool:=
 let r:=encN one qs b b.length
 r.2 ++ a0j r.1.2.toNat lg.toNat ++ a0j r.1.1.toNat lg.toNat
theorem a9a {q : List Int} (h : logC q ≠ 0) (s : Int) (k : Nat) : 0 <= (a1o q s).getD k 0 /\ (a1o q s).getD k 0 < 2 ^ logC q:=by
 have hp : (1 : Int) <= 2 ^ logC q:=(a1A (a1S _)).1
 rw [List.getD_eq_getElem?_getD]
 by_cases hk : k < (a1o q s).length
 · rw [List.getElem?_eq_getElem hk,Option.getD_some]
   have hm : (a1o q s)[k] ∈ a1o q s:=List.getElem_mem hk
   obtain ⟨z,hz⟩ : ∃ z,z = (a1o q s)[k]:=⟨_,rfl⟩
   rw [<- hz] at hm ⊢
   unfold a1o posN at hm
   obtain ⟨j,hj,e⟩:=List.mem_map.1 hm
   have hj2:=List.mem_range.1 (List.mem_filter.1 hj).1
   rw [a3g h] at hj2
   rw [<- e]
   have e2 : (2 : Int) ^ logC q = ((2 ^ logC q : Nat) : Int):=by simp
   rw [e2]
   constructor
   · exact Int.natCast_nonneg j
   · show (j : Int) < _; omega
 · rw [List.getElem?_eq_none (by omega)]; simp; omega
theorem a4E {lg : Int} {one : Bool} {qs : List (List Int)} {b : List Int} (h : fitsM lg one qs b = true) (hb : Bytes b) (i : Nat) (hi : i < b.length) : logC (qAt one qs b i) ≠ 0 /\ (logC (qAt one qs b i) : Int) = lg /\ 0 < cntC (qAt one qs b i) (b.getD i 0):=by
 unfold fitsM at h
 simp only [Bool.and_eq_true,List.all_eq_true,List.mem_range] at h
 obtain ⟨h1,h2⟩:=h
 have h3:=h2 i hi
 unfold fitAt at h3
 simp only [decide_eq_true_eq] at h3
 have h4:=a6M h1 _ h3.1
 refine ⟨h4.1,h4.2,?_⟩
 have hx:=hb.get i
 obtain ⟨x,hxe⟩ : ∃ x : Nat,b.getD i 0 = x:=⟨(b.getD i 0).toNat,by omega⟩
 have hg:=a1B h4.1
 have h5:=a2L hg x
 have h6:=(hg.get x).1
 have h7:=h3.2
 unfold qAt
 rw [hxe] at h7 ⊢
 simp only [Int.toNat_natCast] at h7
 rw [h5]; omega
theorem a4F {lg : Int} {one : Bool} {qs : List (List Int)} {b : List Int} (h : fitsM lg one qs b = true) (hb : Bytes b) : ∀ k,k <= b.length -> 0 <= (encN one qs b k).1.1 /\ (encN one qs b k).1.1 < 2 ^ lg.toNat /\ 0 <= (encN one qs b k).1.2 /\ (encN one qs b k).1.2 < 2 ^ lg.toNat
 | 0,_=>by
  have : (1 : Int) <= 2 ^ lg.toNat:=by
   have:=Nat.two_pow_pos lg.toNat
   have e : (2 : Int) ^ lg.toNat = ((2 ^ lg.toNat : Nat) : Int):=by simp
   omega
  simp [encN]; omega
 | k + 1,hk=>by
  have ih:=a4F h hb k (by omega)
  have hf:=a4E h hb (b.length - 1 - k) (by omega)
  have hp:=a9a hf.1 (b.getD (b.length - 1 - k) 0)
  have e : lg.toNat = logC (qAt one qs b (b.length - 1 - k)):=by omega
  simp only [encN]
  rw [e] at ih ⊢
  split
  · exact ⟨(hp _).1,(hp _).2,ih.2.2.1,ih.2.2.2⟩
  · exact ⟨ih.1,ih.2.1,(hp _).1,(hp _).2⟩
theorem a4G {lg : Int} {one : Bool} {qs : List (List Int)} {b : List Int} (h : fitsM lg one qs b = true) (hb : Bytes b) : ∀ k,k <= b.length -> (encN one qs b k).2.length <= 17 * k
 | 0,_=>by simp [encN]
 | k + 1,hk=>by
  have ih:=a4G h hb k (by omega)
  have hf:=a4E h hb (b.length - 1 - k) (by omega)
  have hr:=a4F h hb k (by omega)
  simp only [encN,List.length_append,a0E]
  have e : lg.toNat = logC (qAt one qs b (b.length - 1 - k)):=by omega
  have hx : ∀ x : Int,0 <= x -> x < 2 ^ lg.toNat -> a0C (qAt one qs b (b.length - 1 - k)) x (b.getD (b.length - 1 - k) 0) <= 17:=λ x h0 h1=>by
   unfold a0C a0V
   have hc:=a5t hf.1 (b.getD (b.length - 1 - k) 0)
   have hp:=a1A (r:=logC (qAt one qs b (b.length - 1 - k))) (a1S _)
   rw [e] at h1
   have e2 : (2 : Int) ^ logC (qAt one qs b (b.length - 1 - k)) = ((2 ^ logC (qAt one qs b (b.length - 1 - k)) : Nat) : Int):=by simp
   rw [e2] at hp h1
   exact (a6G hf.2.2 (by omega) (by omega)).2.2
  have:=hx (if (b.length - 1 - k) % 2 = 0 then (encN one qs b k).1.1 else (encN one qs b k).1.2) (by split; exact hr.1; exact hr.2.2.1) (by split; exact hr.2.1; exact hr.2.2.2)
  omega
structure WMid (lg : Int) (one : Bool) (A : Option Addr) (c : Nat) (qs : List (List Int)) (b : List Int) (tb me md p xb : Nat) (w0 : World) (k : Nat) (v : Value) (f : Int -> Option Value) (wr : World) : Prop where
 wv : WrVal wr w0.heap.size p v (encN one qs b k).2
 enc : EncInv lg one A c qs tb me md (k + 1) f (λ g=>g = p \/ v.ownBlock = some g \/ g = xb) w0 wr
 xs : wr.heap[xb]? = some (.cells #[.int .i64 (encN one qs b k).1.1,.int .i64 (encN one qs b k).1.2] 153 (0,0))
 ne : xb ≠ p /\ v.ownBlock ≠ some xb
structure WRel (lg : Int) (one : Bool) (A : Option Addr) (c : Nat) (qs : List (List Int)) (b : List Int) (tb me md p xb : Nat) (w0 : World) (k : Nat) (v : Value) (f : Int -> Option Value) (wr : World) : Prop where
 wv : WrVal wr w0.heap.size p v (encN one qs b k).2
 enc : EncInv lg one A c qs tb me md k f (λ g=>g = p \/ v.ownBlock = some g \/ g = xb) w0 wr
 xs : wr.heap[xb]? = some (.cells #[.int .i64 (encN one qs b k).1.1,.int .i64 (encN one qs b k).1.2] 153 (0,0))
 ne : xb ≠ p /\ v.ownBlock ≠ some xb
theorem EncInv.drew {lg : Int} {one : Bool} {A : Option Addr} {c : Nat} {qs : List (List Int)} {tb me md n : Nat} {f : Int -> Option Value} {Out : Nat -> Prop} {w0 w : World} (h : EncInv lg one A c qs tb me md n f Out w0 w) : EncInv lg one A c qs tb me md n f Out w0 w.drew:=
 ⟨h.blk,h.mp,h.mlt,h.below.drew,h.mge,h.oge,λ i hi v hv=>by obtain ⟨t,lo,hi2,a,b,d,e⟩:=h.ent i hi v hv; exact ⟨t,lo,hi2,a,b.agree (λ _ _ _=>rfl),d,e⟩,h.ne⟩
theorem EncInv.out {lg : Int} {one : Bool} {A : Option Addr} {c : Nat} {qs : List (List Int)} {tb me md n : Nat} {f : Int -> Option Value} {Out Out' : Nat -> Prop} {w0 w w' : World} (h : EncInv lg one A c qs tb me md n f Out w0 w) (ho : Only Out w w') (hs : ∀ g,Out' g -> (Out g \/ w.heap.size <= g) /\ g < w'.heap.size) : EncInv lg one A c qs tb me md n f Out' w0 w':=by
 have hsz:=ho.size
 have hw:=h.below.size
 refine ⟨?_,?_,by have:=h.mlt; omega,?_,h.mge,?_,?_,?_⟩
 · rw [ho.block tb (a0f h.blk) h.ne.1]; exact h.blk
 · rw [ho.block me h.mlt h.ne.2.1]; exact h.mp
 · exact h.below.trans (ho.below hw (λ k hk=>(h.oge k hk).1))
 · intro g hg
   refine ⟨?_,(hs g hg).2⟩
   rcases (hs g hg).1 with x | x
   · exact (h.oge g x).1
   · omega
 · intro i hi v hv
   obtain ⟨t,lo,hi2,a,b,d,e⟩:=h.ent i hi v hv
   refine ⟨t,lo,hi2,a,b.agree (λ k k1 k2=>ho.block k (by omega) (e k k1 k2).1),by omega,λ g g1 g2=>⟨λ hg=>?_,(e g g1 g2).2⟩⟩
   rcases (hs g hg).1 with x | x
   · exact (e g g1 g2).1 x
   · omega
 · refine ⟨λ hg=>?_,λ hg=>?_,h.ne.2.2⟩
   · rcases (hs tb hg).1 with x | x
     · exact h.ne.1 x
     · have:=a0f h.blk; omega
   · rcases (hs me hg).1 with x | x
     · exact h.ne.2.1 x
     · have:=h.mlt; omega
theorem b3D {lg : Int} {one : Bool} {A : Option Addr} {c : Nat} {qs : List (List Int)} {b : List Int} {tb me md p k : Nat} {w0 w2 w3 : World} {v v' : Value} {f : Int -> Option Value} {bs : List Bool} (h : WMid lg one A c qs b tb me md p (p + 1) w0 k v f w2)
    (hP : WrVal w3 w0.heap.size p v' bs /\ (v'.ownBlock = v.ownBlock \/ ∃ b,v'.ownBlock = some b /\ w2.heap.size <= b) /\ Only (λ k=>k = p \/ v.ownBlock = some k) w2 w3) :
    WrVal w3 w0.heap.size p v' bs /\ EncInv lg one A c qs tb me md (k + 1) f (λ g=>g = p \/ v'.ownBlock = some g \/ g = p + 1) w0 w3 /\
     w3.heap[p + 1]? = some (.cells #[.int .i64 (encN one qs b k).1.1,.int .i64 (encN one qs b k).1.2] 153 (0,0)) /\ (p + 1 ≠ p /\ v'.ownBlock ≠ some (p + 1)):=by
 obtain ⟨h1,h2,h3⟩:=hP
 have hx:=a0f h.xs
 have hx3 : w3.heap[p + 1]? = w2.heap[p + 1]?:=h3.block (p + 1) hx (λ e=>by rcases e with e | e; omega; exact h.ne.2 e)
 refine ⟨h1,h.enc.out (h3.mono (λ g _ hg=>by rcases hg with x | x; exact .inl x; exact .inr (.inl x))) (λ g hg=>?_),hx3.trans h.xs,by omega,?_⟩
 · have hsz:=h3.size
   rcases hg with rfl | hg | rfl
   · exact ⟨.inl (.inl rfl),by have:=a0f h1.blk; omega⟩
   · refine ⟨?_,((Kd.R_bound h1.row).1 g hg).2.2.1⟩
     rcases h2 with e | ⟨g',e,hge⟩
     · exact .inl (.inr (.inl (by rw [<- e]; exact hg)))
     · rw [e] at hg; cases hg; exact .inr hge
   · exact ⟨.inl (.inr (.inr rfl)),by omega⟩
 · rcases h2 with e | ⟨g',e,hge⟩
   · rw [e]; exact h.ne.2
   · rw [e]; intro x; cases x; omega
theorem c1U {lg : Int} {one : Bool} {A : Option Addr} {c : Nat} {qs : List (List Int)} {B : List Int} {tb me md : Nat} {w0 w w1 : World} (h : EncInv lg one A c qs tb me md 0 (λ _=>none) (λ _=>False) w0 w) (_ : w1 = w.alloc (.cells #[.slice none 0 0,.int .i64 0] 229)) :
    WRel lg one A c qs B tb me md w.heap.size (w.heap.size + 1) w0 0 (.slice none 0 0) (λ _=>none) ((w.alloc (.cells #[.slice none 0 0,.int .i64 0] 229)).alloc (.cells #[.int .i64 0,.int .i64 0] 153)):=by
 have hsz:=h.below.size
 have e : (w.alloc (.cells #[.slice none 0 0,.int .i64 0] 229)).heap.size = w.heap.size + 1:=by simp
 have e2 : ((w.alloc (.cells #[.slice none 0 0,.int .i64 0] 229)).alloc (.cells #[.int .i64 0,.int .i64 0] 153)).heap.size = w.heap.size + 2:=by simp
 have hb : Below w.heap.size w ((w.alloc (.cells #[.slice none 0 0,.int .i64 0] 229)).alloc (.cells #[.int .i64 0,.int .i64 0] 153)):=((Below.refl _ _).alloc (Nat.le_refl _) _).alloc (by omega) _
 refine ⟨⟨a0n (a0k w _) _,by show Kd.R _ _ _ _ _ _ (packB []); rw [show packB [] = [] from rfl]; exact Kd.R_nil _ _ _ _ _⟩,h.out (Only.of_below hb) (λ g hg=>?_),?_,by omega,by simp [Value.ownBlock]⟩
 · rcases hg with rfl | hg | rfl
   · exact ⟨.inr (Nat.le_refl _),by omega⟩
   · simp [Value.ownBlock] at hg
   · exact ⟨.inr (by omega),by omega⟩
 · have:=a0k (w.alloc (.cells #[.slice none 0 0,.int .i64 0] 229)) (.cells #[.int .i64 0,.int .i64 0] 153)
   rw [e] at this; exact this
theorem a2O {lg : Int} {one : Bool} {qs : List (List Int)} {b : List Int} (h : fitsM lg one qs b = true) : a0x lg one qs = true:=by
 unfold fitsM at h; simp only [Bool.and_eq_true] at h; exact h.1
theorem b3E {lg : Int} {one : Bool} {A : Option Addr} {c : Nat} {qs : List (List Int)} {b : List Int} {tb me md p k i ln : Nat} {w0 wr w1 : World} {v u1 u2 : Value} {f : Int -> Option Value} {ad : Addr} (h : WRel lg one A c qs b tb me md p (p + 1) w0 k v f wr) (hl : ad.block < w0.heap.size)
    (ho : Only (λ g=>g = me) wr.drew w1) (h1 : wr.cell? ⟨p + 1,ln,none⟩ = some u1) (h2 : wr.cell? (ad.add i) = some u2) : w1.cell? ⟨p + 1,ln,none⟩ = some u1 /\ w1.cell? (ad.add i) = some u2:=by
 have hw:=h.enc.below.size
 have hm:=h.enc.mge
 have hab : (ad.add i).block = ad.block:=by simp only [Addr.add]; split <;> rfl
 have e : ∀ (a : Addr) u,a.block < wr.heap.size -> a.block ≠ me -> wr.cell? a = some u -> w1.cell? a = some u:=λ a u ha hne hu=>(World.cell?_of_block (ho.block a.block ha hne)).trans hu
 exact ⟨e _ _ (a0f h.xs) (λ x=>h.enc.ne.2.1 (.inr (.inr x.symm))) h1,e _ _ (by rw [hab]; omega) (by rw [hab]; omega) h2⟩
theorem b3F {lg : Int} {one : Bool} {A : Option Addr} {c : Nat} {qs : List (List Int)} {b : List Int} {tb me md p k : Nat} {w0 wr w1 w2 : World} {v : Value} {f f' : Int -> Option Value} (h : WRel lg one A c qs b tb me md p (p + 1) w0 k v f wr)
    (hE : EncInv lg one A c qs tb me md (k + 1) f' (λ g=>g = p \/ v.ownBlock = some g \/ g = p + 1) w0 w1) (ho : Only (λ g=>g = me) wr.drew w1) (hb : Below w1.heap.size w1 w2) : WMid lg one A c qs b tb me md p (p + 1) w0 k v f' w2:=by
 have hne:=h.enc.ne.2.1
 have hk : ∀ g,g < wr.heap.size -> g ≠ me -> w2.heap[g]? = wr.heap[g]?:=λ g hg hn=>(hb.block g (Nat.lt_of_lt_of_le hg ho.size)).trans (ho.block g hg hn)
 have hp:=a0f h.wv.blk
 have hx:=a0f h.xs
 refine ⟨⟨by rw [hk p hp (λ e=>hne (.inl e.symm))]; exact h.wv.blk,?_⟩,hE.out (Only.of_below hb) (λ g hg=>⟨.inl hg,by have:=(hE.oge g hg).2; have:=hb.size; omega⟩),by rw [hk (p + 1) hx (λ e=>hne (.inr (.inr e.symm)))]; exact h.xs,h.ne⟩
 refine Kd.R_mono (Kd.R_step (Kd.R_tight2 rfl h.wv.row) (λ g hg hlt=>hk g hlt (λ e=>hne (.inr (.inl (by rw [<- e]; exact hg.1.symm))))) ) (λ g hg=>hg.2)
theorem wr_n {q : List Int} {x s : Int} {N : Nat} {lg : Int} (hN : N = a0C q x s) (hf : logC q ≠ 0 /\ (logC q : Int) = lg /\ 0 < cntC q s) (hx : 0 <= x /\ x < 2 ^ lg.toNat) (hl : lg.toNat = logC q) : N <= 24:=by
 rw [hN]; unfold a0C a0V
 have hc:=a5t hf.1 s
 have hp:=a1A (r:=logC q) (a1S _)
 rw [hl] at hx
 have e2 : (2 : Int) ^ logC q = ((2 ^ logC q : Nat) : Int):=by simp
 rw [e2] at hp hx
 have:=(a6G hf.2.2 (show cntC q s <= 2 ^ logC q + x.toNat by omega) (by omega)).2.2
 omega
theorem wr_l {q : List Int} {x s : Int} {N L : Nat} (hN : N = a0C q x s) (hL : L = a1r q x s) (h : N <= 24) : L < 4294967296:=by
 rw [hL]; unfold a1r; rw [<- hN]
 have h1:=Nat.mod_lt (a0V q x) (Nat.two_pow_pos N)
 have h2 : 2 ^ N <= 2 ^ 24:=Nat.pow_le_pow_right (by omega) h
 omega
theorem b3G {lg : Int} {one : Bool} {A : Option Addr} {c : Nat} {qs : List (List Int)} {b : List Int} {tb me md p k n i N L : Nat} {x s Y : Int} {w0 w3 : World} {v' : Value} {f : Int -> Option Value} (hn : n = i % 2) (hi : i = b.length - 1 - k)
    (hx : x = if i % 2 = 0 then (encN one qs b k).1.1 else (encN one qs b k).1.2) (hs : s = b.getD i 0) (hN : N = a0C (qAt one qs b i) x s) (hL : L = a1r (qAt one qs b i) x s) (hY : Y = a1p (qAt one qs b i) x s)
    (hP : WrVal w3 w0.heap.size p v' ((encN one qs b k).2 ++ a0j L N) /\ EncInv lg one A c qs tb me md (k + 1) f (λ g=>g = p \/ v'.ownBlock = some g \/ g = p + 1) w0 w3 /\
     w3.heap[p + 1]? = some (.cells #[.int .i64 (encN one qs b k).1.1,.int .i64 (encN one qs b k).1.2] 153 (0,0)) /\ (p + 1 ≠ p /\ v'.ownBlock ≠ some (p + 1))) :
    WRel lg one A c qs b tb me md p (p + 1) w0 (k + 1) v' f (w3.setCell ⟨p + 1,n,none⟩ (.int .i64 Y)):=by
 obtain ⟨h1,h2,h3,h4⟩:=hP
 have hbits : (encN one qs b k).2 ++ a0j L N = (encN one qs b (k + 1)).2:=by simp only [encN]; rw [<- hi,<- hx,<- hs,<- hL,<- hN]
 rw [hbits] at h1
 have hrow:=Kd.R_mono (Kd.R_far (p:=⟨p + 1,n,none⟩) (Kd.R_tight2 rfl h1.row) (λ g hg e=>h4.2 (hg.1.symm.trans (congrArg some e))) (.int .i64 Y)) (λ g hg=>hg.2)
 refine ⟨⟨a1x h1.blk (p:=⟨p + 1,n,none⟩) (by show p ≠ p + 1; omega) _,hrow⟩,?_,?_,h4⟩
 · exact h2.out ((Only.refl _ _).setCell (p:=⟨p + 1,n,none⟩) (.inr (.inr rfl)) _) (λ g hg=>⟨.inl hg,by have:=(h2.oge g hg).2; simpa [World.setCell] using this⟩)
 · rw [a0u h3 n]
   simp only [encN]
   rw [<- hi,<- hx,<- hs,<- hY]
   rcases Nat.mod_two_eq_zero_or_one i with e | e
   · rw [hn,e]; rfl
   · rw [hn,e]; rfl
set_option maxRecDepth 100000 in
set_option maxHeartbeats 1000000 in
theorem c1V (lg : Nat) (one : Bool) (A : Option Addr) (c : Nat) (qs : List (List Int)) (B : Option Addr) (cb : Nat) (b : List Int) (tb me md : Nat) (w0 w : World) (hrd : kq.C w0 A qs.length qs) (hb : (Kd.int .u8).C w0 B b.length b) (hby : Bytes b) (hbl : b.length <= 40000)
    (hf : fitsM lg one qs b = true) (h : EncInv lg one A c qs tb me md 0 (λ _=>none) (λ _=>False) w0 w) :
    Calls Tryz.prog 148 #[.slice B b.length cb,.int .i64 lg,.func (.func 149) #[.pointer (some ⟨tb,0,none⟩)] #[]] w λ e w'=>∃ p v,e = .returned (.pointer (some ⟨p,0,none⟩)) /\ WrVal w' w0.heap.size p v (a0O lg one qs b) /\ Below w0.heap.size w0 w':=by
 have hu62:=Tryz.underlying153
 have HRD:=Lib.hid hrd
 have HBR:=Lib.hid hb
 have HX:=Lib.hid (And.intro hby hbl)
 have HF:=Lib.hid hf
 have HH:=Lib.hid h
 clear hrd hb hby hbl hf h
 go_enter Tryz.func148,Tryz.ntmps148
 go_wp2_with fail
 refine (a6J w).mono ?_
 rintro e w1 ⟨rfl,hw1⟩
 go_wp2_with fail
 have HR0:=Lib.hid (c1U (B:=b) HH.out hw1)
 obtain ⟨p,hp⟩ : ∃ p,p = w.heap.size:=⟨_,rfl⟩
 obtain ⟨W,hW⟩ : ∃ W,W = (w.alloc (.cells #[.slice none 0 0,.int .i64 0] 229)).alloc (.cells #[.int .i64 0,.int .i64 0] 153):=⟨_,rfl⟩
 rw [<- hW] at HR0 ⊢
 rw [<- hp] at HR0 ⊢
 clear hw1 hW hp
 have hb4:=HX.out.2
 go_loopw [9] (λ kv wr=>∃ (k : Nat) (v : Value) (f : Int -> Option Value),kv = .int .i64 ((b.length : Int) - 1 - k) /\ k <= b.length /\ Hid (WRel lg one A c qs b tb me md p (p + 1) w0 k v f wr)) (λ kv _=>(intOf kv + 1).toNat)
 case atStart=>exact ⟨0,.slice none 0 0,λ _=>none,by rw [w64 (n:=(b.length : Int) - 1) (by omega)]; simp,by omega,HR0.out⟩
 case round=>
  obtain ⟨k,v,f,rfl,hk,H⟩:=hrel
  by_cases hlt : k < b.length
  · obtain ⟨i,hi⟩ : ∃ i,i = b.length - 1 - k:=⟨_,rfl⟩
    have hiI : (b.length : Int) - 1 - k = (i : Int):=by omega
    rw [hiI]
    have hC:=Kd.C_below HBR.out H.out.enc.below
    have hil : i < b.length:=by omega
    obtain ⟨ad,rfl,hcs⟩:=a0v hC i hil
    have hadl : ad.block < w0.heap.size:=Kd.C_lt HBR.out (by omega) (by decide)
    have hsr:=HX.out.1.get i
    have hcr:=a4f HX.out.1 i hil
    have hfit:=a4E HF.out HX.out.1 i hil
    have hrg:=a4F HF.out HX.out.1 k hk
    have hln:=a4G HF.out HX.out.1 k hk
    obtain ⟨ln,hln0⟩ : ∃ ln,ln = i % 2:=⟨_,rfl⟩
    have hlnI : (i : Int) % 2 = (ln : Int):=by omega
    obtain ⟨x,hx⟩ : ∃ x,x = if i % 2 = 0 then (encN one qs b k).1.1 else (encN one qs b k).1.2:=⟨_,rfl⟩
    have hxc : wr.cell? ⟨p + 1,ln,none⟩ = some (.int .i64 x):=by
     rw [a0a H.out.xs ln,hln0,hx]
     rcases Nat.mod_two_eq_zero_or_one i with e | e <;> rw [e] <;> rfl
    have hxr : 0 <= x /\ x < 2 ^ (lg : Int).toNat:=by rw [hx]; split; exact ⟨hrg.1,hrg.2.1⟩; exact ⟨hrg.2.2.1,hrg.2.2.2⟩
    obtain ⟨ci,hci⟩ : ∃ ci : Nat,ctxI b i = ci:=⟨(ctxI b i).toNat,by omega⟩
    obtain ⟨s,hs⟩ : ∃ s,s = b.getD i 0:=⟨_,rfl⟩
    rw [<- hs] at hcs hsr hfit
    have hlgI : (lg : Int).toNat = logC (qAt one qs b i):=by have:=hfit.2.1; omega
    have HCtx : Hid (Calls Tryz.prog 155 #[.slice (some ad) b.length cb,.int .i64 i] wr.drew λ e w'=>e = .returned (.int .i64 ci) /\ wr.drew = w'):=by
     show Calls _ _ _ _ _
     have:=a6K (some ad) cb b i wr.drew (Kd.C_drew hC) hil (by omega) HX.out.1
     rw [hci] at this; exact this
    have hq0 : qs.getD (listI one (ci : Int)) [] = qAt one qs b i:=by unfold qAt; rw [hci]
    have HEnc : Hid (Calls Tryz.prog 149 #[.pointer (some ⟨tb,0,none⟩),.int .i64 ci] wr.drew (b3m lg one A c qs tb me md k (λ g=>g = p \/ v.ownBlock = some g \/ g = p + 1) (listI one ci) w0 wr.drew)):=
     c1n lg one A c qs tb me md k ci f _ w0 wr.drew HRD.out H.out.enc.drew (by omega) (by omega) (a8N (a2O HF.out) (by omega)) (by rw [hq0]; exact hfit.1)
    have HStep : Hid (∀ w1 t lo hi,EtabAt lo hi w1 t (qs.getD (listI one (ci : Int)) []) -> Calls Tryz.prog 199 #[.pointer (some ⟨t,0,none⟩),.int .i64 x,.int .u8 s] w1 (Ret (.tuple #[.int .i64 (a1p (qAt one qs b i) x s),.int .i64 (a0C (qAt one qs b i) x s),.int .u32 (a1r (qAt one qs b i) x s),.bool true]) w1)):=λ w1 t lo hi ht=>by
     rw [hq0] at ht
     exact c0F lo hi t _ x s w1 ht hfit.1 hxr.1 (by rw [<- hlgI]; exact hxr.2) hsr.1 hsr.2 hfit.2.2
    obtain ⟨Y,hY⟩ : ∃ Y,Y = a1p (qAt one qs b i) x s:=⟨_,rfl⟩
    obtain ⟨N,hN⟩ : ∃ N,N = a0C (qAt one qs b i) x s:=⟨_,rfl⟩
    obtain ⟨L,hL⟩ : ∃ L,L = a1r (qAt one qs b i) x s:=⟨_,rfl⟩
    rw [<- hY,<- hN,<- hL] at HStep
    have HY:=Lib.hid (And.intro hY (And.intro hN (And.intro hL (And.intro hx (And.intro hs (And.intro hln0 (And.intro hi (And.intro hfit (And.intro hxr (And.intro hlgI hln))))))))))
    have HLT:=Lib.hid hadl
    have hiL : (i : Int) < (b.length : Int):=by omega
    have hln2 : (ln : Int) < 2:=by omega
    have h0i : (0 : Int) <= (i : Int):=Int.natCast_nonneg i
    have h0l : (0 : Int) <= (ln : Int):=Int.natCast_nonneg ln
    have hii : 0 <= (i : Int) /\ (i : Int) < (b.length : Int):=⟨h0i,hiL⟩
    have hll : 0 <= (ln : Int) /\ (ln : Int) < 2:=⟨h0l,hln2⟩
    have hl2n : ln < 2:=by omega
    clear hi hC hcr hrg hln hx hci hs hfit hY hN hL hln0 hq0 hadl hlgI hxr hsr
    obtain rfl | rfl : ln = 0 \/ ln = 1:=by omega
    · have hpar : (i : Int) % 2 = 0:=by simpa using hlnI
      have htm : (i : Int).tmod 2 = 0:=by rw [Int.tmod_eq_emod_of_nonneg (by omega)]; exact hpar
      clear hlnI hln2 h0l hll hl2n
      go_wp2_with fail
      go_region_held3 (λ w'=>w'.cell? ⟨p + 1,0,none⟩ = some (.int .i64 x) /\ w'.cell? (ad.add i) = some (.int .u8 s)) ((repeat' apply And.intro) <;> first | assumption)
       (first
        | (go_at_call 155; refine HCtx.out.mono ?_; rintro e w' ⟨rfl,rfl⟩)
        | (go_at_call 149; refine HEnc.out.mono ?_; rintro e w1 ⟨f',t,lo,hi2,rfl,hE,hT,ho⟩; obtain ⟨c1,c2⟩:=b3E H.out HLT.out ho hxc hcs)
        | (go_at_call 199; refine (HStep.out _ _ _ _ hT).mono ?_; rintro e w2 ⟨rfl,hb2⟩; have c3:=a0t hb2 c1; have c4:=a0t hb2 c2))
      all_goals
       have HM:=Lib.hid (b3F H.out hE ho hb2)
       clear hE hT ho hb2 c1 c2 c3 c4
       have hN17 : N <= 24:=by have:=HY.out; exact wr_n this.2.1 this.2.2.2.2.2.2.2.1 this.2.2.2.2.2.2.2.2.1 this.2.2.2.2.2.2.2.2.2.1
       have hL32 : L < 4294967296:=wr_l HY.out.2.1 HY.out.2.2.1 hN17
       go_wp2_with fail
       refine (a2e w0.heap.size p v (encN one qs b k).2 L N w2 HM.out.wv HM.out.enc.below.size (by have:=HY.out.2.2.2.2.2.2.2.2.2.2; omega) hL32 hN17).mono ?_
       rintro e w3 ⟨rfl,hp⟩
       obtain ⟨v',hP⟩:=hp
       have HP:=Lib.hid (b3D HM.out hP)
       clear hP
       have hx3 : w3.cell? ⟨p + 1,0,none⟩ = some (.int .i64 (encN one qs b k).1.1):=(a0a HP.out.2.2.1 0).trans rfl
       have hf3 : w3.frozen? ⟨p + 1,0,none⟩ = false:=a0e HP.out.2.2.1 0
       go_wp2_with fail
       go_roundw
       case rel=>
        refine ⟨k + 1,v',f',by go_num,by omega,?_⟩
        exact b3G HY.out.2.2.2.2.2.1 HY.out.2.2.2.2.2.2.1 HY.out.2.2.2.1 HY.out.2.2.2.2.1 HY.out.2.1 HY.out.2.2.1 HY.out.1 HP.out
       case measure=>simp [intOf] <;> omega
    · have hpar : (i : Int) % 2 = 1:=by simpa using hlnI
      have htm : (i : Int).tmod 2 = 1:=by rw [Int.tmod_eq_emod_of_nonneg (by omega)]; exact hpar
      clear hlnI hln2 h0l hll hl2n
      go_wp2_with fail
      go_region_held3 (λ w'=>w'.cell? ⟨p + 1,1,none⟩ = some (.int .i64 x) /\ w'.cell? (ad.add i) = some (.int .u8 s)) ((repeat' apply And.intro) <;> first | assumption)
       (first
        | (go_at_call 155; refine HCtx.out.mono ?_; rintro e w' ⟨rfl,rfl⟩)
        | (go_at_call 149; refine HEnc.out.mono ?_; rintro e w1 ⟨f',t,lo,hi2,rfl,hE,hT,ho⟩; obtain ⟨c1,c2⟩:=b3E H.out HLT.out ho hxc hcs)
        | (go_at_call 199; refine (HStep.out _ _ _ _ hT).mono ?_; rintro e w2 ⟨rfl,hb2⟩; have c3:=a0t hb2 c1; have c4:=a0t hb2 c2))
      all_goals
       have HM:=Lib.hid (b3F H.out hE ho hb2)
       clear hE hT ho hb2 c1 c2 c3 c4
       have hN17 : N <= 24:=by have:=HY.out; exact wr_n this.2.1 this.2.2.2.2.2.2.2.1 this.2.2.2.2.2.2.2.2.1 this.2.2.2.2.2.2.2.2.2.1
       have hL32 : L < 4294967296:=wr_l HY.out.2.1 HY.out.2.2.1 hN17
       go_wp2_with fail
       refine (a2e w0.heap.size p v (encN one qs b k).2 L N w2 HM.out.wv HM.out.enc.below.size (by have:=HY.out.2.2.2.2.2.2.2.2.2.2; omega) hL32 hN17).mono ?_
       rintro e w3 ⟨rfl,hp⟩
       obtain ⟨v',hP⟩:=hp
       have HP:=Lib.hid (b3D HM.out hP)
       clear hP
       have hx3 : w3.cell? ⟨p + 1,1,none⟩ = some (.int .i64 (encN one qs b k).1.2):=(a0a HP.out.2.2.1 1).trans rfl
       have hf3 : w3.frozen? ⟨p + 1,1,none⟩ = false:=a0e HP.out.2.2.1 1
       go_wp2_with fail
       go_roundw
       case rel=>
        refine ⟨k + 1,v',f',by go_num,by omega,?_⟩
        exact b3G HY.out.2.2.2.2.2.1 HY.out.2.2.2.2.2.2.1 HY.out.2.2.2.1 HY.out.2.2.2.2.1 HY.out.2.1 HY.out.2.2.1 HY.out.1 HP.out
       case measure=>simp [intOf] <;> omega
  · obtain rfl : k = b.length:=by omega
    have hrg:=a4F HF.out HX.out.1 b.length (Nat.le_refl _)
    have hln:=a4G HF.out HX.out.1 b.length (Nat.le_refl _)
    have hlg:=a1W (a2O HF.out)
    have hc0 : wr.cell? ⟨p + 1,0,none⟩ = some (.int .i64 (encN one qs b b.length).1.1):=(a0a H.out.xs 0).trans rfl
    have hc1 : wr.cell? ⟨p + 1,1,none⟩ = some (.int .i64 (encN one qs b b.length).1.2):=(a0a H.out.xs 1).trans rfl
    obtain ⟨x0,hx0⟩ : ∃ x0 : Nat,(encN one qs b b.length).1.1 = x0:=⟨(encN one qs b b.length).1.1.toNat,by omega⟩
    obtain ⟨x1,hx1⟩ : ∃ x1 : Nat,(encN one qs b b.length).1.2 = x1:=⟨(encN one qs b b.length).1.2.toNat,by omega⟩
    have HXX:=Lib.hid (And.intro hx0 (And.intro hx1 (And.intro hrg (And.intro hln hlg))))
    rw [hx0] at hc0
    rw [hx1] at hc1
    have hlt2 : (2 : Int) ^ (lg : Int).toNat <= 4096:=by
     have h12 : lg <= 12:=by have:=hlg.2.1; omega
     exact (a1A (r:=lg) h12).2
    have hm0 : (x0 : Int) % 4294967296 = x0:=by have:=hrg.2.1; rw [hx0] at this; omega
    have hm1 : (x1 : Int) % 4294967296 = x1:=by have:=hrg.2.2.2; rw [hx1] at this; omega
    have h24 : lg <= 24:=by have:=hlg.2.1; omega
    clear hrg hln hlg hx0 hx1 hlt2
    have hiE : (b.length : Int) - 1 - b.length = -1:=by omega
    rw [hiE]
    go_wp2_with fail
    refine (a2e w0.heap.size p v _ x1 lg wr H.out.wv H.out.enc.below.size (by have:=HXX.out.2.2.2.1; omega) (by omega) h24).mono ?_
    rintro e w3 ⟨rfl,v3,hv3,ho3,hn3⟩
    have hb3 : Below w0.heap.size w0 w3:=H.out.enc.below.trans (hn3.below H.out.enc.below.size (λ g hg=>(H.out.enc.oge g (hg.imp id .inl)).1))
    have hx3 : w3.heap[p + 1]? = wr.heap[p + 1]?:=hn3.block (p + 1) (a0f H.out.xs) (λ e=>by rcases e with e | e; omega; exact H.out.ne.2 e)
    have hc3 : w3.cell? ⟨p + 1,0,none⟩ = some (.int .i64 x0):=(World.cell?_of_block (a:=⟨p + 1,0,none⟩) hx3).trans hc0
    have H3:=Lib.hid (And.intro hv3 hb3)
    have HO3:=Lib.hid (And.intro ho3 hn3)
    clear hv3 ho3 hn3 hb3 hx3
    go_wp2_with fail
    refine (a2e w0.heap.size p v3 _ x0 lg w3 H3.out.1 H3.out.2.size (by rw [List.length_append,a0E]; have:=HXX.out.2.2.2.1; omega) (by omega) h24).mono ?_
    rintro e w4 ⟨rfl,v4,hv4,ho4,hn4⟩
    have H4:=Lib.hid (And.intro hv4 (And.intro ho4 hn4))
    clear hv4 ho4 hn4
    go_wp2_with fail
    go_ret
    refine ⟨p,v4,rfl,?_,?_⟩
    · have e : a0O lg one qs b = (encN one qs b b.length).2 ++ a0j x1 lg ++ a0j x0 lg:=by
        have a1:=HXX.out.1
        have a2:=HXX.out.2.1
        simp only [a0O,a1,a2,Int.toNat_natCast]
      rw [e]; exact H4.out.1
    · refine H3.out.2.trans (H4.out.2.2.below H3.out.2.size (λ g hg=>?_))
      rcases hg with rfl | hg
      · exact (H.out.enc.oge g (.inl rfl)).1
      · exact ((Kd.R_bound H3.out.1.row).1 g hg).2.1
structure Opened (lg : Int) (one : Bool) (A : Option Addr) (n c : Nat) (tb me md : Nat) (w w' : World) : Prop where
 blk : w'.heap[tb]? = some (.cells #[.int .i64 lg,.bool one,.slice A n c,.map (some me),.map (some md)] 213 (0,0))
 em : w'.heap[me]? = some (.map #[] 0)
 dm : w'.heap[md]? = some (.map #[] 0)
 ge : w.heap.size <= me /\ w.heap.size <= md /\ me ≠ md /\ tb ≠ me /\ tb ≠ md
 below : Below w.heap.size w w'
 tge : w.heap.size <= tb
theorem c1W (lg : Int) (one : Bool) (A : Option Addr) (n c : Nat) (w : World) : Opened lg one A n c (w.heap.size + 1 + 1 + 1) (w.heap.size + 1) (w.heap.size + 1 + 1) w
    ((((w.alloc (.cells #[.int .i64 lg,.bool one,.slice A n c] 26)).alloc (.map #[] 0)).alloc (.map #[] 0)).alloc (.cells #[.int .i64 lg,.bool one,.slice A n c,.map (some (w.heap.size + 1)),.map (some (w.heap.size + 1 + 1))] 213)):=by
 obtain ⟨w1,h1⟩ : ∃ w1,w1 = w.alloc (.cells #[.int .i64 lg,.bool one,.slice A n c] 26):=⟨_,rfl⟩
 obtain ⟨w2,h2⟩ : ∃ w2,w2 = w1.alloc (.map #[] 0):=⟨_,rfl⟩
 obtain ⟨w3,h3⟩ : ∃ w3,w3 = w2.alloc (.map #[] 0):=⟨_,rfl⟩
 have e1 : w1.heap.size = w.heap.size + 1:=by rw [h1]; simp
 have e2 : w2.heap.size = w.heap.size + 1 + 1:=by rw [h2]; simp [e1]
 have e3 : w3.heap.size = w.heap.size + 1 + 1 + 1:=by rw [h3]; simp [e2]
 rw [<- h1,<- h2,<- h3]
 have b1 : Below w.heap.size w w1:=by rw [h1]; exact (Below.refl _ _).alloc (Nat.le_refl _) _
 have b2 : Below w.heap.size w w2:=by rw [h2]; exact b1.alloc (by omega) _
 have b3 : Below w.heap.size w w3:=by rw [h3]; exact b2.alloc (by omega) _
 have m1 : w2.heap[w.heap.size + 1]? = some (.map #[] 0):=by rw [h2,<- e1]; exact a0k w1 _
 have m2 : w3.heap[w.heap.size + 1 + 1]? = some (.map #[] 0):=by rw [h3,<- e2]; exact a0k w2 _
 have m1' : w3.heap[w.heap.size + 1]? = some (.map #[] 0):=by rw [h3]; exact a0n m1 _
 refine ⟨?_,a0n m1' _,a0n m2 _,by omega,b3.alloc (by omega) _,by omega⟩
 have:=a0k w3 (.cells #[.int .i64 lg,.bool one,.slice A n c,.map (some (w.heap.size + 1)),.map (some (w.heap.size + 1 + 1))] 213)
 rw [e3] at this; exact this
set_option maxRecDepth 100000 in
set_option maxHeartbeats 400000 in
theorem b3H (lg : Int) (one : Bool) (A : Option Addr) (n c : Nat) (w : World) :
    Calls Tryz.prog 119 #[.agg #[.int .i64 lg,.bool one,.slice A n c]] w λ e w'=>∃ tb me md,e = .returned (.pointer (some ⟨tb,0,none⟩)) /\ Opened lg one A n c tb me md w w':=by
 have hmm:=@run_makeMap Tryz.prog
 go_enter Tryz.func119,Tryz.ntmps119
 go_wp2_with fail
 go_ret
 exact ⟨_,_,_,rfl,c1W lg one A n c w⟩
def decM (lg : Int) (one : Bool) (qs : List (List Int)) (ps : List Int) (n : Int) : Int × List Int:=
 if n < 0 \/ 131072 < n \/ a0x lg one qs = false then (1,[]) else
 if ps.length = 0 \/ lastB ps = 0 then (2,[]) else
 if a0R ps < lg.toNat + lg.toNat then (3,[]) else
 decGo one qs ps n.toNat 0 0 (takeV ps (a0R ps) lg.toNat) (takeV ps (a0R ps - lg.toNat) lg.toNat) (a0R ps - lg.toNat - lg.toNat) []
def canM (lg : Int) (one : Bool) (qs : List (List Int)) (b : List Int) : Bool:=decide (b.length <= 131072) && fitsM lg one qs b
set_option maxRecDepth 100000 in
set_option maxHeartbeats 400000 in
theorem c2b (lg : Int) (one : Bool) (A : Option Addr) (c : Nat) (qs : List (List Int)) (B : Option Addr) (cb : Nat) (b : List Int) (w : World) (hr : kq.C w A qs.length qs) (hl : qs.length <= 1000000) (hb : (Kd.int .u8).C w B b.length b) (hby : Bytes b) :
    Calls Tryz.prog 147 #[.agg #[.int .i64 lg,.bool one,.slice A qs.length c],.slice B b.length cb] w (Ret (.bool (canM lg one qs b)) w):=by
 have HB1:=Lib.hid ((Below.refl w.heap.size w).alloc (Nat.le_refl _) (.cells #[.int .i64 lg,.bool one,.slice A qs.length c] 26))
 have HR:=Lib.hid hr
 have HBR:=Lib.hid hb
 have HX:=Lib.hid (And.intro hl hby)
 clear hr hb hl hby
 by_cases h : b.length <= 131072
 · have hd : decide ((b.length : Int) <= 131072) = true:=decide_eq_true (by omega)
   have HE : Hid (canM lg one qs b = fitsM lg one qs b):=by show _ = _; unfold canM; rw [decide_eq_true h]; rfl
   rw [HE.out]
   obtain ⟨z,hz⟩ : ∃ z,z = fitsM lg one qs b:=⟨_,rfl⟩
   rw [<- hz]
   have HZ:=Lib.hid hz
   have HL:=Lib.hid h
   clear hz h
   go_enter Tryz.func147,Tryz.ntmps147
   go_wp2_with fail
   refine (c1k lg one A c qs B cb b _ (Kd.C_below HR.out HB1.out) HX.out.1 (Kd.C_below HBR.out HB1.out) HX.out.2 (by have:=HL.out; omega)).mono ?_
   rw [<- HZ.out]
   rintro e w' ⟨rfl,hb⟩
   have HB2:=Lib.hid (HB1.out.trans (hb.mono HB1.out.size))
   clear hb
   go_wp2_with fail
   go_ret
   exact ⟨rfl,HB2.out⟩
 · have hd : decide ((b.length : Int) <= 131072) = false:=decide_eq_false (by omega)
   have HE : Hid (canM lg one qs b = false):=by show _ = _; unfold canM; rw [decide_eq_false h]; rfl
   rw [HE.out]
   clear h
   go_enter Tryz.func147,Tryz.ntmps147
   go_wp2_with fail
   go_ret
   exact ⟨rfl,HB1.out⟩
end Go.Proofs.YtflfjpkmjnnodaaGreat
