/- Plain: blocks: put, scanned, opened. -/
import Derived.Test.YtflfjpkmjnnodaaGreatHM2
import Derived.Test.YtflfjpkmjnnodaaGreatHM1
import Derived.Test.YtflfjpkmjnnodaaGreatHS1
import Derived.Test.YtflfjpkmjnnodaaGreatHM4
import Derived.Test.YtflfjpkmjnnodaaGreatHR1
import Derived.Test.YtflfjpkmjnnodaaGreatHR2
import Derived.Test.YtflfjpkmjnnodaaGreatHM0
import Derived.RangeFuncRecord
import Derived.RangeFuncSeq
import Derived.WalkKit
import Derived.OwnWalkIn
import Derived.TacticsInMore
import Derived.BigFrameIn
import Derived.LoopNIn
import Derived.LoopIn
import Derived.Maps.OwnIn
import Derived.Maps.AppendAt
import Derived.RangeFuncBox
import Derived.OwnWalk
import Derived.Deep.QuietTactic
import Derived.BigQuiet
import Derived.Deep.MidRow
import Derived.Deep.RegionHeld3
import Derived.Deep.RegionLaw
import Derived.WalkMore
import Derived.Laws.EntriesVeiled
namespace Go.Proofs.YtflfjpkmjnnodaaGreat
open Go.RowKit
def leN (n k : Nat) : List Int:=(List.range k).map (λ i=>((n / 256 ^ i % 256 : Nat) : Int))
def rdN (f : List Int) : Nat -> Nat
 | 0=>0
 | k + 1=>rdN f k + (f.getD k 0).toNat * 256 ^ k
theorem a2R (n k : Nat) : (leN n k).length = k:=by simp [leN]
theorem b0e (n k : Nat) : Bytes (leN n k):=λ x hx=>by
 unfold leN at hx
 obtain ⟨i,_,rfl⟩:=List.mem_map.1 hx
 omega
theorem b6j (n k : Nat) : leN n (k + 1) = leN n k ++ [((n / 256 ^ k % 256 : Nat) : Int)]:=by simp [leN,List.range_succ]
theorem a2E {f : List Int} (hf : Bytes f) : ∀ k,rdN f k < 256 ^ k
 | 0=>by simp [rdN]
 | k + 1=>by
  have h1:=a2E hf k
  have h2:=hf.get k
  have h3 : (f.getD k 0).toNat <= 255:=by omega
  have h4:=Nat.mul_le_mul_right (256 ^ k) h3
  unfold rdN
  rw [Nat.pow_succ]
  omega
theorem b0g {f : List Int} {j : Nat} : ∀ k,k <= j -> rdN (f.take j) k = rdN f k
 | 0,_=>rfl
 | k + 1,h=>by
  unfold rdN
  rw [b0g k (by omega)]
  congr 2
  rw [List.getD_eq_getElem?_getD,List.getElem?_take,if_pos (by omega),<- List.getD_eq_getElem?_getD]
abbrev HeadT:=Nat × Nat × Nat × Bool × Nat
def headZ : HeadT:=(0,0,0,false,0)
def a1J (log : Int) (first : Bool) (kind n : Nat) (last : Bool) : Bool:=
 if last = false then decide (n = 2 ^ log.toNat) else if n = 0 then first && decide (kind = 0) else decide (n <= 2 ^ log.toNat)
def scanM (f : List Int) (log : Int) (first : Bool) (room : Int) : Int × HeadT:=
 if log < 10 \/ 17 < log \/ room < 0 then (1,headZ) else
 if f.length < 1 then (3,headZ) else
 if 7 < (f.getD 0 0).toNat then (10,headZ) else
 if f.length < 4 then (3,headZ) else
 if a1J log first ((f.getD 0 0).toNat % 4) (rdN (f.drop 1) 3) (decide (4 <= (f.getD 0 0).toNat)) = false then (11,headZ) else
 if f.length < 7 then (3,headZ) else
 if a0H ((f.getD 0 0).toNat % 4 : Nat) (rdN (f.drop 1) 3) (rdN (f.drop 4) 3) ≠ 0 then (a0H ((f.getD 0 0).toNat % 4 : Nat) (rdN (f.drop 1) 3) (rdN (f.drop 4) 3),headZ) else
 if room < rdN (f.drop 1) 3 then (7,headZ) else
 if f.length < 11 then (3,headZ) else
 (0,(f.getD 0 0).toNat % 4,rdN (f.drop 1) 3,rdN (f.drop 4) 3,decide (4 <= (f.getD 0 0).toNat),rdN (f.drop 7) 4)
def openM (f : List Int) (log : Int) (first : Bool) (room : Int) : Int × List Int × Nat × Bool:=
 if (scanM f log first room).1 ≠ 0 then ((scanM f log first room).1,[],0,false) else
 if f.length < 11 + (scanM f log first room).2.2.2.1 then (3,[],0,false) else
 if a0W 0 ((f.drop 11).take (scanM f log first room).2.2.2.1) ≠ (scanM f log first room).2.2.2.2.2 then (12,[],0,false) else
 if (pickD ((scanM f log first room).2.1 : Nat) ((f.drop 11).take (scanM f log first room).2.2.2.1) (scanM f log first room).2.2.1).1 ≠ 0 then ((pickD ((scanM f log first room).2.1 : Nat) ((f.drop 11).take (scanM f log first room).2.2.2.1) (scanM f log first room).2.2.1).1,[],0,false) else
 (0,(pickD ((scanM f log first room).2.1 : Nat) ((f.drop 11).take (scanM f log first room).2.2.2.1) (scanM f log first room).2.2.1).2,11 + (scanM f log first room).2.2.2.1,(scanM f log first room).2.2.2.2.1)
def putM (b : List Int) (last : Bool) : List Int:=
 ((bestP b).1 + (if last then 4 else 0)) :: (leN b.length 3 ++ (leN (bestP b).2.length 3 ++ (leN (a0W 0 (bestP b).2) 4 ++ (bestP b).2)))
theorem a2j (b : List Int) (last : Bool) : (putM b last).length = 11 + (bestP b).2.length:=by
 unfold putM
 simp only [List.length_cons,List.length_append,a2R]; omega
theorem b0h {b : List Int} (hl : b.length <= 131072) : ∃ k : Nat,(bestP b).1 = k /\ k <= 3:=by
 have:=(b0c hl).kind
 exact ⟨(bestP b).1.toNat,by omega,by omega⟩
theorem b0i {b : List Int} (hb : Bytes b) (hl : b.length <= 131072) (last : Bool) : Bytes (putM b last):=by
 obtain ⟨k,hk,hk3⟩:=b0h hl
 unfold putM
 refine a9Y ?_ (a4W (b0e _ _) (a4W (b0e _ _) (a4W (b0e _ _) (a3L hb))))
 rw [hk]; split <;> omega
end Go.Proofs.YtflfjpkmjnnodaaGreat
namespace Go.Proofs.YtflfjpkmjnnodaaGreat
open Go.RowKit Go.IntWalk Go.Proofs.YtflfjpkmjnnodaaGreatW.PrintWords
attribute [local go_sem] Oper.semAt_some
theorem a3P {W : World} {B : Nat} {e : TypeId} {v : Value} {n : Nat} {xs : List Value} (h : W.ownsRow B e 1 v n xs) : ∃ A c,v = .slice A n c:=by
 rcases h.2 with ⟨rfl,rfl⟩ | ⟨g,cap,cur,rfl,_⟩
 · exact ⟨_,_,rfl⟩
 · exact ⟨_,_,rfl⟩
theorem RfAt.only {w w' : World} {base p : Nat} {ps : List Int} {at_ : Nat} {S : Nat -> Prop} (h : RfAt w base p ps at_) (ho : Only S w w') (hp : ¬ S p) (hs : ∀ k,base <= k -> k < p -> ¬ S k) : RfAt w' base p ps at_:=by
 obtain ⟨A,c,h1,h2⟩:=h.ex
 have hb:=λ k hk=>(Kd.R_bound h2).1 k hk
 refine ⟨A,c,(ho.block p (a0f h1) hp).trans h1,Kd.R_mono (Kd.R_step (Kd.R_tight (d:=Kd.int .u8) rfl h2) (λ k hk hlt=>ho.block k hlt ?_)) (λ k hk=>(hb k hk.symm).1)⟩
 have:=hb k hk.symm
 exact hs k this.2.1 this.1
theorem Only.grown {S : Nat -> Prop} {a b c : World} {row : Option Nat} (h : Only S a b) (hg : b.grownBy c row) (hs : ∀ k,row = some k -> S k) : Only S a c:=h.trans (Only.of_grown hg hs)
end Go.Proofs.YtflfjpkmjnnodaaGreat
namespace Go.Proofs.YtflfjpkmjnnodaaGreat
open Go.RowKit Go.IntWalk Go.Proofs.YtflfjpkmjnnodaaGreatW.PrintWords
structure S1 (rbx mb mc p B r n0 : Nat) (ps : List Int) (qs : List (List Int)) (at_ : Nat) (w0 W : World) : Prop where
 rd : RfAt W B p ps at_
 kb : W.heap[rbx]? = some (.cells #[.pointer (some ⟨p,0,none⟩)] 87 (0,0))
 km : W.heap[mb]? = some (.cells #[.int .i64 r,.bool false,.slice (some ⟨mc,0,none⟩) 256 256] 26 (0,0))
 row : kq.R 84 W n0 (λ k=>k ≠ p /\ k ≠ rbx /\ k ≠ mb) (.slice (some ⟨mc,0,none⟩) 256 256) qs
 on : Below n0 w0 W
set_option maxRecDepth 100000 in
theorem c6A (A : Option Addr) (c pb pc : Nat) (b : List Int) (i : Nat) (k : Int) (w : World) (hpb : w.cell? ⟨pb,0,none⟩ = some (.slice A b.length c)) (hpc : w.cell? ⟨pc,0,none⟩ = some (.int .i64 k)) (hr : (Kd.int .u8).C w A b.length b) (hi : i < b.length) (hl : b.length <= 1000000) (hb : Bytes b) :
    Calls Tryz.prog 197 #[.int .i64 i,.pointer (some ⟨pb,0,none⟩),.pointer (some ⟨pc,0,none⟩)] w λ e w'=>e = .returned (.bool (decide (ctxI b i = k))) /\ ∃ n,w' = w.drewN n:=by
 have HN:=Lib.hid (λ W (h : Below w.heap.size w W)=>a6K A c b i W (Kd.C_below hr h) hi hl hb)
 obtain ⟨z,hz⟩ : ∃ z,z = ctxI b i:=⟨_,rfl⟩
 rw [<- hz] at HN ⊢
 clear hr hi hl hb hz
 go_enter Tryz.func197,Tryz.ntmps197
 go_wp2_with fail
 go_quiet ((go_at_call 155; refine Calls.quiet_of_same ((HN.out _ (a0b (Below.refl _ _) _)).mono λ e w' h=>⟨h.1,h.2.symm⟩)))
 all_goals
  go_wp2_with fail
  go_ret
  exact ⟨by first | rfl | exact a0S rfl,_,rfl⟩
def c6B (b : List Int) (k : Int) (w : World) (e : Ending) (w' : World) : Prop:=∃ v,e = .returned v /\ (Kd.int .u8).R 5 w' w.heap.size (λ _=>True) v (a0o b k) /\ Below w.heap.size w w'
set_option maxRecDepth 100000 in
set_option maxHeartbeats 1000000 in
theorem c6C (A : Option Addr) (c cc pb pc : Nat) (b : List Int) (k : Int) (w : World) (hpb : w.cell? ⟨pb,0,none⟩ = some (.slice A b.length cc)) (hpbl : pb < w.heap.size) (hpc : w.cell? ⟨pc,0,none⟩ = some (.int .i64 k)) (hpcl : pc < w.heap.size) (hr : (Kd.int .u8).C w A b.length b) (hl : b.length <= 1000000) (hb : Bytes b) :
    Calls Tryz.prog 196 #[.slice A b.length c,.func (Fn.func 197) #[] #[.pointer (some ⟨pb,0,none⟩),.pointer (some ⟨pc,0,none⟩)]] w (c6B b k w):=by
 have HR:=Lib.hid (And.intro hr (And.intro hl (And.intro hb (And.intro hpbl hpcl))))
 have HCe:=Lib.hid (And.intro hpb hpc)
 clear hr hl hb hpb hpc hpbl hpcl
 go_enter Tryz.func196,Tryz.ntmps196
 go_wp2_with fail
 go_loopw [5,10] (λ v kv wr=>∃ i : Nat,i <= b.length /\ kv = .int .i64 i /\ Hid ((Kd.int .u8).R 5 wr w.heap.size (λ _=>True) v (pkL b k i) /\ Below w.heap.size w wr)) (λ _ kv _=>b.length - (intOf kv).toNat)
 case atStart=>exact ⟨0,by omega,rfl,Lib.hid ⟨by have : pkL b k 0 = []:=rfl; rw [this]; exact Kd.R_nil _ _ _ _ _,Below.refl _ _⟩⟩
 case round=>
  obtain ⟨i,hi,rfl,H⟩:=hrel
  by_cases hlt : i < b.length
  · obtain ⟨Av,cv,rfl⟩:=Kd.R_slice H.out.1
    have hbi:=HR.out.2.2.1 _ (a1y hlt)
    obtain ⟨y,hy⟩ : ∃ y : Nat,b.getD i 0 = y:=⟨(b.getD i 0).toNat,by omega⟩
    obtain ⟨ad,hA,hcx⟩:=a0v (Kd.C_below HR.out.1 H.out.2) i hlt
    rw [hy] at hcx
    subst hA
    have hcl:=a4i b k i
    have HLn : Hid (((pkL b k i).length + 1) * 1 <= 140737488355328):=by show _ <= _; have:=HR.out.2.1; omega
    have hl6 : b.length <= 1000000:=HR.out.2.1
    obtain ⟨L,hL⟩ : ∃ L,L = pkL b k i:=⟨_,rfl⟩
    have HL:=Lib.hid hL
    have HY:=Lib.hid (And.intro hy hbi)
    have hF:=c6A (some ad) cc pb pc b i k wr (by rw [H.out.2.cell (p:=⟨pb,0,none⟩) HR.out.2.2.2.1]; exact HCe.out.1) (by rw [H.out.2.cell (p:=⟨pc,0,none⟩) HR.out.2.2.2.2]; exact HCe.out.2) (Kd.C_below HR.out.1 H.out.2) hlt HR.out.2.1 HR.out.2.2.1
    have HF:=Lib.hid hF
    rw [<- hL] at H hcl HLn ⊢
    clear hF hy hbi hL
    by_cases hcond : ctxI b i = k
    · have HN : Hid (pkL b k (i + 1) = L ++ [(y : Int)]):=by show _ = _; rw [a7i hcond,<- HL.out,HY.out.1]
      have hd:=decide_eq_true hcond
      rw [hd] at HF
      clear hcond hd
      go_wp2_with fail
      refine HF.out.mono ?_
      rintro e w1 ⟨rfl,nq,rfl⟩
      obtain ⟨w2,hw2⟩ : ∃ w2,w2 = wr.drewN nq:=⟨_,rfl⟩
      have HB2 : Hid (Below w.heap.size w w2 /\ w.heap.size <= w2.heap.size):=by
       have h1 : Below w.heap.size w w2:=by rw [hw2]; exact a0b H.out.2 nq
       exact Lib.hid ⟨h1,h1.size⟩
      have HR2 : Hid ((Kd.int .u8).R 5 w2 w.heap.size (λ _=>True) (.slice Av L.length cv) L):=Lib.hid (by rw [hw2]; exact Kd.R_drewN H.out.1 nq)
      rw [<- hw2]
      clear hw2 hcx
      go_wp2_with (at_builtin; refine Kd.R_append (Kd.int .u8) (w0:=w) (W:=w2) w.heap.size rfl (.tmp 18) (.tmp 20) 22 5 (.int .u8 0) 1 rfl Tryz.underlying22 a0w rfl (by decide) (by decide) _ _ (y : Int) [.int .u8 y] (λ _=>True) (λ _=>False) rfl rfl rfl (λ _ h=>h.elim) (λ _ _=>trivial) HR2.out HB2.out.1 HB2.out.2 HLn.out ?_; intro v1 w3 hr3 hb3 hg3 hat3; have HA:=Lib.hid (And.intro hr3 hb3); clear hr3 hb3 hg3 hat3)
      go_roundw
      case rel=>exact ⟨i + 1,by omega,by go_num,Lib.hid ⟨by rw [HN.out]; exact HA.out.1,HA.out.2⟩⟩
      case measure=>simp [intOf]; omega
    · have HN : Hid (pkL b k (i + 1) = L):=by show _ = _; rw [a7j hcond,<- HL.out]
      have hd:=decide_eq_false hcond
      rw [hd] at HF
      clear hcond hd
      go_wp2_with fail
      refine HF.out.mono ?_
      rintro e w1 ⟨rfl,nq,rfl⟩
      go_wp2_with fail
      go_roundw
      case rel=>exact ⟨i + 1,by omega,by go_num,Lib.hid ⟨by rw [HN.out]; exact Kd.R_drewN H.out.1 nq,a0b H.out.2 nq⟩⟩
      case measure=>simp [intOf]; omega
  · obtain rfl : i = b.length:=by omega
    go_wp2_with fail
    go_ret
    exact ⟨_,rfl,H.out.1,H.out.2⟩
def b6s (b : List Int) (k : Int) (w : World) (e : Ending) (w' : World) : Prop:=∃ v,e = .returned v /\ (Kd.int .i64).R 3 w' w.heap.size (λ _=>True) v (histL (a0o b k)) /\ Below w.heap.size w w'
theorem a7H {b : List Int} (hb : Bytes b) (k : Int) : Bytes (a0o b k):=b4t hb k _
set_option maxRecDepth 100000 in
theorem b6t (A : Option Addr) (c : Nat) (b : List Int) (k : Int) (w : World) (hr : (Kd.int .u8).C w A b.length b) (hl : b.length <= 1000000) (hb : Bytes b) :
    Calls Tryz.prog 146 #[.slice A b.length c,.int .i64 k] w (b6s b k w):=by
 obtain ⟨W,hW⟩ : ∃ W,W = (w.alloc (.cells #[.slice A b.length c] 22)).alloc (.cells #[.int .i64 k] 3):=⟨_,rfl⟩
 have hb1 : Below w.heap.size w W:=by rw [hW]; exact ((Below.refl _ _).alloc (Nat.le_refl _) _).alloc (by simp) _
 have hs : W.heap.size = w.heap.size + 2:=by rw [hW]; simp
 have hk1 : W.heap[w.heap.size]? = some (.cells #[.slice A b.length c] 22 (0,0)):=by rw [hW]; exact a0n (a0k _ _) _
 have hk2 : W.heap[w.heap.size + 1]? = some (.cells #[.int .i64 k] 3 (0,0)):=by rw [hW]; exact a2z _ _ _
 have HP:=Lib.hid (c6C A c c w.heap.size (w.heap.size + 1) b k W ((a0a hk1 0).trans rfl) (by omega) ((a0a hk2 0).trans rfl) (by omega) (Kd.C_below hr hb1) hl hb)
 have HX:=Lib.hid (And.intro hb1 (And.intro hl hb))
 have hc1 : W.cell? ⟨w.heap.size,0,none⟩ = some (.slice A b.length c):=(a0a hk1 0).trans rfl
 clear hr hl hb hb1 hs hk1 hk2
 go_enter Tryz.func146,Tryz.ntmps146
 go_wp2_with fail
 rw [<- hW]
 clear hW
 refine HP.out.mono ?_
 rintro e w1 ⟨v,rfl,hv,hb1⟩
 obtain ⟨A1,c1,rfl⟩:=Kd.R_slice hv
 have H1:=Lib.hid (And.intro (Kd.R_reads' hv).2.2 (a0g HX.out.1 hb1))
 have HLp : Hid ((a0o b k).length <= 1000000):=by show _ <= _; have:=a4i b k b.length; have:=HX.out.2.1; unfold a0o; omega
 clear hv hb1
 go_wp2_with fail
 refine (b5g A1 c1 (a0o b k) w1 H1.out.1 HLp.out (a7H HX.out.2.2 k)).mono ?_
 rintro e w2 ⟨v2,rfl,hv2,hb2⟩
 have H2:=Lib.hid (And.intro hv2 hb2)
 clear hv2 hb2
 go_wp2_with fail
 go_ret
 exact ⟨v2,rfl,Kd.R_lower H2.out.1 H1.out.2.size,a0g H1.out.2 H2.out.2⟩
end Go.Proofs.YtflfjpkmjnnodaaGreat
namespace Go.Proofs.YtflfjpkmjnnodaaGreat
open Go.RowKit Go.IntWalk Go.Proofs.YtflfjpkmjnnodaaGreatW.PrintWords Go.Proofs.YtflfjpkmjnnodaaGreatW.PrintMore
attribute [local go_sem] a1Z a1Q a2a a1R
def metL (b : List Int) : Nat -> List Bool
 | 0=>List.replicate 256 false
 | i + 1=>(metL b i).set (ctxI b (i : Nat)).toNat true
theorem a7I (b : List Int) : ∀ i,(metL b i).length = 256
 | 0=>List.length_replicate
 | i + 1=>by unfold metL; rw [List.length_set]; exact a7I b i
theorem b6u {b : List Int} (hb : Bytes b) {i : Nat} (hi : i < b.length) : 0 <= ctxI b (i : Nat) /\ ctxI b (i : Nat) < 256:=by
 unfold ctxI
 rw [if_neg (by omega)]
 split
 · omega
 · exact hb.get _
theorem b6v {b : List Int} (hb : Bytes b) {c : Nat} (hc : c < 256) : ∀ i,i <= b.length -> (metL b i).getD c false = decide (0 < (pkL b (c : Int) i).length)
 | 0,_=>by
  have : pkL b (c : Int) 0 = []:=rfl
  rw [this]
  unfold metL
  rw [List.getD_eq_getElem?_getD,List.getElem?_replicate,if_pos hc]; rfl
 | i + 1,h=>by
  have ih:=b6v hb hc i (by omega)
  have hr:=b6u hb (show i < b.length by omega)
  unfold metL
  rw [List.getD_eq_getElem?_getD,List.getElem?_set]
  by_cases e : ctxI b (i : Nat) = (c : Int)
  · rw [if_pos (by omega),if_pos (by rw [a7I]; omega),a7i e]
    simp
  · rw [if_neg (by omega),<- List.getD_eq_getElem?_getD,ih,a7j e]
theorem c6D : (Tryz.prog.info? 196).map (·.size) = some 256:=by kernel_rfl
theorem c6E : (Tryz.prog.info? 4).map (·.size) = some 1:=by kernel_rfl
theorem c6F : Tryz.zeroCells196 = ((List.replicate 256 false).map Value.bool).toArray:=by kernel_rfl
theorem c6G (ms : List Bool) (hm : ms.length = 256) (i : Nat) (hi : i < 256) (w : World) : (Instr.index 196 (.agg (ms.map Value.bool).toArray) (.int .i64 i)).run Tryz.prog w = .ok (.bool (ms.getD i false)) w:=by
 obtain ⟨i0,hi0,hsz⟩:=Option.map_eq_some_iff.1 c6E
 have h1 : (0 : Int) <= i /\ (i : Int) < ((256 : Nat) : Int):=by omega
 have hag : (isAgg 4).run Tryz.prog w = .ok false w:=by simp [isAgg,Tryz.underlying4,go_sem,run_underlying]
 have he : ms[i]? = some ms[i]:=List.getElem?_eq_getElem (by omega)
 unfold Instr.index
 simp [run_underlying (P:=Tryz.prog) Tryz.underlying196,asIntOf,sizeOf,typeInfo,hi0,hsz,part,hag,h1,Result.andThen,he,hi]
def MetAt (p : Nat) (ms : List Bool) (w : World) : Prop:=w.heap[p]? = some (.cells (ms.map Value.bool).toArray 196 (0,0))
theorem MetAt.cell {p : Nat} {ms : List Bool} {w : World} (h : MetAt p ms w) {c : Nat} (hc : c < ms.length) : w.cell? ⟨p,c,none⟩ = some (.bool (ms.getD c false)) /\ w.frozen? ⟨p,c,none⟩ = false:=by
 refine ⟨(a0a h c).trans ?_,a0e h c⟩
 rw [List.getElem?_toArray,List.getElem?_map,List.getElem?_eq_getElem hc,List.getD_eq_getElem?_getD,List.getElem?_eq_getElem hc]; rfl
theorem MetAt.set {p : Nat} {ms : List Bool} {w : World} (h : MetAt p ms w) (c : Nat) : MetAt p (ms.set c true) (w.setCell ⟨p,c,none⟩ (.bool true)):=by
 unfold MetAt at h ⊢
 rw [a0u h c]
 congr 2
 rw [List.map_set]; simp
theorem MetAt.range {p : Nat} {ms : List Bool} {w : World} (h : MetAt p ms w) : w.rangeAt p 0 (ms.map Value.bool):=λ j v hv=>by
 rw [Nat.zero_add,a0a h j]
 simpa using hv
def c6H (b : List Int) (w : World) (e : Ending) (w' : World) : Prop:=∃ v,e = .returned v /\ (Kd.int .i64).R 3 w' w.heap.size (λ _=>True) v (presN b 256) /\ Below w.heap.size w w'
theorem c6I {b : List Int} (hb : Bytes b) {c : Nat} (hc : c < 256) : (metL b b.length).getD c false = decide (0 < (a0o b (c : Int)).length):=b6v hb hc b.length (Nat.le_refl _)
set_option maxRecDepth 100000 in
set_option maxHeartbeats 1000000 in
theorem b6w (A : Option Addr) (cp : Nat) (b : List Int) (w : World) (hr : (Kd.int .u8).C w A b.length b) (hl : b.length <= 1000000) (hb : Bytes b) :
    Calls Tryz.prog 104 #[.slice A b.length cp] w (c6H b w):=by
 obtain ⟨W,hW⟩ : ∃ W,W = w.alloc (.cells Tryz.zeroCells196 196):=⟨_,rfl⟩
 have hb1 : Below w.heap.size w W:=by rw [hW]; exact (Below.refl _ _).alloc (Nat.le_refl _) _
 have hm1 : MetAt w.heap.size (metL b 0) W:=by rw [hW,c6F]; exact a0k _ _
 have H1:=Lib.hid (And.intro hb1 hm1)
 have HR:=Lib.hid (And.intro hr (And.intro hl hb))
 obtain ⟨p,hp⟩ : ∃ p,p = w.heap.size:=⟨_,rfl⟩
 rw [<- hp] at H1
 have HP:=Lib.hid hp
 clear hr hl hb hb1 hm1
 go_enter Tryz.func104,Tryz.ntmps104
 go_wp2_with fail
 rw [<- hW,<- hp]
 clear hW hp
 go_loopw [10] (λ kv wr=>∃ i : Nat,i <= b.length /\ kv = .int .i64 i /\ Hid (MetAt p (metL b i) wr /\ Below p w wr /\ Only (λ k=>k = p) W wr)) (λ kv _=>b.length - (intOf kv).toNat)
 case atStart=>exact ⟨0,by omega,rfl,Lib.hid ⟨H1.out.2,by rw [HP.out]; have:=H1.out.1; rw [HP.out] at this; exact this,Only.refl _ _⟩⟩
 case round=>
  obtain ⟨i,hi,rfl,H⟩:=hrel
  by_cases hlt : i < b.length
  · have hB : Below w.heap.size w wr:=by have:=H.out.2.1; rw [HP.out] at this; exact this
    have hRr : (Kd.int .u8).C wr A b.length b:=Kd.C_below HR.out.1 hB
    have HAt:=Lib.hid (a6K A cp b i wr hRr hlt HR.out.2.1 HR.out.2.2)
    obtain ⟨c,hc,hc2⟩ : ∃ c : Nat,ctxI b (i : Nat) = c /\ c < 256:=by
     have:=b6u HR.out.2.2 hlt
     exact ⟨(ctxI b (i : Nat)).toNat,by omega,by omega⟩
    rw [hc] at HAt
    obtain ⟨mc,mf⟩:=H.out.1.cell (c:=c) (by rw [a7I]; omega)
    have HN : Hid (metL b (i + 1) = (metL b i).set c true):=by show _ = _; rw [metL,hc,Int.toNat_natCast]
    have hl6 : b.length <= 1000000:=HR.out.2.1
    clear hc hRr hB
    go_wp2_with fail
    refine HAt.out.mono ?_
    rintro e w1 ⟨rfl,rfl⟩
    go_wp2_with fail
    go_roundw
    case rel=>exact ⟨i + 1,by omega,by go_num,Lib.hid ⟨by rw [HN.out]; exact H.out.1.set c,H.out.2.1.setCell (Nat.le_refl _) _,H.out.2.2.set1 _ _⟩⟩
    case measure=>simp [intOf]; omega
  · obtain rfl : i = b.length:=by omega
    have hld:=H.out.1.range
    obtain ⟨ms,hms⟩ : ∃ ms,ms = metL b b.length:=⟨_,rfl⟩
    have HMs : Hid (ms.length = 256 /\ ∀ c,c < 256 -> ms.getD c false = decide (0 < (a0o b (c : Int)).length)):=Lib.hid ⟨by rw [hms]; exact a7I b _,λ c hc=>by rw [hms]; exact c6I HR.out.2.2 hc⟩
    rw [<- hms] at hld
    have HLd:=Lib.hid hld
    clear hms hld
    go_wp2_with fail
    refine wp_load_mid 196 (.tmp 3) rfl p 0 rfl (ms.map Value.bool) _ HLd.out Tryz.underlying196 rfl (by rw [c6D]; simp [HMs.out.1]) ?_
    go_wp2_with fail
    go_loopw [5,19] (λ v kv wr=>∃ c : Nat,c <= 256 /\ kv = .int .i64 c /\ Hid ((Kd.int .i64).R 3 wr w.heap.size (λ _=>True) v (presN b c) /\ Below w.heap.size w wr)) (λ _ kv _=>256 - (intOf kv).toNat)
    case atStart=>exact ⟨0,by omega,rfl,Lib.hid ⟨by have : presN b 0 = []:=rfl; rw [this]; exact Kd.R_nil _ _ _ _ _,by have:=H.out.2.1; rw [HP.out] at this; exact this⟩⟩
    case round=>
     obtain ⟨c,hc,rfl,G⟩:=hrel
     by_cases hlt : c < 256
     · have hix:=c6G ms HMs.out.1 c hlt
       have hmc:=HMs.out.2 c hlt
       obtain ⟨Av,cv,rfl⟩:=Kd.R_slice G.out.1
       have hpl:=a4j b c
       have HLn : Hid (((presN b c).length + 1) * 8 <= 140737488355328):=by show _ <= _; omega
       obtain ⟨L,hL⟩ : ∃ L,L = presN b c:=⟨_,rfl⟩
       have hsucc:=a9k b c
       rw [<- hL] at G hpl HLn hsucc ⊢
       have HGB : Hid (Below w.heap.size w wr /\ w.heap.size <= wr.heap.size):=Lib.hid ⟨G.out.2,G.out.2.size⟩
       by_cases hp0 : 0 < (a0o b (c : Int)).length
       · rw [decide_eq_true hp0] at hmc
         rw [if_pos hp0] at hsucc
         rw [hmc] at hix
         have HS:=Lib.hid hsucc
         clear hmc hsucc hL hp0
         go_wp2_with (at_builtin; refine Kd.R_append (Kd.int .i64) (w0:=w) (W:=wr) w.heap.size rfl (.tmp 24) (.tmp 26) 84 3 (.int .i64 0) 8 rfl Tryz.underlying84 a4x rfl (by decide) (by decide) _ _ (c : Int) [.int .i64 c] (λ _=>True) (λ _=>False) rfl rfl rfl (λ _ h=>h.elim) (λ _ _=>trivial) G.out.1 HGB.out.1 HGB.out.2 HLn.out ?_; intro v1 w3 hr3 hb3 hg3 hat3; have HA:=Lib.hid (And.intro hr3 hb3); clear hr3 hb3 hg3 hat3)
         go_roundw
         case rel=>exact ⟨c + 1,by omega,by go_num,Lib.hid ⟨by rw [HS.out]; exact HA.out.1,HA.out.2⟩⟩
         case measure=>simp [intOf]; omega
       · rw [decide_eq_false hp0] at hmc
         rw [if_neg hp0] at hsucc
         rw [hmc] at hix
         have HS:=Lib.hid hsucc
         clear hmc hsucc hL hp0
         go_wp2_with fail
         go_roundw
         case rel=>exact ⟨c + 1,by omega,by go_num,Lib.hid ⟨by rw [HS.out]; exact G.out.1,G.out.2⟩⟩
         case measure=>simp [intOf]; omega
     · obtain rfl : c = 256:=by omega
       go_wp2_with fail
       go_ret
       exact ⟨_,rfl,G.out.1,G.out.2⟩
def widL (b : List Int) : List Int -> Nat
 | []=>0
 | c :: l=>max (manyC (histL (a0o b c))) (widL b l)
theorem b0m (b : List Int) (c : Int) : ∀ l : List Int,widL b (l ++ [c]) = max (widL b l) (manyC (histL (a0o b c)))
 | []=>by simp [widL]
 | x :: l=>by
  show max (manyC (histL (a0o b x))) (widL b (l ++ [c])) = max (max (manyC (histL (a0o b x))) (widL b l)) _
  rw [b0m b c l,Nat.max_assoc]
theorem b6x : manyC (histL []) = 0:=by decide +kernel
theorem b0n (b : List Int) : ∀ k,widL b (presN b k) = widN b k
 | 0=>rfl
 | k + 1=>by
  rw [a9k]
  show _ = max (widN b k) (manyC (histL (a0o b (k : Nat))))
  by_cases h : 0 < (a0o b (k : Int)).length
  · rw [if_pos h,b0m,b0n b k]
  · rw [if_neg h,b0n b k]
    have e : a0o b ((k : Nat) : Int) = []:=List.eq_nil_of_length_eq_zero (by omega)
    rw [e,b6x]; simp
theorem b6y (b : List Int) : ∀ l,widL b l <= 256
 | []=>by simp [widL]
 | c :: l=>by
  have:=b6y b l; have:=a4O (histL (a0o b c))
  simp only [widL]; omega
set_option maxRecDepth 100000 in
set_option maxHeartbeats 1000000 in
theorem c6J (A : Option Addr) (cp : Nat) (b : List Int) (w : World) (hr : (Kd.int .u8).C w A b.length b) (hl : b.length <= 1000000) (hb : Bytes b) :
    Calls Tryz.prog 144 #[.slice A b.length cp] w (Ret (.int .i64 (widN b 256 : Nat)) w):=by
 have HR:=Lib.hid (And.intro hr (And.intro hl hb))
 clear hr hl hb
 go_enter Tryz.func144,Tryz.ntmps144
 go_wp2_with fail
 refine (b6w A cp b w HR.out.1 HR.out.2.1 HR.out.2.2).mono ?_
 rintro e w1 ⟨v,rfl,hv,hb1⟩
 obtain ⟨A1,c1,rfl⟩:=Kd.R_slice hv
 have H1:=Lib.hid (And.intro (Kd.R_reads' hv).2.2 hb1)
 have hpl:=a4j b 256
 obtain ⟨L,hL⟩ : ∃ L,L = presN b 256:=⟨_,rfl⟩
 have HL:=Lib.hid hL
 rw [<- hL] at H1 hpl ⊢
 clear hv hb1 hL
 go_wp2_with fail
 go_loopw [3,9] (λ mv kv wr=>∃ i : Nat,i <= L.length /\ kv = .int .i64 i /\ mv = .int .i64 (widL b (L.take i) : Nat) /\ Hid (Below w1.heap.size w1 wr)) (λ _ kv _=>L.length - (intOf kv).toNat)
 case atStart=>exact ⟨0,by omega,rfl,rfl,Lib.hid (Below.refl _ _)⟩
 case round=>
  obtain ⟨i,hi,rfl,rfl,H⟩:=hrel
  by_cases hlt : i < L.length
  · obtain ⟨ad,hA,hcx⟩:=a0v (Kd.C_below H1.out.1 H.out) i hlt
    subst hA
    have ht : L.take (i + 1) = L.take i ++ [L.getD i 0]:=by rw [List.take_succ_eq_append_getElem hlt,List.getD_eq_getElem?_getD,List.getElem?_eq_getElem hlt,Option.getD_some]
    obtain ⟨c,hc⟩ : ∃ c,c = L.getD i 0:=⟨_,rfl⟩
    rw [<- hc] at ht hcx
    obtain ⟨m,hm⟩ : ∃ m,m = widL b (L.take i):=⟨_,rfl⟩
    obtain ⟨k,hk⟩ : ∃ k,k = manyC (histL (a0o b c)):=⟨_,rfl⟩
    have hN : widL b (L.take (i + 1)) = max m k:=by rw [ht,b0m,<- hm,<- hk]
    have hm256 : m <= 256:=by rw [hm]; exact b6y _ _
    have hk256 : k <= 256:=by rw [hk]; exact a4O _
    have HN:=Lib.hid (And.intro hN hk)
    rw [<- hm]
    have hBw:=a0g H1.out.2 H.out
    have HFor:=Lib.hid (b6t A cp b c wr (Kd.C_below HR.out.1 hBw) HR.out.2.1 HR.out.2.2)
    have HB:=Lib.hid H.out
    clear ht hc hm hN hk hBw
    go_wp2_with fail
    refine HFor.out.mono ?_
    rintro e w2 ⟨v2,rfl,hv2,hb2⟩
    obtain ⟨A2,c2,rfl⟩:=Kd.R_slice hv2
    have HV2:=Lib.hid (Kd.R_reads' hv2).2.2
    have HB2 : Hid (Below w1.heap.size w1 w2):=Lib.hid (a0g HB.out hb2)
    have HRi : Hid (a0P (histL (a0o b c)) = true):=Lib.hid (a5B _ (a7H HR.out.2.2 c) (by have:=a4i b c b.length; have:=HR.out.2.1; unfold a0o; omega))
    clear hv2 hb2
    go_wp2_with fail
    refine (a5G A2 c2 _ w2 HV2.out HRi.out).mono ?_
    rw [<- HN.out.2]
    rintro e w3 ⟨rfl,rfl⟩
    by_cases hmk : (m : Int) < (k : Int)
    · have HM : Hid (max m k = k):=by show _ = _; omega
      go_wp2_with fail
      go_roundw
      case rel=>exact ⟨i + 1,by omega,by go_num,by rw [HN.out.1,HM.out],HB2.out⟩
      case measure=>simp [intOf]; omega
    · have HM : Hid (max m k = m):=by show _ = _; omega
      go_wp2_with fail
      go_roundw
      case rel=>exact ⟨i + 1,by omega,by go_num,by rw [HN.out.1,HM.out],HB2.out⟩
      case measure=>simp [intOf]; omega
  · obtain rfl : i = L.length:=by omega
    have HE : Hid (widL b (L.take L.length) = widN b 256):=by show _ = _; rw [List.take_length,HL.out,b0n]
    rw [HE.out]
    go_wp2_with fail
    go_ret
    exact ⟨rfl,a0g H1.out.2 H.out⟩
end Go.Proofs.YtflfjpkmjnnodaaGreat
namespace Go.Proofs.YtflfjpkmjnnodaaGreat
open Go.RowKit Go.IntWalk Go.Proofs.YtflfjpkmjnnodaaGreatW.PrintWords
set_option maxRecDepth 100000 in
theorem c6K (A : Option Addr) (cp p : Nat) (b : List Int) (k : Int) (w : World) (h : w.cell? ⟨p,0,none⟩ = some (.slice A b.length cp)) (hr : (Kd.int .u8).C w A b.length b) (hl : b.length <= 1000000) (hb : Bytes b) :
    Calls Tryz.prog 145 #[.int .i64 k,.pointer (some ⟨p,0,none⟩)] w (b6s b k w):=by
 have HF:=Lib.hid (b6t A cp b k w hr hl hb)
 clear hr hl hb
 go_enter Tryz.func145,Tryz.ntmps145
 go_wp2_with fail
 refine HF.out.mono ?_
 rintro e w1 ⟨v,rfl,hv,hb⟩
 have H1:=Lib.hid (And.intro hv hb)
 clear hv hb
 go_wp2_with fail
 go_ret
 exact ⟨v,rfl,H1.out.1,H1.out.2⟩
def a1Y (b : List Int) (c : Nat) : List (List Int):=(List.range c).map (a1g b)
theorem b6z (b : List Int) (c : Nat) : a1Y b (c + 1) = a1Y b c ++ [a1g b c]:=by simp [a1Y,List.range_succ]
theorem a7J (b : List Int) (c : Nat) : (a1Y b c).length = c:=by simp [a1Y]
def FMade (b : List Int) (r : Nat) (m0 m1 base c : Nat) (w wr : World) : Prop:=∃ A1 c1,wr.heap[m1]? = some (.cells #[.int .i64 r,.bool false,.slice A1 c c1] 26 (0,0)) /\ wr.heap[m0]? = some (.cells #[.int .i64 0,.bool false,.slice none 0 0] 26 (0,0)) /\ kq.R 84 wr base (λ _=>True) (.slice A1 c c1) (a1Y b c) /\ Below m0 w wr /\ base <= wr.heap.size
theorem FMade.next {b : List Int} {r m0 m1 base c : Nat} {w w6 : World} {A1 : Option Addr} {c1 : Nat} (hm : m0 < base /\ m1 < base /\ m0 ≠ m1 /\ m0 <= m1) (h0 : w6.heap[m0]? = some (.cells #[.int .i64 0,.bool false,.slice none 0 0] 26 (0,0)))
    (h1 : w6.heap[m1]? = some (.cells #[.int .i64 r,.bool false,.slice A1 c c1] 26 (0,0))) {A2 : Option Addr} {c2 : Nat} (hq : kq.R 84 w6 base (λ _=>True) (.slice A2 (c + 1) c2) (a1Y b (c + 1))) (hb : Below m0 w w6) (hsz : base <= w6.heap.size) :
    FMade b r m0 m1 base (c + 1) w (w6.setCell ⟨m1,2,none⟩ (.slice A2 (c + 1) c2)):=by
 refine ⟨A2,c2,a0u h1 2 _,a1x h0 (p:=⟨m1,2,none⟩) hm.2.2.1 _,?_,hb.setCell hm.2.2.2 _,by simpa using hsz⟩
 refine Kd.R_mono (Kd.R_far (p:=⟨m1,2,none⟩) (Kd.R_bound hq) (λ k hk=>?_) _) (λ _ _=>trivial)
 show k ≠ m1
 have:=hk.2.1
 omega
set_option maxRecDepth 100000 in
set_option maxHeartbeats 4000000 in
theorem c6L (p cp : Nat) (A : Option Addr) (b : List Int) (w : World) (hp : w.heap[p]? = some (.cells #[.slice A b.length cp] 22 (0,0))) (hr : (Kd.int .u8).C w A b.length b) (hl : b.length <= 1000000) (hb : Bytes b) :
    Calls Tryz.prog 142 #[.int .i64 (a0p b : Nat),.int .i64 256,.func (Fn.func 145) #[] #[.pointer (some ⟨p,0,none⟩)]] w (MadeM (a0p b : Nat) false (a0A b) w):=by
 obtain ⟨r,hrr⟩ : ∃ r,r = a0p b:=⟨_,rfl⟩
 have HRR:=Lib.hid hrr
 rw [<- hrr]
 clear hrr
 obtain ⟨W2,hW2⟩ : ∃ W2,W2 = (w.alloc (.cells #[.int .i64 0,.bool false,.slice none 0 0] 26)).alloc (.cells #[.int .i64 r,.bool false,.slice none 0 0] 26):=⟨_,rfl⟩
 have hb2 : Below w.heap.size w W2:=by rw [hW2]; exact ((Below.refl w.heap.size w).alloc (Nat.le_refl _) _).alloc (by simp) _
 have hs2 : W2.heap.size = w.heap.size + 2:=by rw [hW2]; simp
 have hm1 : W2.heap[w.heap.size + 1]? = some (.cells #[.int .i64 r,.bool false,.slice none 0 0] 26 (0,0)):=by rw [hW2]; exact a2z _ _ _
 have hm0 : W2.heap[w.heap.size]? = some (.cells #[.int .i64 0,.bool false,.slice none 0 0] 26 (0,0)):=by rw [hW2]; exact a0n (a0k _ _) _
 have HPl : Hid (w.heap.size <= w.heap.size + 1):=Nat.le_succ _
 have H2:=Lib.hid (And.intro hb2 (And.intro hs2 (And.intro hm1 hm0)))
 have HP:=Lib.hid hp
 have HR:=Lib.hid (And.intro hr (And.intro hl hb))
 clear hp hr hl hb hb2 hs2 hm1 hm0
 go_enter Tryz.func142,Tryz.ntmps142
 go_wp2_with fail
 rw [<- hW2]
 clear hW2
 obtain ⟨m0,hm0⟩ : ∃ m0,m0 = w.heap.size:=⟨_,rfl⟩
 have HM0:=Lib.hid hm0
 rw [<- hm0] at H2 ⊢
 clear hm0
 obtain ⟨m1,hm1⟩ : ∃ m1,m1 = m0 + 1:=⟨_,rfl⟩
 have HM1:=Lib.hid hm1
 rw [<- hm1] at H2 ⊢
 clear hm1
 go_loopw [16] (λ kv wr=>∃ c : Nat,c <= 256 /\ kv = .int .i64 c /\ Hid (FMade b r m0 m1 W2.heap.size c w wr)) (λ kv _=>256 - (intOf kv).toNat)
 case atStart=>exact ⟨0,by omega,rfl,Lib.hid ⟨none,0,H2.out.2.2.1,H2.out.2.2.2,Kd.R_nil _ _ _ _ _,H2.out.1,Nat.le_refl _⟩⟩
 case round=>
  obtain ⟨c,hc,rfl,H⟩:=hrel
  by_cases hlt : c < 256
  · obtain ⟨A1,c1,h1,h2,h3,h4,h5⟩:=H.out
    have hbw : Below w.heap.size w wr:=by have:=h4; rw [HM0.out] at this; exact this
    have hpc : wr.cell? ⟨p,0,none⟩ = some (.slice A b.length cp):=(a0a (a0i HP.out hbw) 0).trans rfl
    have HF:=Lib.hid (c6K A cp p b c wr hpc (Kd.C_below HR.out.1 hbw) HR.out.2.1 HR.out.2.2)
    have HH:=Lib.hid (And.intro h1 (And.intro h2 (And.intro h3 (And.intro h4 h5))))
    have hmm : Hid (m0 < W2.heap.size /\ m1 < W2.heap.size /\ m0 ≠ m1 /\ m0 <= m1):=by
     have:=a0f H2.out.2.2.1; have:=a0f H2.out.2.2.2; have:=HM1.out
     exact Lib.hid (by omega)
    have HPk:=Lib.hid (a4i b (c : Int) b.length)
    have HOwn : Hid (∀ k,(Value.slice A1 c c1).ownBlock = some k -> W2.heap.size <= k /\ k < wr.heap.size):=Lib.hid λ k hk=>⟨Kd.R_base h3 k hk,Kd.R_lt h3 k hk⟩
    clear h1 h2 h3 h4 h5 hbw hpc H
    go_wp2_with fail
    refine HF.out.mono ?_
    rintro e w3 ⟨vl,rfl,hvl,hb3⟩
    obtain ⟨Al,cl,rfl⟩:=Kd.R_slice hvl
    have hhl : (histL (a0o b (c : Int))).length = 256:=a1z _
    have hrd:=(Kd.R_reads' hvl).2.2
    have hmany:=a5G Al cl (histL (a0o b (c : Int))) w3 hrd (a5B _ (a7H HR.out.2.2 c) (by have:=HPk.out; have:=HR.out.2.1; unfold a0o; omega))
    rw [hhl] at hrd hmany ⊢
    have HV:=Lib.hid hrd
    have HMa:=Lib.hid hmany
    have HB3:=Lib.hid hb3
    clear hvl hb3 hrd hmany hhl
    go_wp2_with fail
    refine HMa.out.mono ?_
    by_cases hp0 : 0 < (a0o b (c : Int)).length
    · have hmp : 0 < manyC (histL (a0o b (c : Int))):=b5J (a7H HR.out.2.2 c) (by have:=HPk.out; have:=HR.out.2.1; unfold a0o; omega) hp0
      have HCan:=Lib.hid (a5D HR.out.2.2 HR.out.2.1 hlt hp0)
      have HQ : Hid (a1g b c = normL (histL (a0o b (c : Int))) r):=by show _ = _; unfold a1g; rw [if_pos hp0,<- HRR.out]
      rw [<- HRR.out] at HCan
      obtain ⟨mn,hmn⟩ : ∃ mn,mn = manyC (histL (a0o b (c : Int))):=⟨_,rfl⟩
      rw [<- hmn] at hmp ⊢
      clear hmn hp0
      rintro e w' ⟨rfl,rfl⟩
      go_wp2_with fail
      refine (b5I Al cl _ r w3 HV.out HCan.out).mono ?_
      rintro e w5 ⟨vq,rfl,hq,hb5⟩
      rw [<- HQ.out] at hq
      obtain ⟨Aq,cq,rfl⟩:=Kd.R_slice hq
      obtain ⟨Q,hQ⟩ : ∃ Q,Q = a1g b c:=⟨_,rfl⟩
      rw [<- hQ] at hq ⊢
      have HQQ:=Lib.hid hQ
      obtain ⟨ql,hql⟩ : ∃ ql,ql = Q.length:=⟨_,rfl⟩
      rw [<- hql] at hq ⊢
      have HQr : Hid ((Kd.int .i64).R 3 w5 W2.heap.size (λ k=>wr.heap.size <= k) (.slice Aq ql cq) Q):=Lib.hid (Kd.R_mono (Kd.R_lower (Kd.R_bound hq) (Nat.le_trans HH.out.2.2.2.2 HB3.out.size)) (λ k hk=>by have:=hk.2.1; have:=HB3.out.size; omega))
      have hb35:=a0g HB3.out hb5
      have h15:=a0i HH.out.1 hb35
      have H05:=Lib.hid (a0i HH.out.2.1 hb35)
      obtain ⟨⟨ca,cb,cc⟩,fa,fb,fc⟩:=cell3 h15
      have H15:=Lib.hid h15
      have HB5:=Lib.hid hb35
      have hm1l:=a0f h15
      have hm1n : ¬ m1 = w5.heap.size:=by omega
      have hm1n' : ¬ w5.heap.size = m1:=by omega
      have HS5 : Hid (W2.heap.size <= w5.heap.size):=Lib.hid (Nat.le_trans HH.out.2.2.2.2 hb35.size)
      have HB5' : Hid (Below W2.heap.size w5 w5):=Below.refl _ _
      have HL : Hid (((a1Y b c).length + 1) * 24 <= 140737488355328):=by show _ <= _; rw [a7J]; omega
      have HO5:=Lib.hid (Kd.R_below HH.out.2.2.1 hb35)
      clear hq hb5 h15 hql hQ hb35
      go_wp2_with (at_builtin; refine Kd.R_append kq (w0:=w5) (W:=w5) W2.heap.size rfl (.tmp 32) (.tmp 34) 24 84 (.slice none 0 0) 24 rfl Tryz.underlying24 a7s rfl (by decide) (by decide) (.slice A1 c c1) (a1Y b c) Q [.slice Aq ql cq] (λ _=>True) (λ k=>wr.heap.size <= k) rfl (by simp [go_sem]) ⟨_,rfl,HQr.out⟩ (λ k hk=>⟨trivial,λ e=>by have:=(HOwn.out k e.symm).2; omega⟩) (λ _ _=>trivial) HO5.out HB5'.out HS5.out HL.out ?_; intro v1 w6 hr6 hb6 hg6 hat6; have h16:=a1e H15.out hg6 (λ e=>by have:=(HOwn.out _ e.symm).1; have:=hmm.out; omega); have H16:=Lib.hid h16; have H06:=Lib.hid (a1e H05.out hg6 (λ e=>by have:=(HOwn.out _ e.symm).1; have:=hmm.out; omega)); obtain ⟨⟨da,db,dc⟩,ga,gb,gc⟩:=cell3 h16; obtain ⟨A2,c2,rfl⟩:=Kd.R_slice hr6; have hlen : (a1Y b c ++ [Q]).length = c + 1:=(by rw [List.length_append,a7J]; rfl); rw [hlen] at hr6; have HR6:=Lib.hid hr6; have HB6:=Lib.hid hb6; rw [hlen]; clear hr6 hb6 hg6 hat6 h16 hlen)
      go_roundw
      case rel=>
       refine ⟨c + 1,by omega,by go_num,Lib.hid (FMade.next hmm.out H06.out H16.out ?_ ?_ (Nat.le_trans HS5.out HB6.out.size))⟩
       · rw [b6z,<- HQQ.out]; exact HR6.out
       · have hm:=hmm.out
         have hs:=HH.out.2.2.2.2
         exact (HH.out.2.2.2.1.trans (HB5.out.mono (by omega))).trans (HB6.out.mono (by omega))
      case measure=>simp [intOf]; omega
    · have hpe : a0o b (c : Int) = []:=List.eq_nil_of_length_eq_zero (by omega)
      rw [hpe,b6x]
      have HQ : Hid (a1g b c = []):=by show _ = _; unfold a1g; rw [if_neg hp0]
      clear hp0 hpe
      rintro e w' ⟨rfl,rfl⟩
      have h15:=a0i HH.out.1 HB3.out
      have H05:=Lib.hid (a0i HH.out.2.1 HB3.out)
      obtain ⟨⟨ca,cb,cc⟩,fa,fb,fc⟩:=cell3 h15
      have H15:=Lib.hid h15
      have hm1l:=a0f h15
      have hm1n : ¬ m1 = w3.heap.size:=by omega
      have hm1n' : ¬ w3.heap.size = m1:=by omega
      have HS5 : Hid (W2.heap.size <= w3.heap.size):=Lib.hid (Nat.le_trans HH.out.2.2.2.2 HB3.out.size)
      have HB5' : Hid (Below W2.heap.size w3 w3):=Below.refl _ _
      have HL : Hid (((a1Y b c).length + 1) * 24 <= 140737488355328):=by show _ <= _; rw [a7J]; omega
      have HO5:=Lib.hid (Kd.R_below HH.out.2.2.1 HB3.out)
      clear h15
      go_wp2_with (at_builtin; refine Kd.R_append kq (w0:=w3) (W:=w3) W2.heap.size rfl (.tmp 32) (.tmp 34) 24 84 (.slice none 0 0) 24 rfl Tryz.underlying24 a7s rfl (by decide) (by decide) (.slice A1 c c1) (a1Y b c) [] [.slice none 0 0] (λ _=>True) (λ _=>False) rfl (by simp [go_sem]) ⟨_,rfl,Kd.R_nil _ _ _ _ _⟩ (λ _ h=>h.elim) (λ _ _=>trivial) HO5.out HB5'.out HS5.out HL.out ?_; intro v1 w6 hr6 hb6 hg6 hat6; have h16:=a1e H15.out hg6 (λ e=>by have:=(HOwn.out _ e.symm).1; have:=hmm.out; omega); have H16:=Lib.hid h16; have H06:=Lib.hid (a1e H05.out hg6 (λ e=>by have:=(HOwn.out _ e.symm).1; have:=hmm.out; omega)); obtain ⟨⟨da,db,dc⟩,ga,gb,gc⟩:=cell3 h16; obtain ⟨A2,c2,rfl⟩:=Kd.R_slice hr6; have hlen : (a1Y b c ++ [([] : List Int)]).length = c + 1:=(by rw [List.length_append,a7J]; rfl); rw [hlen] at hr6; have HR6:=Lib.hid hr6; have HB6:=Lib.hid hb6; rw [hlen]; clear hr6 hb6 hg6 hat6 h16 hlen)
      go_roundw
      case rel=>
       refine ⟨c + 1,by omega,by go_num,Lib.hid (FMade.next hmm.out H06.out H16.out ?_ ?_ (Nat.le_trans HS5.out HB6.out.size))⟩
       · rw [b6z,HQ.out]; exact HR6.out
       · have hm:=hmm.out
         have hs:=HH.out.2.2.2.2
         exact (HH.out.2.2.2.1.trans (HB3.out.mono (by omega))).trans (HB6.out.mono (by omega))
      case measure=>simp [intOf]; omega
  · obtain rfl : c = 256:=by omega
    obtain ⟨A1,c1,h1,h2,h3,h4,h5⟩:=H.out
    obtain ⟨⟨ca,cb,cc⟩,fa,fb,fc⟩:=cell3 h1
    obtain ⟨⟨da,db,dc⟩,ga,gb,gc⟩:=cell3 h2
    have HH:=Lib.hid (And.intro h2 (And.intro h3 (And.intro h4 h5)))
    clear h1 h2 h3 h4 h5 H
    go_wp2_with fail
    have hmm : m0 < W2.heap.size:=a0f H2.out.2.2.2
    refine bodyPost_ret (results_cell_row (fn:=Tryz.f142) (p:=6) (ty:=26) rfl _ _ _ _ _ _ _ rfl (a1K HH.out.1 _ _ _) Tryz.underlying26 rfl a5E) rfl ?_
    have hw0:=HM0.out
    subst hw0
    refine ⟨_,rfl,?_,((HH.out.2.2.1.setCell (Nat.le_refl _) _).setCell (Nat.le_refl _) _).setCell (Nat.le_refl _) _⟩
    have e : a1Y b 256 = a0A b:=rfl
    have h4 : kq.R 84 wr w.heap.size (λ k=>k ≠ w.heap.size) (.slice A1 256 c1) (a0A b):=Kd.R_mono (Kd.R_lower (Kd.R_bound HH.out.2.1) (by omega)) (λ k hk=>by have:=hk.2.1; omega)
    exact Kd.R_mono (a2P h4 _ _ _) (λ _ _=>trivial)
def b6A (b : List Int) (w : World) (e : Ending) (w' : World) : Prop:=
 (b.length = 0 /\ e = .returned (.tuple #[.agg #[.int .i64 0,.bool false,.slice none 0 0],.int .i64 1]) /\ Below w.heap.size w w') \/
 (0 < b.length /\ ∃ Av cv,e = .returned (.tuple #[.agg #[.int .i64 (a0p b : Nat),.bool false,.slice Av 256 cv],.int .i64 0]) /\ kq.R 84 w' w.heap.size (λ _=>True) (.slice Av 256 cv) (a0A b) /\ Below w.heap.size w w')
set_option maxRecDepth 100000 in
theorem c6M (A : Option Addr) (cp : Nat) (w : World) : Calls Tryz.prog 101 #[.slice A 0 cp] w (b6A [] w):=by
 obtain ⟨W1,hW1⟩ : ∃ W1,W1 = (w.alloc (.cells #[.slice A 0 cp] 22)).alloc (.cells #[.int .i64 0,.bool false,.slice none 0 0] 26):=⟨_,rfl⟩
 have hb1 : Below w.heap.size w W1:=by rw [hW1]; exact ((Below.refl w.heap.size w).alloc (Nat.le_refl _) _).alloc (by simp) _
 have hk1 : W1.heap[w.heap.size + 1]? = some (.cells #[.int .i64 0,.bool false,.slice none 0 0] 26 (0,0)):=by rw [hW1]; exact a2z _ _ _
 have hk0 : W1.heap[w.heap.size]? = some (.cells #[.slice A 0 cp] 22 (0,0)):=by rw [hW1]; exact a0n (a0k _ _) _
 have hc0 : W1.cell? ⟨w.heap.size,0,none⟩ = some (.slice A 0 cp):=(a0a hk0 0).trans rfl
 obtain ⟨m,hm⟩ : ∃ m,m = w.heap.size + 1:=⟨_,rfl⟩
 have HM:=Lib.hid hm
 rw [<- hm] at hk1
 obtain ⟨⟨ca,cb,cc⟩,fa,fb,fc⟩:=cell3 hk1
 have HB:=Lib.hid hb1
 have HK:=Lib.hid hk1
 clear hb1 hk1 hk0
 go_enter Tryz.func101,Tryz.ntmps101
 go_wp2_with fail
 rw [<- hW1,<- hm]
 clear hW1 hm
 go_wp2_with fail
 refine bodyPost_ret (a1X (fn:=Tryz.f101) (p:=2) (u:=3) (ty:=26) rfl _ _ _ _ rfl (a1L HK.out)) rfl ?_
 exact .inl ⟨rfl,rfl,HB.out⟩
theorem a5b {w w' : World} {m j : Nat} {c : Value} (hb : Below w.heap.size w w') (hc : w.cell? ⟨m,j,none⟩ = some c) (hf : w.frozen? ⟨m,j,none⟩ = false) : w'.frozen? ⟨m,j,none⟩ = false:=by
 rw [hb.frozen (p:=⟨m,j,none⟩) (World.block_lt_of_cell? w _ hc)]; exact hf
def SF (W1 : World) (p m n cp : Nat) (A : Option Addr) (W : World) : Prop:=Below W1.heap.size W1 W /\ W.cell? ⟨p,0,none⟩ = some (.slice A n cp) /\ W.cell? ⟨m,0,none⟩ = some (.int .i64 0) /\ W.cell? ⟨m,1,none⟩ = some (.bool false) /\ W.cell? ⟨m,2,none⟩ = some (.slice none 0 0) /\ W.frozen? ⟨m,0,none⟩ = false /\ W.frozen? ⟨m,1,none⟩ = false /\ W.frozen? ⟨m,2,none⟩ = false
theorem SF.keep {W1 W w' : World} {p m n cp : Nat} {A : Option Addr} (h : SF W1 p m n cp A W) (hb : Below W.heap.size W w') : SF W1 p m n cp A w':=
 ⟨a0g h.1 hb,a0t hb h.2.1,a0t hb h.2.2.1,a0t hb h.2.2.2.1,a0t hb h.2.2.2.2.1,a5b hb h.2.2.1 h.2.2.2.2.2.1,a5b hb h.2.2.2.1 h.2.2.2.2.2.2.1,a5b hb h.2.2.2.2.1 h.2.2.2.2.2.2.2⟩
theorem SF.drew {W1 W : World} {p m n cp : Nat} {A : Option Addr} (h : SF W1 p m n cp A W) : SF W1 p m n cp A W.drew:=
 ⟨h.1.drew,h.2.1,h.2.2.1,h.2.2.2.1,h.2.2.2.2.1,h.2.2.2.2.2.1,h.2.2.2.2.2.2.1,h.2.2.2.2.2.2.2⟩
set_option maxRecDepth 100000 in
set_option maxHeartbeats 4000000 in
theorem b6B (A : Option Addr) (cp : Nat) (b : List Int) (w : World) (hr : (Kd.int .u8).C w A b.length b) (hb : Bytes b) (hl : b.length <= 1000000) (h0 : 0 < b.length) :
    Calls Tryz.prog 101 #[.slice A b.length cp] w (b6A b w):=by
 have hne : ((b.length : Int) == 0) = false:=by simp; intro e; subst e; simp at h0
 have hne2 : ¬ b = []:=by intro e; subst e; simp at h0
 obtain ⟨n,hn⟩ : ∃ n,n = b.length:=⟨_,rfl⟩
 rw [<- hn] at hne
 obtain ⟨W1,hW1⟩ : ∃ W1,W1 = (w.alloc (.cells #[.slice A n cp] 22)).alloc (.cells #[.int .i64 0,.bool false,.slice none 0 0] 26):=⟨_,rfl⟩
 have hb1 : Below w.heap.size w W1:=by rw [hW1]; exact ((Below.refl w.heap.size w).alloc (Nat.le_refl _) _).alloc (by simp) _
 have hk1 : W1.heap[w.heap.size + 1]? = some (.cells #[.int .i64 0,.bool false,.slice none 0 0] 26 (0,0)):=by rw [hW1]; exact a2z _ _ _
 have hk0 : W1.heap[w.heap.size]? = some (.cells #[.slice A n cp] 22 (0,0)):=by rw [hW1]; exact a0n (a0k _ _) _
 have hc0 : W1.cell? ⟨w.heap.size,0,none⟩ = some (.slice A n cp):=(a0a hk0 0).trans rfl
 obtain ⟨m,hm⟩ : ∃ m,m = w.heap.size + 1:=⟨_,rfl⟩
 have HM:=Lib.hid hm
 rw [<- hm] at hk1
 obtain ⟨p,hp⟩ : ∃ p,p = w.heap.size:=⟨_,rfl⟩
 have HPp:=Lib.hid hp
 rw [<- hp] at hk0 hc0
 obtain ⟨⟨ca,cb,cc⟩,fa,fb,fc⟩:=cell3 hk1
 have s0 : SF W1 p m n cp A W1:=⟨Below.refl _ _,hc0,ca,cb,cc,fa,fb,fc⟩
 have HK:=Lib.hid (And.intro hk1 hk0)
 have hrz:=a2y b
 have HX:=Lib.hid (And.intro hb (And.intro hl (And.intro h0 (And.intro hb1 hn))))
 have HR1:=Lib.hid (Kd.C_below hr hb1)
 have hW256:=a7k b 256
 obtain ⟨wd,hwd⟩ : ∃ wd,wd = widN b 256:=⟨_,rfl⟩
 have hw256 : wd <= 256:=by omega
 have HWd:=Lib.hid hwd
 have hn6 : n <= 1000000:=by omega
 have HCW : Hid (∀ W : World,Below W1.heap.size W1 W -> Calls Tryz.prog 144 #[.slice A n cp] W λ e w'=>e = .returned (.int .i64 wd) /\ Below W.heap.size W w'):=Lib.hid λ W hW=>by
  have:=c6J A cp b W (Kd.C_below HR1.out hW) hl hb
  rw [<- hn,<- hwd] at this; exact this
 obtain ⟨rz,hrz1⟩ : ∃ rz,rz = a0p b:=⟨_,rfl⟩
 have HRZ:=Lib.hid hrz1
 have hpk : pickI n wd 9 = (rz : Int):=by rw [hn,hwd,hrz1]; exact hrz.1
 have HPk : Hid (∀ W : World,Calls Tryz.prog 143 #[.int .i64 n,.int .i64 wd,.int .i64 9] W λ e w'=>e = .returned (.int .i64 rz) /\ Below W.heap.size W w'):=Lib.hid λ W=>by
  have:=b5F n wd 9 W hn6 (by omega)
  rw [hpk] at this; exact this
 have HMd : Hid (∀ W : World,Below W1.heap.size W1 W -> Calls Tryz.prog 142 #[.int .i64 rz,.int .i64 256,.func (Fn.func 145) #[] #[.pointer (some ⟨p,0,none⟩)]] W λ e w'=>∃ Av cv,e = .returned (.agg #[.int .i64 rz,.bool false,.slice Av 256 cv]) /\ kq.R 84 w' W1.heap.size (λ _=>True) (.slice Av 256 cv) (a0A b) /\ Below W.heap.size W w'):=Lib.hid λ W hW=>by
  have h7:=a0i hk0 hW
  rw [hn] at h7
  have:=c6L p cp A b W h7 (Kd.C_below HR1.out hW) hl hb
  rw [<- hrz1] at this
  refine this.mono ?_
  rintro e w' ⟨v,rfl,hv,hb⟩
  obtain ⟨Av,cv,rfl⟩:=Kd.R_slice hv
  rw [a7q] at hv ⊢
  exact ⟨Av,cv,rfl,Kd.R_lower hv hW.size,hb⟩
 have hmf : ∀ (fn : Fn) (first cap : Array Value) (w : World),(Instr.makeFunc fn first cap).run Tryz.prog w = .ok (.func fn first cap) w:=λ _ _ _ _=>rfl
 rw [<- hn]
 clear hr hb hl h0 hb1 hk1 hk0 hn hrz hwd hrz1 hpk hW256
 go_enter Tryz.func101,Tryz.ntmps101
 go_wp2_with fail
 rw [<- hW1,<- hm,<- hp]
 clear hW1 hm hp
 go_wp2_with fail
 go_region_law (first
  | (go_simp; go_at_call 144; refine (HCW.out _ (by first | exact And.left ‹SF _ _ _ _ _ _ _› | exact (SF.drew ‹SF _ _ _ _ _ _ _›).1)).mono ?_; rintro e w' ⟨rfl,hb⟩; have s1:=(by first | exact SF.keep ‹_› hb | exact SF.keep (SF.drew ‹_›) hb : SF W1 p m n cp A w'); obtain ⟨g0,g1,g2,g3,g4,g5,g6,g7⟩:=id s1)
  | (go_simp; go_at_call 143; refine (HPk.out _).mono ?_; rintro e w' ⟨rfl,hb⟩; have s1:=(by first | exact SF.keep ‹_› hb | exact SF.keep (SF.drew ‹_›) hb : SF W1 p m n cp A w'); obtain ⟨g0,g1,g2,g3,g4,g5,g6,g7⟩:=id s1)
  | (go_simp; go_at_call 142; refine (HMd.out _ (by first | exact And.left ‹SF _ _ _ _ _ _ _› | exact (SF.drew ‹SF _ _ _ _ _ _ _›).1)).mono ?_; rintro e w' ⟨Av,cv,rfl,hv,hb⟩; have s1:=(by first | exact SF.keep ‹_› hb | exact SF.keep (SF.drew ‹_›) hb : SF W1 p m n cp A w'); obtain ⟨g0,g1,g2,g3,g4,g5,g6,g7⟩:=id s1))
 all_goals
  have HV:=Lib.hid hv
  have HS:=Lib.hid s1
  go_wp2_with fail
  refine bodyPost_ret (a1X (fn:=Tryz.f101) (p:=2) (u:=3) (ty:=26) rfl _ _ _ _ rfl (a1L (a1K (a0i HK.out.1 HS.out.1) _ _ _))) rfl ?_
  have hle : w.heap.size <= m:=by have:=HM.out; omega
  have hlt : m < W1.heap.size:=a0f HK.out.1
  have hB : Below w.heap.size w w':=a0g HX.out.2.2.2.1 HS.out.1
  have h4 : kq.R 84 w' w.heap.size (λ k=>k ≠ m) (.slice Av 256 cv) (a0A b):=Kd.R_mono (Kd.R_lower (Kd.R_bound HV.out) (by omega)) (λ k hk=>by have:=hk.2.1; omega)
  exact .inr ⟨HX.out.2.2.1,Av,cv,(by rw [<- HRZ.out]; rfl),Kd.R_mono (a2P h4 _ _ _) (λ _ _=>trivial),((hB.setCell hle _).setCell hle _).setCell hle _⟩
theorem b0o (A : Option Addr) (n c k : Nat) (hk : k <= n) : ∀ W : World,(Instr.slice 22 (.slice A n c) (some (.int .i64 (k : Int))) none none).run Tryz.prog W = .ok (.slice (if c = k then A else A.map (·.add (k * 1))) (n - k) (c - k)) W:=by
 intro W
 obtain ⟨i0,hi0,hz0,hz1,hz2⟩:=info_parts a0w
 have:=b8c (P:=Tryz.prog) 22 5 .i64 Tryz.underlying22 hi0 1 hz1 A n c (k : Int) (by omega) (by omega) W
 simp only [Int.toNat_natCast] at this
 exact this
theorem cell2 {w : World} {mb : Nat} {a b : Value} {t : Nat} (h : w.heap[mb]? = some (.cells #[a,b] t (0,0))) : (w.cell? ⟨mb,0,none⟩ = some a /\ w.cell? ⟨mb,1,none⟩ = some b) /\ (w.frozen? ⟨mb,0,none⟩ = false /\ w.frozen? ⟨mb,1,none⟩ = false):=
 ⟨⟨(a0a h 0).trans rfl,(a0a h 1).trans rfl⟩,a0e h 0,a0e h 1⟩
set_option maxRecDepth 100000 in
set_option maxHeartbeats 1000000 in
theorem a3m (n k : Nat) (w : World) (hn : n < 4294967296) (hk : k <= 4) :
    Calls Tryz.prog 84 #[.int .u32 n,.int .i64 k] w (λ e w'=>∃ v,e = .returned v /\ (Kd.int .u8).R 5 w' w.heap.size (λ _=>True) v (leN n k) /\ Below w.heap.size w w'):=by
 go_enter Tryz.func84,Tryz.ntmps84
 go_wp2_with fail
 go_loopw [5,6,8] (λ v _ kv wr=>∃ i : Nat,i <= k /\ kv = .int .i64 i /\ Hid ((Kd.int .u8).R 5 wr w.heap.size (λ _=>True) v (leN n i) /\ Below w.heap.size w wr)) (λ _ _ kv _=>k - (intOf kv).toNat)
 case atStart=>exact ⟨0,by omega,rfl,Lib.hid ⟨Kd.R_nil _ _ _ _ _,Below.refl _ _⟩⟩
 case round=>
  obtain ⟨i,hi,rfl,H⟩:=hrel
  by_cases hlt : i < k
  · obtain ⟨Av,cv,rfl⟩:=Kd.R_slice H.out.1
    have hI : (i : Int) < (k : Int):=by omega
    have HN:=Lib.hid (b6j n i)
    have hLl : (leN n i).length = i:=a2R n i
    obtain ⟨L,hL⟩ : ∃ L,L = leN n i:=⟨_,rfl⟩
    rw [<- hL] at H HN hLl ⊢
    have HLn : Hid ((L.length + 1) * 1 <= 140737488355328):=Lib.hid (by omega)
    have HE : Hid (∀ y : Int,y = ((n / 256 ^ i % 256 : Nat) : Int) -> leN n (i + 1) = L ++ [y]):=Lib.hid (λ y hy=>by rw [hy]; exact HN.out)
    have hi4 : i = 0 \/ i = 1 \/ i = 2 \/ i = 3:=by omega
    clear hL HN
    rcases hi4 with rfl | rfl | rfl | rfl
    all_goals
     go_wp2_with (at_builtin; refine a8q .u8 (w0:=w) (W:=wr) rfl (.tmp 11) (.tmp 17) 22 5 1 rfl Tryz.underlying22 a0w (by decide) _ _ _ rfl rfl H.out.1 H.out.2 HLn.out ?_; intro v1 w3 hr3 hb3 hg3 hat3; have HA:=Lib.hid (And.intro hr3 hb3); clear hr3 hb3 hg3 hat3)
     go_roundw
     case rel=>
      have hnn:=hn
      have HV:=HA.out.1
      first
       | exact ⟨0 + 1,by omega,by go_num,Lib.hid ⟨by rw [HE.out ((n : Int) % 256) (by clear HA HV; first | rfl | (simp; done) | (simp; omega))]; exact HV,HA.out.2⟩⟩
       | exact ⟨1 + 1,by omega,by go_num,Lib.hid ⟨by rw [HE.out ((n : Int) / 256 % 256) (by clear HA HV; first | rfl | (simp; done) | (simp; omega))]; exact HV,HA.out.2⟩⟩
       | exact ⟨2 + 1,by omega,by go_num,Lib.hid ⟨by rw [HE.out ((n : Int) / 65536 % 256) (by clear HA HV; first | rfl | (simp; done) | (simp; omega))]; exact HV,HA.out.2⟩⟩
       | exact ⟨3 + 1,by omega,by go_num,Lib.hid ⟨by rw [HE.out ((n : Int) / 16777216) (by clear HA HV; simp; omega)]; exact HV,HA.out.2⟩⟩
     case measure=>simp [intOf]; omega
  · obtain rfl : i = k:=by omega
    go_wp2_with fail
    go_ret
    exact ⟨_,rfl,H.out.1,H.out.2⟩
theorem c6N (fs : List Int) (i : Nat) : rdN fs (i + 1) = rdN fs i + (fs.getD i 0).toNat * 256 ^ i:=rfl
theorem a7K (a : Nat) (ha : a < 9223372036854775808) : (BitVec.ofInt 64 (a : Int)).toNat = a:=by
 have h : BitVec.ofInt 64 (a : Int) = BitVec.ofNat 64 a:=BitVec.ofInt_natCast 64 a
 rw [h,BitVec.toNat_ofNat,Nat.mod_eq_of_lt (by omega)]
theorem b6D (a b : Nat) (ha : a < 4294967296) (hb : b < 4294967296) : bits .or .i64 (a : Int) (b : Int) = ((a ||| b : Nat) : Int):=by
 have hx : a ||| b < 2 ^ 32:=Nat.or_lt_two_pow (by omega) (by omega)
 show IntKind.i64.wrap ((BitVec.ofInt 64 (a : Int) ||| BitVec.ofInt 64 (b : Int)).toNat : Int) = _
 rw [BitVec.toNat_or,a7K a (by omega),a7K b (by omega),IntKind.wrap_i64]
 omega
theorem c6O {n x : Nat} (i : Nat) (hi : i <= 3) (hn : n < 256 ^ i) (hx : x < 256) : bits .or .i64 (n : Int) ((x * 256 ^ i : Nat) : Int) = ((n + x * 256 ^ i : Nat) : Int):=by
 have h3 : (256 : Nat) ^ i = 2 ^ (8 * i):=by rw [Nat.pow_mul]
 have h4 : (256 : Nat) ^ i <= 256 ^ 3:=Nat.pow_le_pow_right (by decide) hi
 have h5 : x * 256 ^ i <= 255 * 256 ^ 3:=Nat.mul_le_mul (by omega) h4
 have h6 : (256 : Nat) ^ 3 = 16777216:=by decide
 rw [b6D n _ (by omega) (by omega)]
 congr 1
 rw [Nat.or_comm,nat_join (8 * i) _ _ (by rw [<- h3]; exact Nat.mul_mod_left _ _) (by rw [<- h3]; exact hn),Nat.add_comm]
structure RdB (w0 : World) (p : Nat) (fs : List Int) (sh : Bool) (w : World) : Prop where
 ex : ∃ A c,w.heap[p]? = some (.cells #[.slice A fs.length c,.bool sh] 179 (0,0)) /\ (Kd.int .u8).C w0 A fs.length fs /\ fs.length <= c
 lo : w0.heap.size <= p
 bel : Below w0.heap.size w0 w
theorem RdB.later {w0 : World} {p : Nat} {fs : List Int} {sh : Bool} {w w' : World} (h : RdB w0 p fs sh w) (ho : Only (λ j=>j ≠ p /\ w0.heap.size <= j) w w') : RdB w0 p fs sh w':=by
 obtain ⟨A,c,h1,h2,h3⟩:=h.ex
 refine ⟨⟨A,c,(ho.block p (a0f h1) (λ h=>h.1 rfl)).trans h1,h2,h3⟩,h.lo,h.bel.trans (ho.below h.bel.size (λ k hk=>hk.2))⟩
def b6E (w0 : World) (p k : Nat) (fs : List Int) (sh : Bool) (w : World) (e : Ending) (w' : World) : Prop:=
 e = .returned (.int .i64 (rdN fs (min k fs.length) : Nat)) /\ RdB w0 p (fs.drop k) (sh || decide (fs.length < k)) w' /\ Only (λ j=>j = p) w w'
def NumAt (w0 : World) (p i : Nat) (fs : List Int) (sh : Bool) (w wr : World) : Prop:=RdB w0 p (fs.drop i) sh wr /\ Only (λ j=>j = p) w wr
theorem c6P (A : Option Addr) (n c : Nat) (hn : 1 <= n) : ∀ W : World,(Instr.slice 22 (.slice A n c) (some (.int .i64 1)) none none).run Tryz.prog W = .ok (.slice (if c = 1 then A else A.map (·.add (1 * 1))) (n - 1) (c - 1)) W:=b0o A n c 1 hn
set_option maxRecDepth 100000 in
set_option maxHeartbeats 1000000 in
theorem a4n (w0 : World) (p k : Nat) (fs : List Int) (sh : Bool) (w : World) (h : RdB w0 p fs sh w) (hk : k <= 4) (hb : Bytes fs) (hl : fs.length <= 1000000) :
    Calls Tryz.prog 137 #[.pointer (some ⟨p,0,none⟩),.int .i64 k] w (b6E w0 p k fs sh w):=by
 have HH:=Lib.hid h
 have HB:=Lib.hid hb
 clear h hb
 go_enter Tryz.func137,Tryz.ntmps137
 go_wp2_with fail
 go_step3
 go_wp2_with fail
 go_step3
 go_wp2_with fail
 go_loopw [5,6,8] (λ nv _ kv wr=>∃ i : Nat,i <= k /\ i <= fs.length /\ nv = .int .i64 (rdN fs i : Nat) /\ kv = .int .i64 i /\ Hid (NumAt w0 p i fs sh w wr)) (λ _ _ kv _=>k - (intOf kv).toNat)
 case atStart=>exact ⟨0,by omega,by omega,rfl,rfl,Lib.hid ⟨HH.out,Only.refl _ _⟩⟩
 case round=>
  obtain ⟨i,hi,hif,rfl,rfl,H⟩:=hrel
  by_cases hlt : i < k
  · have hI : (i : Int) < (k : Int):=by omega
    obtain ⟨A,c,kb,kC,kc⟩:=H.out.1.ex
    have hdl : (fs.drop i).length = fs.length - i:=List.length_drop
    by_cases hlf : i < fs.length
    · obtain ⟨m,hm⟩ : ∃ m,m = (fs.drop i).length:=⟨_,rfl⟩
      have hm1 : 1 <= m:=by omega
      have hm0 : ((m : Int) == 0) = false:=by simp; omega
      have hm2 : (0 : Int) < (m : Int):=by omega
      have hm6 : m <= 1000000:=by omega
      rw [<- hm] at kb kc
      obtain ⟨⟨ca,cb⟩,fa,fb⟩:=cell2 kb
      obtain ⟨ad,hA,hcx0⟩:=a0v kC 0 (by omega)
      have hcx:=a0t H.out.1.bel hcx0
      have e0 : ad.add 0 = ad:=by simp [Addr.add]
      rw [e0] at hcx
      have hg0 : (fs.drop i).getD 0 0 = fs.getD i 0:=by rw [List.getD_eq_getElem?_getD,List.getElem?_drop,Nat.add_zero,<- List.getD_eq_getElem?_getD]
      rw [hg0] at hcx
      have hby:=HB.out.get i
      obtain ⟨x,hx⟩ : ∃ x : Nat,fs.getD i 0 = x:=⟨(fs.getD i 0).toNat,by omega⟩
      rw [hx] at hcx hby
      have hxl : x < 256:=by omega
      have hrn : rdN fs (i + 1) = rdN fs i + x * 256 ^ i:=by rw [c6N,hx,Int.toNat_natCast]
      have hr0:=a2E HB.out i
      have hor:=c6O i (by omega) hr0 hxl
      rw [<- hrn] at hor
      obtain ⟨r,hr⟩ : ∃ r,r = rdN fs i:=⟨_,rfl⟩
      rw [<- hr] at hor hr0
      have hsl:=c6P A m c hm1
      have hdd:=Kd.C_drop (c:=c) (m:=1) kC (by omega) (by omega)
      obtain ⟨A',hA'⟩ : ∃ A',A' = (if c = 1 then A else A.map (·.add (1 * 1))):=⟨_,rfl⟩
      have hdd2 : (Kd.int .u8).C w0 A' ((fs.drop i).drop 1).length ((fs.drop i).drop 1):=by rw [hA']; exact hdd
      rw [<- hA'] at hsl
      rw [List.drop_drop] at hdd2
      have hml : m - 1 = (fs.drop (i + 1)).length:=by rw [List.length_drop]; omega
      have HK:=Lib.hid (And.intro kb (And.intro hdd2 (And.intro (by rw [<- hml]; omega : (fs.drop (i + 1)).length <= c - 1) hml)))
      have HO:=Lib.hid (H.out)
      have HOr:=Lib.hid hor
      rw [<- hr]
      subst hA
      have hi4 : i = 0 \/ i = 1 \/ i = 2 \/ i = 3:=by omega
      clear hdl hm hg0 hx hby hrn hr hdd hA' hdd2 hml kC kb e0 hor hcx0
      rcases hi4 with rfl | rfl | rfl | rfl
      all_goals
       go_wp2_with fail
       go_roundw
       case rel=>exact ⟨_,by omega,by omega,by first | exact congrArg _ HOr.out | (simp at HOr ⊢; exact HOr.out),by go_num,Lib.hid ⟨⟨⟨A',c - 1,by rw [<- HK.out.2.2.2]; exact a0u HK.out.1 0 _,HK.out.2.1,HK.out.2.2.1⟩,HO.out.1.lo,HO.out.1.bel.setCell HO.out.1.lo _⟩,HO.out.2.setCell rfl _⟩⟩
       case measure=>simp [intOf]; omega
    · obtain rfl : i = fs.length:=by omega
      rw [List.drop_length] at kb kC kc
      obtain ⟨⟨ca,cb⟩,fa,fb⟩:=cell2 kb
      have HK:=Lib.hid (And.intro kb (And.intro kC kc))
      have HO:=Lib.hid (H.out)
      have HM : Hid (min k fs.length = fs.length /\ fs.drop k = [] /\ (sh || decide (fs.length < k)) = true):=Lib.hid ⟨by omega,List.drop_eq_nil_of_le (by omega),by rw [decide_eq_true hlt]; simp⟩
      clear kb kC kc hdl
      go_wp2_with fail
      go_ret
      refine ⟨by rw [HM.out.1]; rfl,?_,HO.out.2.setCell rfl _⟩
      rw [HM.out.2.1,HM.out.2.2]
      exact ⟨⟨A,c,a0u HK.out.1 1 _,HK.out.2.1,HK.out.2.2⟩,HO.out.1.lo,HO.out.1.bel.setCell HO.out.1.lo _⟩
  · obtain rfl : i = k:=by omega
    have HM : Hid (min i fs.length = i /\ (sh || decide (fs.length < i)) = sh):=Lib.hid ⟨by omega,by rw [decide_eq_false (by omega)]; simp⟩
    go_wp2_with fail
    go_ret
    refine ⟨by rw [HM.out.1]; rfl,?_,H.out.2⟩
    rw [HM.out.2]
    exact H.out.1
set_option maxRecDepth 100000 in
set_option maxHeartbeats 1000000 in
theorem a3n (n k : Nat) (w : World) (hn : n < 4294967296) (hk : k <= 4) :
    Calls Tryz.prog 88 #[.int .i64 n,.int .i64 k] w (λ e w'=>∃ v,e = .returned v /\ (Kd.int .u8).R 5 w' w.heap.size (λ _=>True) v (leN n k) /\ Below w.heap.size w w'):=by
 go_enter Tryz.func88,Tryz.ntmps88
 go_wp2_with fail
 go_loopw [0,5,6] (λ nv v kv wr=>∃ i : Nat,i <= k /\ nv = .int .i64 ((n / 256 ^ i : Nat) : Int) /\ kv = .int .i64 i /\ Hid ((Kd.int .u8).R 5 wr w.heap.size (λ _=>True) v (leN n i) /\ Below w.heap.size w wr)) (λ _ _ kv _=>k - (intOf kv).toNat)
 case atStart=>exact ⟨0,by omega,by simp,rfl,Lib.hid ⟨Kd.R_nil _ _ _ _ _,Below.refl _ _⟩⟩
 case round=>
  obtain ⟨i,hi,rfl,rfl,H⟩:=hrel
  by_cases hlt : i < k
  · obtain ⟨Av,cv,rfl⟩:=Kd.R_slice H.out.1
    have hI : (i : Int) < (k : Int):=by omega
    have HN:=Lib.hid (b6j n i)
    have hLl : (leN n i).length = i:=a2R n i
    obtain ⟨L,hL⟩ : ∃ L,L = leN n i:=⟨_,rfl⟩
    have hdv : n / 256 ^ (i + 1) = n / 256 ^ i / 256:=by rw [Nat.pow_succ,Nat.div_div_eq_div_mul]
    have HDV:=Lib.hid hdv
    have hml : n / 256 ^ i < 4294967296:=Nat.lt_of_le_of_lt (Nat.div_le_self _ _) hn
    obtain ⟨m,hm⟩ : ∃ m,m = n / 256 ^ i:=⟨_,rfl⟩
    rw [<- hm] at HN HDV hml ⊢
    rw [<- hL] at H HN hLl ⊢
    have HLn : Hid ((L.length + 1) * 1 <= 140737488355328):=Lib.hid (by omega)
    have h1 : (m : Int).tmod 256 = ((m % 256 : Nat) : Int):=by rw [Int.tmod_eq_emod_of_nonneg (by omega)]; omega
    have h2 : (m : Int).tdiv 256 = ((m / 256 : Nat) : Int):=by rw [Int.tdiv_eq_ediv_of_nonneg (by omega)]; omega
    have HE : Hid (∀ y : Int,y = ((m % 256 : Nat) : Int) -> leN n (i + 1) = L ++ [y]):=Lib.hid (λ y hy=>by rw [hy]; exact HN.out)
    clear hL HN hm hdv
    go_wp2_with (at_builtin; refine a8q .u8 (w0:=w) (W:=wr) rfl (.tmp 12) (.tmp 16) 22 5 1 rfl Tryz.underlying22 a0w (by decide) _ _ _ rfl rfl H.out.1 H.out.2 HLn.out ?_; intro v1 w3 hr3 hb3 hg3 hat3; have HA:=Lib.hid (And.intro hr3 hb3); clear hr3 hb3 hg3 hat3)
    go_roundw
    case rel=>
     refine ⟨i + 1,by omega,?_,by go_num,Lib.hid ⟨?_,HA.out.2⟩⟩
     · rw [HDV.out]; clear HA; first | rfl | (simp; done) | (simp; omega)
     · rw [HE.out ((m : Int) % 256) (by clear HA; simp)]; exact HA.out.1
    case measure=>simp [intOf]; omega
  · obtain rfl : i = k:=by omega
    go_wp2_with fail
    go_ret
    exact ⟨_,rfl,H.out.1,H.out.2⟩
end Go.Proofs.YtflfjpkmjnnodaaGreat
namespace Go.Proofs.YtflfjpkmjnnodaaGreat
open Go.RowKit Go.Proofs.YtflfjpkmjnnodaaGreat.PRef Go.Proofs.YtflfjpkmjnnodaaGreatW.PrintWords Go.Proofs.YtflfjpkmjnnodaaGreatW.PrintLast Go.Proofs.YtflfjpkmjnnodaaGreatW.PrintMore
theorem c6Q (n : Nat) (hn : n <= 64) : ∀ (d i v : Nat) (l : List Bool),i + d = n -> v < 4294967296 -> l.length + d <= 1000000000 -> Ev (λ k=>puncheonref01_Put.l0 k v n l i) (l ++ a0j v d):=by
 intro d
 induction d with
 | zero=>
  intro i v l hi _ _
  refine Ev.step (λ k=>(show puncheonref01_Put.l0 (k + 1) _ _ _ _ = _ by simp only [puncheonref01_Put.l0]; rw [if_neg (by omega)])) ?_
  have : a0j v 0 = []:=rfl
  rw [this,List.append_nil]; exact Ev.now _
 | succ d ih=>
  intro i v l hi hv hl
  have h1 : (i : Int) < (n : Int):=by omega
  have h2 : l.length < 140737488355328:=by omega
  have e1 : (Int.tdiv (v : Int) 2) % 4294967296 = ((v / 2 : Nat) : Int):=by
   rw [Int.tdiv_eq_ediv_of_nonneg (by omega)]
   have : ((v : Int) / 2) = ((v / 2 : Nat) : Int):=by simp
   rw [this]; omega
  have e2 : ((Int.tmod (v : Int) 2) == 1) = decide (v % 2 = 1):=by
   rw [Int.tmod_eq_emod_of_nonneg (by omega)]
   by_cases h : v % 2 = 1
   · rw [decide_eq_true h,beq_iff_eq]; omega
   · rw [decide_eq_false h,beq_eq_false_iff_ne]; omega
  refine Ev.step (λ k=>(show puncheonref01_Put.l0 (k + 1) _ _ _ _ = _ by simp only [puncheonref01_Put.l0]; rw [if_pos h1,if_pos h2,e1,e2,wS i (by omega)])) ?_
  have:=ih (i + 1) (v / 2) (l ++ [decide (v % 2 = 1)]) (by omega) (by omega) (by rw [List.length_append,List.length_singleton]; omega)
  rw [b3N,show l ++ decide (v % 2 = 1) :: a0j (v / 2) d = (l ++ [decide (v % 2 = 1)]) ++ a0j (v / 2) d by simp]
  exact this
theorem c6R (l : List Bool) (v n : Nat) (hn : n <= 64) (hv : v < 4294967296) (hl : l.length <= 1000000) : Ev (λ k=>puncheonref01_Put.f k l v n) (l ++ a0j v n):=by
 have h:=c6Q n hn n 0 v l (by omega) hv (by omega)
 refine Ev.congr (λ k=>(show puncheonref01_Put.f k l v n = puncheonref01_Put.l0 k v n ([] ++ l) 0 by unfold puncheonref01_Put.f; rw [Option.bind_some,if_pos (by simp; omega)])) ?_
 rw [List.nil_append]; exact h
def packT (l : List Bool) (i : Nat) : List Int:=(List.range ((l.length + 7) / 8)).map (λ j=>(byteL (((l.take i).drop (8 * j)).take 8) : Int))
theorem a4o (l : List Bool) (i : Nat) : (packT l i).length = (l.length + 7) / 8:=by simp [packT]
theorem a4p (l : List Bool) (i j : Nat) (h : j < (packT l i).length) : (packT l i)[j] = (byteL (((l.take i).drop (8 * j)).take 8) : Int):=by simp [packT]
theorem c6S (l : List Bool) : packT l 0 = List.replicate ((l.length + 7) / 8) 0:=by
 refine List.ext_getElem (by rw [a4o,List.length_replicate]) λ j h1 h2=>?_
 rw [a4p,List.getElem_replicate]; simp [byteL]
theorem c6T (l : List Bool) : packT l l.length = packB l:=by
 unfold packT packB; rw [List.take_length]
theorem a7L {l : List Bool} {i : Nat} (hi : i < l.length) : (((l.take (i + 1)).drop (8 * (i / 8))).take 8) = (((l.take i).drop (8 * (i / 8))).take 8) ++ [l[i]] /\ (((l.take i).drop (8 * (i / 8))).take 8).length = i % 8:=by
 have hl : (l.take i).length = i:=by rw [List.length_take]; omega
 rw [List.take_succ_eq_append_getElem hi,List.drop_append_of_le_length (by omega)]
 have h2 : ((l.take i).drop (8 * (i / 8))).length = i % 8:=by rw [List.length_drop,hl]; omega
 rw [List.take_of_length_le (by rw [List.length_append,h2,List.length_singleton]; omega),List.take_of_length_le (i:=8) (l:=(l.take i).drop (8 * (i / 8))) (by omega)]
 exact ⟨rfl,h2⟩
theorem b6F {l : List Bool} {i j : Nat} (hi : i < l.length) (hj : j ≠ i / 8) : (((l.take (i + 1)).drop (8 * j)).take 8) = (((l.take i).drop (8 * j)).take 8):=by
 have hl : (l.take i).length = i:=by rw [List.length_take]; omega
 rw [List.take_succ_eq_append_getElem hi]
 by_cases h : 8 * j + 8 <= i
 · exact a8M _ _ _ (by omega)
 · rw [List.drop_of_length_le (by rw [List.length_append,hl,List.length_singleton]; omega),List.drop_of_length_le (by omega)]
theorem c6U {l : List Bool} {i : Nat} (hi : i < l.length) (h : l[i] = false) : packT l (i + 1) = packT l i:=by
 refine List.ext_getElem (by rw [a4o,a4o]) λ j h1 h2=>?_
 rw [a4p,a4p]
 by_cases hj : j = i / 8
 · subst hj
   rw [(a7L hi).1,h,a3h]; simp
 · rw [b6F hi hj]
theorem c6V {l : List Bool} {i : Nat} (hi : i < l.length) (h : l[i] = true) : packT l (i + 1) = (packT l i).set (i / 8) ((packT l i).getD (i / 8) 0 + 2 ^ (i % 8)):=by
 have hlen : i / 8 < (packT l i).length:=by rw [a4o]; omega
 refine List.ext_getElem (by rw [a4o,List.length_set,a4o]) λ j h1 h2=>?_
 rw [List.getElem_set,a4p]
 by_cases hj : i / 8 = j
 · subst hj
   rw [if_pos rfl,List.getD_eq_getElem?_getD,List.getElem?_eq_getElem hlen,Option.getD_some,a4p,(a7L hi).1,h,a3h,(a7L hi).2]; simp
 · rw [if_neg hj,a4p,b6F hi (λ e=>hj e.symm)]
theorem c6W (l : List Bool) (i j : Nat) (hj : j < (packT l i).length) : 0 <= (packT l i).getD j 0 /\ (packT l i).getD j 0 < 2 ^ ((((l.take i).drop (8 * j)).take 8).length):=by
 rw [List.getD_eq_getElem?_getD,List.getElem?_eq_getElem hj,Option.getD_some,a4p]
 have:=a4e (((l.take i).drop (8 * j)).take 8)
 have e : (2 : Int) ^ ((((l.take i).drop (8 * j)).take 8).length) = ((2 ^ ((((l.take i).drop (8 * j)).take 8).length) : Nat) : Int):=by simp
 rw [e]; omega
theorem c6X (k : Nat) (h : k < 8) : shl .u8 1 (k : Int) = 2 ^ k:=by
 have : k = 0 \/ k = 1 \/ k = 2 \/ k = 3 \/ k = 4 \/ k = 5 \/ k = 6 \/ k = 7:=by omega
 rcases this with rfl | rfl | rfl | rfl | rfl | rfl | rfl | rfl <;> decide
theorem c6Y (l : List Bool) (hl : l.length <= 1000000) : ∀ (d i : Nat),i + d = l.length -> Ev (λ k=>puncheonref01_Bytes.l0 k l (packT l i) i) (packB l):=by
 intro d
 induction d with
 | zero=>
  intro i hi
  refine Ev.step (λ k=>(show puncheonref01_Bytes.l0 (k + 1) _ _ _ = _ by simp only [puncheonref01_Bytes.l0]; rw [if_neg (by omega)])) ?_
  rw [show i = l.length by omega,c6T]; exact Ev.now _
 | succ d ih=>
  intro i hi
  have hlt : i < l.length:=by omega
  have c1 : (i : Int) < (l.length : Int):=by omega
  have c2 : (0 : Int) <= i:=by omega
  have ih':=ih (i + 1) (by omega)
  have hr : rdOf false l (i : Int) = l[i]:=by
   unfold rdOf; rw [Int.toNat_natCast,List.getD_eq_getElem?_getD,List.getElem?_eq_getElem hlt]; rfl
  cases hb : l[i] with
  | false=>
   rw [c6U hlt hb] at ih'
   refine Ev.step (λ k=>(show puncheonref01_Bytes.l0 (k + 1) _ _ _ = _ by simp only [puncheonref01_Bytes.l0]; rw [if_pos c1,if_pos c2,hr,hb,if_neg (by simp),wS i (by omega)])) ?_
   exact ih'
  | true=>
   rw [c6V hlt hb] at ih'
   have hlen : i / 8 < (packT l i).length:=by rw [a4o]; omega
   have e1 : wrap64 (Int.tdiv (i : Int) 8) = ((i / 8 : Nat) : Int):=by
    rw [Int.tdiv_eq_ediv_of_nonneg (by omega),w64 (by omega)]; simp
   have e2 : Int.tmod (i : Int) 8 = ((i % 8 : Nat) : Int):=by rw [Int.tmod_eq_emod_of_nonneg (by omega)]; simp
   have hrg:=c6W l i (i / 8) hlen
   rw [(a7L hlt).2] at hrg
   have e3 : ((packT l i).getD (i / 8) 0 + 2 ^ (i % 8)) % 256 = (packT l i).getD (i / 8) 0 + 2 ^ (i % 8):=by
    have h1 : (2 : Nat) ^ (i % 8) <= 2 ^ 7:=Nat.pow_le_pow_right (by omega) (by omega)
    have e : (2 : Int) ^ (i % 8) = ((2 ^ (i % 8) : Nat) : Int):=by simp
    rw [e] at hrg ⊢
    omega
   have c3 : (0 : Int) <= ((i / 8 : Nat) : Int):=by omega
   have c4 : ((i / 8 : Nat) : Int) < ((packT l i).length : Int):=by omega
   have c5 : (0 : Int) <= ((i % 8 : Nat) : Int):=by omega
   refine Ev.step (λ k=>(show puncheonref01_Bytes.l0 (k + 1) _ _ _ = _ by simp only [puncheonref01_Bytes.l0]; rw [if_pos c1,if_pos c2,hr,hb,if_pos rfl,e1,e2,if_pos c3,if_pos c4,if_pos c5,a0F,c6X _ (by omega),e3,Int.toNat_natCast,wS i (by omega)])) ?_
   exact ih'
theorem b6G (l : List Bool) (hl : l.length <= 1000000) : Ev (λ k=>puncheonref01_Bytes.f k l) (packB l):=by
 have h:=c6Y l hl l.length 0 (by omega)
 rw [c6S] at h
 have e : wrap64 (Int.tdiv (wrap64 ((l.length : Int) + 7)) 8) = (((l.length + 7) / 8 : Nat) : Int):=by
  rw [w64 (n:=(l.length : Int) + 7) (by omega),Int.tdiv_eq_ediv_of_nonneg (by omega),w64 (by omega)]; simp
 have c1 : (0 : Int) <= (((l.length + 7) / 8 : Nat) : Int):=by omega
 have c2 : (((l.length + 7) / 8 : Nat) : Int).toNat <= 281474976710656:=by omega
 refine Ev.congr (λ k=>(show puncheonref01_Bytes.f k l = puncheonref01_Bytes.l0 k l (List.replicate ((l.length + 7) / 8) 0) 0 by unfold puncheonref01_Bytes.f; rw [e,if_pos c1,if_pos c2,Int.toNat_natCast])) ?_
 exact h
theorem c6Z (l : List Bool) (hl : l.length <= 100000) : Ev (λ k=>puncheonref01_Close.f k l) (packB (l ++ [true])):=by
 have h:=b6G (l ++ [true]) (by rw [List.length_append,List.length_singleton]; omega)
 refine Ev.congr (f:=λ k=>(puncheonref01_Bytes.f k (l ++ [true])).bind λ t=>some t) (λ k=>?_) ?_
 · unfold puncheonref01_Close.f
   have c1 : ([] : List Bool).length + l.length < 140737488355328:=by simp; omega
   have c2 : ([] ++ l : List Bool).length < 140737488355328:=by simp; omega
   rw [Option.bind_some,if_pos c1,Option.bind_some,if_pos c2,List.nil_append]
 · exact Ev.bind h (Ev.now _)
theorem b0p (qs : List (List Int)) (i : Nat) : rd_L3 qs (i : Int) = qs.getD i []:=rfl
def okQ (lg : Int) (one : Bool) (q : List Int) : Bool:=(decide (q.length = 0) && !one) || decide ((logC q : Int) = lg)
theorem c7a (lg : Int) (one : Bool) (qs : List (List Int)) (hl : qs.length <= 1000000) : ∀ (d i : Nat),i + d = qs.length -> Ev (λ k=>puncheonref16_Right.l0 k (i : Int) lg one qs) ((qs.drop i).all (okQ lg one)):=by
 intro d
 induction d with
 | zero=>
  intro i hi
  refine Ev.step (λ k=>(show puncheonref16_Right.l0 (k + 1) _ _ _ _ = _ by simp only [puncheonref16_Right.l0]; rw [if_neg (by omega)])) ?_
  rw [List.drop_of_length_le (by omega)]; exact Ev.now _
 | succ d ih=>
  intro i hi
  have hlt : i < qs.length:=by omega
  have c1 : (i : Int) < (qs.length : Int):=by omega
  have c2 : (0 : Int) <= i:=by omega
  have hd : qs.drop i = qs.getD i [] :: qs.drop (i + 1):=by rw [List.drop_eq_getElem_cons hlt,List.getD_eq_getElem?_getD,List.getElem?_eq_getElem hlt,Option.getD_some]
  rw [hd,List.all_cons]
  have ih':=ih (i + 1) (by omega)
  have hj : ∀ b : Bool,b = (decide ((qs.getD i []).length = 0) && !one) -> Ev (λ k=>puncheonref16_Right.j2 k (i : Int) b lg one qs) (okQ lg one (qs.getD i []) && (qs.drop (i + 1)).all (okQ lg one)):=by
   intro b hb
   unfold okQ
   rw [<- hb]
   cases b with
   | true=>
    refine Ev.step (λ k=>(show puncheonref16_Right.j2 (k + 1) _ _ _ _ _ = _ by simp only [puncheonref16_Right.j2]; rw [if_pos trivial,wS i (by omega)])) ?_
    rw [Bool.true_or,Bool.true_and]; exact ih'
   | false=>
    refine Ev.step (λ k=>(show puncheonref16_Right.j2 (k + 1) _ _ _ _ _ = _ by simp only [puncheonref16_Right.j2]; rw [if_neg (by decide),if_pos c2,if_pos c1,b0p])) ?_
    refine Ev.bind (a7e _) ?_
    by_cases h : (logC (qs.getD i []) : Int) = lg
    · refine Ev.congr (f:=λ k=>puncheonref16_Right.l0 k ((i + 1 : Nat) : Int) lg one qs) (λ k=>by rw [if_pos h,wS i (by omega)]) ?_
      rw [Bool.false_or,decide_eq_true h,Bool.true_and]; exact ih'
    · refine Ev.congr (f:=λ k=>some false) (λ k=>by rw [if_neg h]) ?_
      rw [Bool.false_or,decide_eq_false h,Bool.false_and]; exact Ev.now _
  by_cases h0 : (qs.getD i []).length = 0
  · refine Ev.step (λ k=>(show puncheonref16_Right.l0 (k + 1) _ _ _ _ = _ by simp only [puncheonref16_Right.l0]; rw [if_pos c1,if_pos c2,b0p,if_pos (by omega)])) ?_
    exact hj (!one) (by rw [decide_eq_true h0,Bool.true_and])
  · refine Ev.step (λ k=>(show puncheonref16_Right.l0 (k + 1) _ _ _ _ = _ by simp only [puncheonref16_Right.l0]; rw [if_pos c1,if_pos c2,b0p,if_neg (by omega)])) ?_
    exact hj false (by rw [decide_eq_false h0,Bool.false_and])
theorem c7b {lg : Int} (h1 : 1 <= lg) (q : List Int) : okQ lg false q = !badQ lg q:=by
 unfold okQ badQ
 by_cases h0 : q.length = 0
 · have h2 : ¬ (0 < q.length /\ ¬ (logC q ≠ 0 /\ (logC q : Int) = lg)):=by omega
   rw [decide_eq_true h0,decide_eq_false h2]; simp
 · rw [decide_eq_false h0,Bool.false_and,Bool.false_or]
   by_cases h : (logC q : Int) = lg
   · have h2 : ¬ (0 < q.length /\ ¬ (logC q ≠ 0 /\ (logC q : Int) = lg)):=by omega
     rw [decide_eq_true h,decide_eq_false h2]; rfl
   · have h2 : (0 < q.length /\ ¬ (logC q ≠ 0 /\ (logC q : Int) = lg)):=by omega
     rw [decide_eq_false h,decide_eq_true h2]; rfl
theorem b6H {lg : Int} {one : Bool} {qs : List (List Int)} (h : 1 <= lg /\ lg <= 12) (hl : qs.length = (if one then 1 else 256)) : qs.all (okQ lg one) = a0x lg one qs:=by
 unfold a0x
 rw [if_neg (by omega)]
 have e : ∀ l : List (List Int),l.all (okQ lg false) = !l.any (badQ lg):=λ l=>by
  induction l with
  | nil=>rfl
  | cons a l ih=>rw [List.all_cons,List.any_cons,ih,c7b h.1,Bool.not_or]
 cases one with
 | false=>
  rw [e]
  cases hb : qs.any (badQ lg) with
  | true=>rfl
  | false=>
   simp only [Bool.false_eq_true,if_false] at hl ⊢
   rw [decide_eq_true hl]; rfl
 | true=>
  simp only [if_true] at hl
  obtain ⟨q,rfl⟩:=List.length_eq_one_iff.1 hl
  simp only [List.all_cons,List.all_nil,List.any_cons,List.any_nil,Bool.and_true,Bool.or_false,List.length_singleton,List.getD_cons_zero,true_and,if_true]
  unfold okQ badQ
  by_cases h0 : q.length = 0
  · have h3:=b3A h0
    have h2 : ¬ (0 < q.length /\ ¬ (logC q ≠ 0 /\ (logC q : Int) = lg)):=by omega
    have h4 : ¬ ((logC q : Int) = lg):=by omega
    have h5 : ¬ (0 < q.length):=by omega
    rw [decide_eq_true h0,Bool.not_true,Bool.and_false,Bool.false_or,decide_eq_false h4,decide_eq_false h2,decide_eq_false h5]; rfl
  · rw [decide_eq_false h0,Bool.false_and,Bool.false_or]
    have h5 : 0 < q.length:=by omega
    by_cases h : (logC q : Int) = lg
    · have h2 : ¬ (0 < q.length /\ ¬ (logC q ≠ 0 /\ (logC q : Int) = lg)):=by omega
      rw [decide_eq_true h,decide_eq_false h2,decide_eq_true h5]; rfl
    · have h2 : (0 < q.length /\ ¬ (logC q ≠ 0 /\ (logC q : Int) = lg)):=by omega
      rw [decide_eq_false h,decide_eq_true h2]; rfl
theorem c7c (lg : Int) (one : Bool) (qs : List (List Int)) (hl : qs.length <= 1000000) : Ev (λ k=>puncheonref16_Right.f k lg one qs) (a0x lg one qs):=by
 have hj : ∀ b : Bool,(b = true -> a0x lg one qs = false) -> (b = false -> qs.all (okQ lg one) = a0x lg one qs) -> Ev (λ k=>puncheonref16_Right.j0 k b lg one qs) (a0x lg one qs):=by
  intro b h1 h2
  cases b with
  | true=>
   refine Ev.step (λ k=>(show puncheonref16_Right.j0 (k + 1) _ _ _ _ = _ by simp only [puncheonref16_Right.j0]; rw [if_pos trivial])) ?_
   rw [h1 rfl]; exact Ev.now _
  | false=>
   refine Ev.step (λ k=>(show puncheonref16_Right.j0 (k + 1) _ _ _ _ = _ by simp only [puncheonref16_Right.j0]; rw [if_neg (by decide)])) ?_
   have:=c7a lg one qs hl qs.length 0 (by omega)
   rw [List.drop_zero,h2 rfl] at this
   exact this
 by_cases h1 : lg < 1
 · refine Ev.congr (λ k=>(show puncheonref16_Right.f k lg one qs = _ by unfold puncheonref16_Right.f; rw [if_pos h1])) ?_
   exact hj true (λ _=>by unfold a0x; rw [if_pos (.inl h1)]) (λ h=>by cases h)
 · by_cases h2 : lg > 12
   · refine Ev.congr (λ k=>(show puncheonref16_Right.f k lg one qs = _ by unfold puncheonref16_Right.f; rw [if_neg h1,if_pos h2])) ?_
     exact hj true (λ _=>by unfold a0x; rw [if_pos (.inr h2)]) (λ h=>by cases h)
   · have no : qs.length ≠ (if one then 1 else 256) -> a0x lg one qs = false:=λ hne=>by
       cases hr : a0x lg one qs with
       | false=>rfl
       | true=>exact absurd (a1W hr).2.2.1 hne
     cases one with
     | true=>
      by_cases h3 : (qs.length : Int) = 1
      · refine Ev.congr (λ k=>(show puncheonref16_Right.f k lg true qs = _ by unfold puncheonref16_Right.f; rw [if_neg h1,if_neg h2,if_pos rfl,if_pos h3])) ?_
        exact hj false (λ h=>by cases h) (λ _=>b6H (by omega) (by simp only [if_true]; omega))
      · refine Ev.congr (λ k=>(show puncheonref16_Right.f k lg true qs = _ by unfold puncheonref16_Right.f; rw [if_neg h1,if_neg h2,if_pos rfl,if_neg h3])) ?_
        exact hj true (λ _=>no (by simp only [if_true]; omega)) (λ h=>by cases h)
     | false=>
      refine Ev.congr (λ k=>(show puncheonref16_Right.f k lg false qs = _ by unfold puncheonref16_Right.f; rw [if_neg h1,if_neg h2,if_neg (by decide)])) ?_
      by_cases h3 : (qs.length : Int) = 256
      · have e : ((qs.length : Int) != 256) = false:=by simp; omega
        rw [e]
        exact hj false (λ h=>by cases h) (λ _=>b6H (by omega) (by simp only [Bool.false_eq_true,if_false]; omega))
      · have e : ((qs.length : Int) != 256) = true:=by simp; omega
        rw [e]
        exact hj true (λ _=>no (by simp only [Bool.false_eq_true,if_false]; omega)) (λ h=>by cases h)
section
variable (A : Option Addr) (c : Nat) (w : World)
theorem c7d (lg : Int) (one : Bool) (qs : List (List Int)) (hr : kq.C w A qs.length qs) (hc : qs.length <= c) (hl : qs.length <= 1000000) : Calls Tryz.prog 121 #[.agg #[.int .i64 lg,.bool one,.slice A qs.length c]] w (Ret (.bool (a0x lg one qs)) w):=by
 obtain ⟨k,hk⟩:=(c7c lg one qs hl).rounds
 exact puncheonref16_Right.calls k lg one A c qs _ w hr hc hk
end
end Go.Proofs.YtflfjpkmjnnodaaGreat
namespace Go.Proofs.YtflfjpkmjnnodaaGreat
def symP (s : Int) (x : K3) : Bool:=decide (x.2.2 = s)
theorem b6I (l : List Int) (s : Int) : ∀ k,k <= l.length -> (posN l s k).length = (l.take k).countP (λ x=>decide (x = s)):=by
 intro k
 induction k with
 | zero=>intro _; simp [a8I]
 | succ k ih=>
  intro h
  have e : l.getD k (-1) = l[k]:=by rw [List.getD_eq_getElem?_getD,List.getElem?_eq_getElem (by omega),Option.getD_some]
  rw [List.take_succ_eq_append_getElem (by omega),List.countP_append]
  by_cases h1 : l.getD k (-1) = s
  · rw [a2v h1,List.length_append,ih (by omega)]; rw [e] at h1; simp [h1]
  · rw [a3E h1,ih (by omega)]; rw [e] at h1; simp [h1]
theorem b6J (l : List Int) (s : Int) : ∀ (k d : Nat),d < (posN l s k).length -> ∃ P : Nat,(posN l s k).getD d 0 = P /\ P < k /\ l.getD P (-1) = s /\ (posN l s P).length = d:=by
 intro k
 induction k with
 | zero=>intro d h; simp [a8I] at h
 | succ k ih=>
  intro d h
  by_cases h1 : l.getD k (-1) = s
  · rw [a2v h1] at h ⊢
    by_cases h2 : d < (posN l s k).length
    · obtain ⟨P,e1,e2,e3,e4⟩:=ih d h2
      refine ⟨P,?_,by omega,e3,e4⟩
      rw [<- e1,List.getD_eq_getElem?_getD,List.getElem?_append_left h2,<- List.getD_eq_getElem?_getD]
    · rw [List.length_append,List.length_singleton] at h
      have hd : d = (posN l s k).length:=by omega
      refine ⟨k,?_,by omega,h1,hd.symm⟩
      rw [List.getD_eq_getElem?_getD,hd,List.getElem?_append_right (Nat.le_refl _)]; simp
  · rw [a3E h1] at h ⊢
    obtain ⟨P,e1,e2,e3,e4⟩:=ih d h
    exact ⟨P,e1,by omega,e3,e4⟩
open Go.RowKit
theorem b6L (q : List Int) : (a0B q).Nodup:=by
 have h : ∀ k,k <= q.length -> (a0B (q.take k)).Nodup /\ ∀ x ∈ a0B (q.take k),x.2.2 < (k : Int):=by
  intro k
  induction k with
  | zero=>intro _; simp [a0B]
  | succ k ih=>
   intro hk
   obtain ⟨h1,h2⟩:=ih (by omega)
   rw [a3c (by omega)]
   have h3 : ∀ x ∈ a0Z (q.getD k 0) k,x.2.2 = (k : Int):=λ x hx=>by
    unfold a0Z at hx
    rw [List.mem_map] at hx
    obtain ⟨d,_,rfl⟩:=hx; rfl
   refine ⟨List.nodup_append.2 ⟨h1,?_,?_⟩,?_⟩
   · unfold a0Z
     unfold List.Nodup
     rw [List.pairwise_map]
     have h4 : (List.range (q.getD k 0).toNat).Pairwise (· ≠ ·):=List.nodup_range
     refine h4.imp ?_
     intro a b hne e
     have:=congrArg Prod.fst e
     simp only at this
     omega
   · intro a ha b hb e
     have:=h2 a ha
     have:=h3 b hb
     rw [e] at *
     omega
   · intro x hx
     rcases List.mem_append.1 hx with h | h
     · have:=h2 x h; omega
     · have:=h3 x h; omega
 have:=(h q.length (Nat.le_refl _)).1
 rw [List.take_length] at this; exact this
theorem c7n {q : List Int} (hq : Good q) {P : Nat} (hP : P < (a0r q).length) : (a0B q).countP (λ x=>lessK x (a0r q)[P]) = P:=by
 have hperm:=a3d hq
 have hsort:=a6B hq
 have hnd : (a0r q).Nodup:=hperm.nodup_iff.2 (b6L q)
 have hgood : ∀ x ∈ a0r q,GK x:=λ x hx=>a3B hq x (hperm.mem_iff.1 hx)
 rw [<- hperm.countP_eq,show (a0r q).countP (λ x=>lessK x (a0r q)[P]) = ((a0r q).take P ++ (a0r q).drop P).countP (λ x=>lessK x (a0r q)[P]) by rw [List.take_append_drop],List.countP_append]
 have h1 : ((a0r q).take P).countP (λ x=>lessK x (a0r q)[P]) = ((a0r q).take P).length:=by
  rw [List.countP_eq_length]
  intro x hx
  rw [List.mem_take_iff_getElem] at hx
  obtain ⟨i,hi,rfl⟩:=hx
  have hle : leK (a0r q)[i] (a0r q)[P]:=List.pairwise_iff_getElem.1 hsort i P (by omega) hP (by omega)
  cases h : lessK (a0r q)[i] (a0r q)[P] with
  | true=>rfl
  | false=>
   have he:=b2S hq (hperm.mem_iff.1 (List.getElem_mem (by omega : i < (a0r q).length))) (hperm.mem_iff.1 (List.getElem_mem hP)) hle h
   have:=(List.getElem_inj (i:=i) (j:=P) (h₀:=by omega) (h₁:=hP) hnd).1 he
   omega
 have h2 : ((a0r q).drop P).countP (λ x=>lessK x (a0r q)[P]) = 0:=by
  rw [List.countP_eq_zero]
  intro x hx
  rw [List.mem_drop_iff_getElem] at hx
  obtain ⟨i,hi,rfl⟩:=hx
  by_cases h0 : i = 0
  · subst h0
    have:=a6y (hgood _ (List.getElem_mem hP))
    unfold leK at this
    simp only [Nat.add_zero]
    rw [this]; simp
  · have : leK (a0r q)[P] (a0r q)[P + i]:=List.pairwise_iff_getElem.1 hsort P (P + i) hP (by omega) (by omega)
    unfold leK at this
    rw [this]; simp
 rw [h1,h2,List.length_take]; omega
def lowS (c : Int) (s e : Nat) (x : K3) : Bool:=decide (x.2.2 = (s : Int) /\ x.1 < c + e)
theorem c7o (e N : Nat) (h : e <= N) : (List.range N).countP (λ j=>decide (j < e)) = e:=by
 induction N with
 | zero=>simp; omega
 | succ N ih=>
  rw [List.range_succ,List.countP_append]
  by_cases h2 : e <= N
  · rw [ih h2]; simp; omega
  · have : e = N + 1:=by omega
    subst this
    have h3 : (List.range N).countP (λ j=>decide (j < N + 1)) = (List.range N).length:=by
     rw [List.countP_eq_length]; intro x hx; rw [List.mem_range] at hx; simp; omega
    rw [h3]; simp
theorem c7p {q : List Int} {s e : Nat} (hs : s < q.length) (he : (e : Int) <= q.getD s 0) : (a0B q).countP (lowS (q.getD s 0) s e) = e:=by
 have h : ∀ k,k <= q.length -> (a0B (q.take k)).countP (lowS (q.getD s 0) s e) = if s < k then e else 0:=by
  intro k
  induction k with
  | zero=>intro _; simp [a0B]
  | succ k ih=>
   intro hk
   rw [a3c (by omega),List.countP_append,ih (by omega)]
   by_cases hsk : s = k
   · subst hsk
     rw [if_neg (by omega),if_pos (by omega)]
     unfold a0Z
     rw [List.countP_map]
     have : (lowS (q.getD s 0) s e ∘ λ (d : Nat)=>((q.getD s 0 + (d : Int),q.getD s 0,(s : Int)) : K3)) = λ j=>decide (j < e):=by
      funext j; unfold lowS; simp [Function.comp]
     rw [this,c7o _ _ (by omega)]; omega
   · have h0 : (a0Z (q.getD k 0) k).countP (lowS (q.getD s 0) s e) = 0:=by
       rw [List.countP_eq_zero]
       intro x hx
       unfold a0Z at hx
       rw [List.mem_map] at hx
       obtain ⟨d,_,rfl⟩:=hx
       unfold lowS
       simp; omega
     rw [h0]
     by_cases h1 : s < k
     · rw [if_pos h1,if_pos (by omega),Nat.add_zero]
     · rw [if_neg h1,if_neg (by omega)]
 have:=h q.length (Nat.le_refl _)
 rw [List.take_length,if_pos hs] at this; exact this
theorem c7q {q : List Int} (hq : Good q) {s d : Nat} (hs : s < 256) (hd : (d : Int) < q.getD s 0) : ∃ P : Nat,(a1o q s).getD d 0 = P /\ ∃ h : P < (a0r q).length,(a0r q)[P] = (q.getD s 0 + d,q.getD s 0,(s : Int)):=by
 have hc:=a2L hq s
 have hlen : (posN (symsL q) s (symsL q).length).length = cntC q s:=rfl
 obtain ⟨P,e1,e2,e3,e4⟩:=b6J (symsL q) s (symsL q).length d (by omega)
 have hsl : s < q.length:=by rw [hq.len]; exact hs
 have hP : P < (a0r q).length:=by unfold symsL at e2; rw [List.length_map] at e2; exact e2
 have hperm:=a3d hq
 have hsort:=a6B hq
 have hnd : (a0r q).Nodup:=hperm.nodup_iff.2 (b6L q)
 obtain ⟨t,e,ht,he,hx⟩:=mem_allKeys.1 (hperm.mem_iff.1 (List.getElem_mem hP))
 have hsy : (symsL q).getD P (-1) = (a0r q)[P].2.2:=by
  unfold symsL; rw [List.getD_eq_getElem?_getD,List.getElem?_map,List.getElem?_eq_getElem hP]; rfl
 rw [hsy,hx] at e3
 have hts : t = s:=Int.ofNat.inj e3
 subst hts
 refine ⟨P,e1,hP,?_⟩
 rw [hx]
 have hgood : ∀ x ∈ a0r q,GK x:=λ x hx=>a3B hq x (hperm.mem_iff.1 hx)
 have hdc : d = ((a0r q).take P).countP (symP t):=by
  rw [<- e4,b6I _ _ _ (by omega)]
  unfold symsL
  rw [<- List.map_take,List.countP_map]; rfl
 have h1:=c7p hsl (e:=e) (by omega)
 rw [<- hperm.countP_eq,<- List.take_append_drop P (a0r q),List.countP_append] at h1
 have hkey:=hgood _ (List.getElem_mem hP)
 have h2 : ((a0r q).drop P).countP (lowS (q.getD t 0) t e) = 0:=by
  rw [List.countP_eq_zero]
  intro x hx'
  rw [List.mem_drop_iff_getElem] at hx'
  obtain ⟨i,hi,rfl⟩:=hx'
  have h3 : leK (a0r q)[P] (a0r q)[P + i]:=by
   by_cases h0 : i = 0
   · subst h0; exact a6y hkey
   · exact List.pairwise_iff_getElem.1 hsort P (P + i) hP (by omega) (by omega)
  have h4:=(a2d (hgood _ (List.getElem_mem _)) hkey).1 h3
  obtain ⟨t',f,_,hf,hxe⟩:=mem_allKeys.1 (hperm.mem_iff.1 (List.getElem_mem (by omega : P + i < (a0r q).length)))
  unfold lowS
  simp only [decide_eq_true_eq]
  rintro ⟨h5,h6⟩
  rw [hxe] at h5 h6 h4
  rw [hx] at h4
  have ht' : t' = t:=Int.ofNat.inj h5
  subst ht'
  simp only at h4 h6
  have h7 : (q.getD t' 0 + e) * q.getD t' 0 <= (q.getD t' 0 + f) * q.getD t' 0:=by omega
  have:=Int.le_of_mul_le_mul_right h7 (by omega)
  omega
 have h3 : ((a0r q).take P).countP (lowS (q.getD t 0) t e) = ((a0r q).take P).countP (symP t):=by
  refine List.countP_congr (λ x hx'=>?_)
  rw [List.mem_take_iff_getElem] at hx'
  obtain ⟨i,hi,rfl⟩:=hx'
  have hle : leK (a0r q)[i] (a0r q)[P]:=List.pairwise_iff_getElem.1 hsort i P (by omega) hP (by omega)
  have h4:=(a2d hkey (hgood _ (List.getElem_mem (by omega : i < (a0r q).length)))).1 hle
  obtain ⟨t',f,_,hf,hxe⟩:=mem_allKeys.1 (hperm.mem_iff.1 (List.getElem_mem (by omega : i < (a0r q).length)))
  have hne : (a0r q)[i] ≠ (a0r q)[P]:=λ he=>by
   have:=(List.getElem_inj (i:=i) (j:=P) (h₀:=by omega) (h₁:=hP) hnd).1 he
   omega
  unfold lowS symP
  simp only [decide_eq_true_eq]
  constructor
  · exact λ h=>h.1
  · intro h5
    refine ⟨h5,?_⟩
    rw [hxe] at h5 h4 hne ⊢
    rw [hx] at h4 hne
    have ht' : t' = t:=Int.ofNat.inj h5
    subst ht'
    simp only at h4 ⊢
    have h7 : (q.getD t' 0 + f) * q.getD t' 0 <= (q.getD t' 0 + e) * q.getD t' 0:=by omega
    have:=Int.le_of_mul_le_mul_right h7 (by omega)
    have hfe : f ≠ e:=λ h=>hne (by rw [h])
    omega
 have hde : d = e:=by omega
 rw [hde]
open Go.Proofs.YtflfjpkmjnnodaaGreat.PRef Go.Proofs.YtflfjpkmjnnodaaGreatW.PrintWords Go.Proofs.YtflfjpkmjnnodaaGreatW.PrintLast Go.Proofs.YtflfjpkmjnnodaaGreatW.PrintMore
def lessN (n : Int) (t : Nat) (x : K3) (d : Nat) : Nat:=(List.range d).countP (λ (j : Nat)=>lessK (n + j,n,(t : Int)) x)
theorem c7r (n : Int) (t : Nat) (x : K3) (d : Nat) : lessN n t x (d + 1) = lessN n t x d + (if lessK (n + d,n,(t : Int)) x = true then 1 else 0):=by
 unfold lessN; rw [List.range_succ,List.countP_append]; simp [List.countP_singleton]
theorem c7s (n : Int) (t : Nat) (x : K3) (d : Nat) : lessN n t x d <= d:=by
 unfold lessN
 have:=List.countP_le_length (p:=λ (j : Nat)=>lessK (n + j,n,(t : Int)) x) (l:=List.range d)
 rw [List.length_range] at this; exact this
theorem c7t {q : List Int} (hq : Good q) {t s : Nat} (ht : t < 256) (hs : s < 256) {i : Int} (hc : 0 < q.getD s 0) (hi : q.getD s 0 <= i /\ i < 2 * q.getD s 0) : ∀ (r d : Nat),(d + r : Int) = q.getD t 0 -> Ev (λ k=>puncheonref10_less.l0 k q t s i (lessN (q.getD t 0) t (i,q.getD s 0,(s : Int)) d : Nat) (q.getD t 0 + d)) (lessN (q.getD t 0) t (i,q.getD s 0,(s : Int)) (q.getD t 0).toNat : Nat):=by
 have hl:=hq.len
 have g1:=hq.get t
 have g2:=hq.get s
 have c1 : (0 : Int) <= t:=by omega
 have c2 : (t : Int) < (q.length : Int):=by omega
 have c3 : (0 : Int) <= s:=by omega
 have c4 : (s : Int) < (q.length : Int):=by omega
 obtain ⟨n,hn⟩ : ∃ n,n = q.getD t 0:=⟨_,rfl⟩
 obtain ⟨c,hcc⟩ : ∃ c,c = q.getD s 0:=⟨_,rfl⟩
 rw [<- hn] at g1 ⊢
 rw [<- hcc] at g2 hc hi ⊢
 intro r
 induction r with
 | zero=>
  intro d hd
  refine Ev.step (λ k=>(show puncheonref10_less.l0 (k + 1) q t s i _ _ = _ by simp only [puncheonref10_less.l0]; rw [if_pos c1,if_pos c2,a0F,<- hn,w64 (n:=2 * n) (by omega),if_neg (by omega)])) ?_
  rw [show n.toNat = d by omega]; exact Ev.now _
 | succ r ih=>
  intro d hd
  have hk : GK (n + d,n,(t : Int)):=rightB_iff.2 (by simp only []; omega)
  have hx : GK (i,c,(s : Int)):=rightB_iff.2 (by simp only []; omega)
  have m1:=a8E (x:=n + d) (y:=c) (by omega) (by omega) (by omega) (by omega)
  have m2:=a8E (x:=i) (y:=n) (by omega) (by omega) (by omega) (by omega)
  have hlt : n + (d : Int) < 2 * n:=by omega
  have w1 : wrap64 ((n + (d : Int)) * c) = (n + d) * c:=w64 (by omega)
  have w2 : wrap64 (i * n) = i * n:=w64 (by omega)
  have w3 : wrap64 (n + (d : Int) + 1) = n + ((d + 1 : Nat) : Int):=by rw [w64 (by omega)]; omega
  have hle:=c7s n t (i,c,(s : Int)) d
  have w4 : wrap64 (((lessN n t (i,c,(s : Int)) d : Nat) : Int) + 1) = ((lessN n t (i,c,(s : Int)) d + 1 : Nat) : Int):=wS _ (by omega)
  have hiff:=a8F hk hx
  simp only at hiff
  have ih':=ih (d + 1) (by omega)
  rw [c7r] at ih'
  by_cases e1 : (n + (d : Int)) * c < i * n
  · refine Ev.step (λ k=>(show puncheonref10_less.l0 (k + 1) q t s i _ _ = _ by simp only [puncheonref10_less.l0]; rw [if_pos c1,if_pos c2,a0F,<- hn,w64 (n:=2 * n) (by omega),if_pos hlt,if_pos c3,if_pos c4,a0F,<- hcc,w1,w2,if_pos e1,w3,w4])) ?_
    rw [if_pos (hiff.2 (.inl e1))] at ih'; exact ih'
  · by_cases e2 : (n + (d : Int)) * c = i * n
    · by_cases e3 : (t : Int) < s
      · refine Ev.step (λ k=>(show puncheonref10_less.l0 (k + 1) q t s i _ _ = _ by simp only [puncheonref10_less.l0]; rw [if_pos c1,if_pos c2,a0F,<- hn,w64 (n:=2 * n) (by omega),if_pos hlt,if_pos c3,if_pos c4,a0F,<- hcc,w1,w2,if_neg e1,if_pos e2,if_pos e3,w3,w4])) ?_
        rw [if_pos (hiff.2 (.inr ⟨e2,e3⟩))] at ih'; exact ih'
      · refine Ev.step (λ k=>(show puncheonref10_less.l0 (k + 1) q t s i _ _ = _ by simp only [puncheonref10_less.l0]; rw [if_pos c1,if_pos c2,a0F,<- hn,w64 (n:=2 * n) (by omega),if_pos hlt,if_pos c3,if_pos c4,a0F,<- hcc,w1,w2,if_neg e1,if_pos e2,if_neg e3,w3])) ?_
        rw [if_neg (λ h=>by rcases hiff.1 h with h | h; exact e1 h; exact e3 h.2)] at ih'; exact ih'
    · refine Ev.step (λ k=>(show puncheonref10_less.l0 (k + 1) q t s i _ _ = _ by simp only [puncheonref10_less.l0]; rw [if_pos c1,if_pos c2,a0F,<- hn,w64 (n:=2 * n) (by omega),if_pos hlt,if_pos c3,if_pos c4,a0F,<- hcc,w1,w2,if_neg e1,if_neg e2,w3])) ?_
      rw [if_neg (λ h=>by rcases hiff.1 h with h | h; exact e1 h; exact e2 h.1)] at ih'; exact ih'
theorem c7u {q : List Int} (hq : Good q) {t s : Nat} (ht : t < 256) (hs : s < 256) {i : Int} (hc : 0 < q.getD s 0) (hi : q.getD s 0 <= i /\ i < 2 * q.getD s 0) : Ev (λ k=>puncheonref10_less.f k q t s i) (lessN (q.getD t 0) t (i,q.getD s 0,(s : Int)) (q.getD t 0).toNat : Nat):=by
 have hl:=hq.len
 have h:=c7t hq ht hs hc hi (q.getD t 0).toNat 0 (by have:=hq.get t; omega)
 refine Ev.congr (λ k=>(show puncheonref10_less.f k q t s i = _ by unfold puncheonref10_less.f; rw [if_pos (by omega),if_pos (by omega),a0F])) ?_
 have e : lessN (q.getD t 0) t (i,q.getD s 0,(s : Int)) 0 = 0:=rfl
 rw [e] at h
 simpa using h
theorem b6M (n : Int) (t : Nat) (x : K3) : lessN n t x n.toNat = (a0Z n t).countP (λ y=>lessK y x):=by
 unfold lessN a0Z; rw [List.countP_map]; rfl
theorem c7v {q : List Int} (hq : Good q) {s : Nat} (hs : s < 256) {i : Int} (hc : 0 < q.getD s 0) (hi : q.getD s 0 <= i /\ i < 2 * q.getD s 0) : ∀ (d t : Nat),t + d = q.length -> Ev (λ k=>puncheonref10_Place.l0 k q s i ((a0B (q.take t)).countP (λ y=>lessK y (i,q.getD s 0,(s : Int))) : Nat) (t : Int)) ((a0B q).countP (λ y=>lessK y (i,q.getD s 0,(s : Int))) : Nat):=by
 have hl:=hq.len
 intro d
 induction d with
 | zero=>
  intro t ht
  refine Ev.step (λ k=>(show puncheonref10_Place.l0 (k + 1) q s i _ _ = _ by simp only [puncheonref10_Place.l0]; rw [if_neg (by omega)])) ?_
  rw [show t = q.length by omega,List.take_length]; exact Ev.now _
 | succ d ih=>
  intro t ht
  have hlt : (t : Int) < (q.length : Int):=by omega
  refine Ev.step (λ k=>(show puncheonref10_Place.l0 (k + 1) q s i _ _ = _ by simp only [puncheonref10_Place.l0]; rw [if_pos hlt])) ?_
  refine Ev.bind (c7u hq (by omega) hs hc hi) ?_
  have ih':=ih (t + 1) (by omega)
  rw [a3c (by omega),List.countP_append,<- b6M] at ih'
  have hb : (a0B (q.take t)).countP (λ y=>lessK y (i,q.getD s 0,(s : Int))) + lessN (q.getD t 0) t (i,q.getD s 0,(s : Int)) (q.getD t 0).toNat <= 4096:=by
   rw [b6M,<- List.countP_append,<- a3c (by omega)]
   refine Nat.le_trans List.countP_le_length ?_
   have h1:=a6z hq.nonneg
   have h2:=hq.sum
   have h3 : (a0B (q.take (t + 1))).length <= (a0B q).length:=by
    have h5 : ∀ a b : List Int,a0B (a ++ b) = a0B a ++ (b.zipIdx a.length).flatMap (λ p=>a0Z p.1 p.2):=λ a b=>by simp [a0B,List.zipIdx_append]
    have h4:=h5 (q.take (t + 1)) (q.drop (t + 1))
    rw [List.take_append_drop] at h4
    rw [h4,List.length_append]; omega
   omega
  rw [w64 (n:=_ + _) (by omega),wS t (by omega)]
  rw [Int.natCast_add] at ih'
  exact ih'
theorem c7w {q : List Int} (hl : logC q ≠ 0) {s : Nat} (hs : s < 256) {i : Nat} (h1 : cntC q s <= i) (h2 : i < 2 * cntC q s) : Ev (λ k=>puncheonref10_Place.f k q s i) ((a1o q s).getD (i - cntC q s) 0):=by
 have hq:=a1B hl
 have hc:=a2L hq s
 have hg:=hq.get s
 have:=c7v hq hs (i:=i) (by omega) (by omega) q.length 0 (by omega)
 have e0 : (a0B (q.take 0)).countP (λ y=>lessK y ((i : Int),q.getD s 0,(s : Int))) = 0:=by simp [a0B]
 rw [e0] at this
 obtain ⟨P,e1,hP,e2⟩:=c7q hq hs (d:=i - cntC q s) (by omega)
 have e3:=c7n hq hP
 rw [e2,show q.getD s 0 + ((i - cntC q s : Nat) : Int) = i by omega] at e3
 rw [e3] at this
 rw [e1]
 exact this
theorem c7x (r : Nat) (h : r <= 30) : shl .i64 1 (r : Int) = ((2 ^ r : Nat) : Int):=by
 unfold shl
 have e : min (r : Int).toNat IntKind.i64.bits = r:=by
  have : IntKind.i64.bits = 64:=rfl
  rw [this,Int.toNat_natCast]; omega
 rw [e,Int.one_mul]
 have h2 : (2 : Nat) ^ r <= 2 ^ 30:=Nat.pow_le_pow_right (by omega) h
 have e2 : (2 : Int) ^ r = ((2 ^ r : Nat) : Int):=by simp
 rw [e2]
 obtain ⟨P,hP⟩ : ∃ P : Nat,P = 2 ^ r:=⟨_,rfl⟩
 rw [<- hP] at h2 ⊢
 exact Go.IntWalk.i64_in _ (by omega)
theorem c7y (W n : Nat) : W / 2 ^ n / 2 = W / 2 ^ (n + 1):=by rw [Nat.div_div_eq_div_mul,Nat.pow_succ]
theorem c7z {q : List Int} {x : Int} {s : Nat} (hl : logC q ≠ 0) (hx : 0 <= x /\ x < 2 ^ logC q) (hs : s < 256) (hc : 0 < cntC q s) : ∀ (r n : Nat),n + r = a0C q x s ->
    Ev (λ k=>puncheonref12_Step.l0 k q s ((a0V q x / 2 ^ n : Nat) : Int) n ((a0V q x % 2 ^ n : Nat) : Int) ((2 ^ n : Nat) : Int)) (a1p q x s,(a0C q x s : Int),(a1r q x s : Int),true):=by
 obtain ⟨H,hW⟩:=a6R hl hx hc
 have hq:=a1B hl
 have hcn:=a2L hq s
 have hg:=hq.get s
 have hlen:=hq.len
 have hr12 : logC q <= 12:=a1S _
 have hp:=a1A hr12
 have c1 : (0 : Int) <= s:=by omega
 have c2 : (s : Int) < (q.length : Int):=by omega
 obtain ⟨W,hWd⟩ : ∃ W,W = a0V q x:=⟨_,rfl⟩
 obtain ⟨O,hO⟩ : ∃ O,O = a0C q x s:=⟨_,rfl⟩
 obtain ⟨C,hC⟩ : ∃ C,C = cntC q s:=⟨_,rfl⟩
 have hWb : W <= 8192:=by rw [<- hWd] at hW; omega
 have hcC : q.getD s 0 = (C : Int):=by omega
 have hge:=H.ge
 have hltt:=H.lt
 have hnr:=H.nr
 have hN : a1p q x s = (a1o q s).getD (W / 2 ^ O - C) 0:=by rw [hWd,hO,hC]; rfl
 have hLw : a1r q x s = W % 2 ^ O:=by rw [hWd,hO]; rfl
 rw [hN,hLw,<- hO,<- hWd]
 rw [<- hWd,<- hO,<- hC] at H
 rw [<- hWd,<- hO,<- hC] at hge hltt
 rw [<- hO] at hnr
 intro r
 induction r with
 | zero=>
  intro n hn
  obtain rfl : n = O:=by omega
  have hP:=c7w hl hs (i:=W / 2 ^ n) (by rw [<- hC]; exact hge) (by rw [<- hC]; exact hltt)
  rw [<- hC] at hP
  have hmod : W % 2 ^ n <= W:=Nat.mod_le _ _
  have e1 : ¬ ((W / 2 ^ n : Nat) : Int) >= wrap64 (2 * (C : Int)):=by rw [w64 (by omega)]; omega
  refine Ev.step (λ k=>(show puncheonref12_Step.l0 (k + 1) q s _ _ _ _ = _ by simp only [puncheonref12_Step.l0]; rw [if_pos c1,if_pos c2,a0F,hcC,if_neg e1])) ?_
  refine Ev.bind hP ?_
  rw [show ((W % 2 ^ n : Nat) : Int) % 4294967296 = ((W % 2 ^ n : Nat) : Int) by omega]
  exact Ev.now _
 | succ r ih=>
  intro n hn
  have hlt : n < O:=by omega
  have hbig : 2 * C <= W / 2 ^ n:=by
   have h1 : W / 2 ^ n / 2 ^ (O - n) = W / 2 ^ O:=by rw [Nat.div_div_eq_div_mul,<- Nat.pow_add]; congr 2; omega
   have h2 : (W / 2 ^ O) * 2 ^ (O - n) <= W / 2 ^ n:=by rw [<- h1]; exact Nat.div_mul_le_self _ _
   have h3 : C * 2 <= (W / 2 ^ O) * 2 ^ (O - n):=Nat.mul_le_mul hge (by
    calc 2 = 2 ^ 1:=rfl
     _ <= 2 ^ (O - n):=Nat.pow_le_pow_right (by omega) (by omega))
   omega
  have e1 : ((W / 2 ^ n : Nat) : Int) >= wrap64 (2 * (C : Int)):=by rw [w64 (by omega)]; omega
  have hpn : 2 ^ n <= 4096:=by
   have : 2 ^ n <= 2 ^ 12:=Nat.pow_le_pow_right (by omega) (by omega)
   omega
  have hdiv : W / 2 ^ n <= W:=Nat.div_le_self _ _
  have hmod : W % 2 ^ n <= W:=Nat.mod_le _ _
  have a1 : wrap64 (Int.tdiv ((W / 2 ^ n : Nat) : Int) 2) = ((W / 2 ^ (n + 1) : Nat) : Int):=by
   rw [Int.tdiv_eq_ediv_of_nonneg (by omega),w64 (by omega),<- c7y]; simp
  have a2 : Int.tmod ((W / 2 ^ n : Nat) : Int) 2 = ((W / 2 ^ n % 2 : Nat) : Int):=by
   rw [Int.tmod_eq_emod_of_nonneg (by omega)]; simp
  have hm:=Nat.mod_pow_succ (x:=W) (b:=2) (k:=n)
  have hm2 : W % 2 ^ (n + 1) <= W:=Nat.mod_le _ _
  obtain ⟨u,hu⟩ : ∃ u,u = W / 2 ^ n % 2:=⟨_,rfl⟩
  rw [<- hu] at a2 hm
  have hmu : 2 ^ n * u <= 8192:=by omega
  have e2 : (u : Int) * ((2 ^ n : Nat) : Int) = ((2 ^ n * u : Nat) : Int):=by rw [Int.natCast_mul]; exact Int.mul_comm _ _
  have a3 : wrap64 (((W % 2 ^ n : Nat) : Int) + wrap64 (Int.tmod ((W / 2 ^ n : Nat) : Int) 2 * ((2 ^ n : Nat) : Int))) = ((W % 2 ^ (n + 1) : Nat) : Int):=by
   rw [a2,e2,w64 (n:=((2 ^ n * u : Nat) : Int)) (by omega),w64 (by omega),hm]
   rw [Int.natCast_add]
  have a4 : wrap64 (2 * ((2 ^ n : Nat) : Int)) = ((2 ^ (n + 1) : Nat) : Int):=by
   have hT2 : 2 ^ (n + 1) = 2 ^ n * 2:=Nat.pow_succ ..
   obtain ⟨T,hT⟩ : ∃ T,T = 2 ^ n:=⟨_,rfl⟩
   obtain ⟨T2,hT3⟩ : ∃ T,T = 2 ^ (n + 1):=⟨_,rfl⟩
   rw [<- hT,<- hT3] at hT2
   rw [<- hT] at hpn
   rw [<- hT,<- hT3]
   have hw : wrap64 (2 * (T : Int)) = 2 * (T : Int):=w64 (by omega)
   rw [hw]; omega
  have ih':=ih (n + 1) (by omega)
  obtain ⟨A,hA⟩ : ∃ A : Int,A = ((W / 2 ^ n : Nat) : Int):=⟨_,rfl⟩
  obtain ⟨B,hB⟩ : ∃ B : Int,B = ((W % 2 ^ n : Nat) : Int):=⟨_,rfl⟩
  obtain ⟨D,hD⟩ : ∃ D : Int,D = ((2 ^ n : Nat) : Int):=⟨_,rfl⟩
  obtain ⟨A',hA'⟩ : ∃ A : Int,A = ((W / 2 ^ (n + 1) : Nat) : Int):=⟨_,rfl⟩
  obtain ⟨B',hB'⟩ : ∃ B : Int,B = ((W % 2 ^ (n + 1) : Nat) : Int):=⟨_,rfl⟩
  obtain ⟨D',hD'⟩ : ∃ D : Int,D = ((2 ^ (n + 1) : Nat) : Int):=⟨_,rfl⟩
  rw [<- hA] at e1 a1 a3
  rw [<- hB,<- hD,<- hB'] at a3
  rw [<- hA'] at a1
  rw [<- hD,<- hD'] at a4
  rw [<- hA',<- hB',<- hD'] at ih'
  rw [<- hA,<- hB,<- hD]
  have a5:=wS n (by omega)
  clear hA hB hD hA' hB' hD' ih hm hm2 a2 hmu e2 hpn hdiv hmod hbig H hge hltt
  have hstep : ∀ k,puncheonref12_Step.l0 (k + 1) q s A n B D = puncheonref12_Step.l0 k q s A' ((n + 1 : Nat) : Int) B' D':=by
   intro k
   simp only [puncheonref12_Step.l0]
   rw [if_pos c1,if_pos c2,a0F,hcC,if_pos e1,a1,a3,a4,a5]
  exact Ev.step hstep ih'
theorem c7A {q : List Int} {x : Int} {s : Nat} (hl : logC q ≠ 0) (hx : 0 <= x /\ x < 2 ^ logC q) (hs : s < 256) (hc : 0 < cntC q s) : Ev (λ k=>puncheonref12_Step.f k q x s) (a1p q x s,(a0C q x s : Int),(a1r q x s : Int),true):=by
 have hr12 : logC q <= 12:=a1S _
 have hq:=a1B hl
 have hlen:=hq.len
 have hcn:=a2L hq s
 have hsh:=c7x (logC q) (by omega)
 have hp:=a1A hr12
 have e2 : (2 : Int) ^ logC q = ((2 ^ logC q : Nat) : Int):=by simp
 obtain ⟨S,hS⟩ : ∃ S : Nat,S = 2 ^ logC q:=⟨_,rfl⟩
 rw [e2,<- hS] at hx hp
 rw [<- hS] at hsh
 have hW : ((a0V q x / 2 ^ 0 : Nat) : Int) = wrap64 ((S : Int) + x):=by
  rw [w64 (by omega)]
  unfold a0V
  rw [<- hS]; simp; omega
 have h0:=c7z hl (x:=x) (by rw [e2,<- hS]; exact hx) hs hc (a0C q x s) 0 (by omega)
 rw [hW] at h0
 have e3 : ((a0V q x % 2 ^ 0 : Nat) : Int) = 0:=by simp [Nat.mod_one]
 rw [e3] at h0
 unfold puncheonref12_Step.f
 refine Ev.bind (a7e q) ?_
 have hc1 : (0 : Int) <= (logC q : Int):=by omega
 have hst : ∀ k,(if 0 <= (logC q : Int) then (if x < 0 then (puncheonref12_Step.j0 k q x s (shl .i64 1 (logC q : Int)) true) else (if x >= (shl .i64 1 (logC q : Int)) then (puncheonref12_Step.j0 k q x s (shl .i64 1 (logC q : Int)) true) else (if 0 <= (s : Int) then (if (s : Int) < (q.length : Int) then (puncheonref12_Step.j0 k q x s (shl .i64 1 (logC q : Int)) ((rd q s) == 0)) else (none)) else (none)))) else (none)) = puncheonref12_Step.j0 k q x s S ((rd q s) == 0):=by
  intro k
  have h1 : ¬ x < 0:=by omega
  have h2 : ¬ x >= (S : Int):=by omega
  have h3 : (0 : Int) <= (s : Int):=by omega
  have h4 : (s : Int) < (q.length : Int):=by omega
  rw [hsh,if_pos hc1,if_neg h1,if_neg h2,if_pos h3,if_pos h4]
 refine Ev.congr hst ?_
 have hne : ((rd q s) == 0) = false:=by rw [a0F,beq_eq_false_iff_ne]; omega
 rw [hne]
 refine Ev.step (λ k=>(show puncheonref12_Step.j0 (k + 1) q x s S false = _ by simp only [puncheonref12_Step.j0]; rw [if_neg (by simp)])) ?_
 exact h0
end Go.Proofs.YtflfjpkmjnnodaaGreat
namespace Go.Proofs.YtflfjpkmjnnodaaGreat
open Go.RowKit Go.IntWalk Go.Proofs.YtflfjpkmjnnodaaGreatW.PrintWords
set_option maxRecDepth 100000 in
set_option maxHeartbeats 2000000 in
theorem c7C (lg : Int) (one : Bool) (A : Option Addr) (c : Nat) (qs : List (List Int)) (w : World) (hr : kq.C w A qs.length qs) (h : a0x lg one qs = true) (h1 : one = true -> 0 < (qs.getD 0 []).length) :
    Calls Tryz.prog 121 #[.agg #[.int .i64 lg,.bool one,.slice A qs.length c]] w (Ret (.bool true) w):=by
 obtain ⟨W1,hW1⟩ : ∃ W1,W1 = w.alloc (.cells #[.int .i64 lg,.bool one,.slice A qs.length c] 26):=⟨_,rfl⟩
 have HB:=Lib.hid ((Below.refl w.heap.size w).alloc (Nat.le_refl _) (.cells #[.int .i64 lg,.bool one,.slice A qs.length c] 26))
 have hk1 : W1.heap[w.heap.size]? = some (.cells #[.int .i64 lg,.bool one,.slice A qs.length c] 26 (0,0)):=by rw [hW1]; exact a0k _ _
 have HR : Hid (kq.C W1 A qs.length qs):=Lib.hid (by rw [hW1]; exact Kd.C_alloc hr _)
 rw [<- hW1] at HB
 obtain ⟨l1,l2,l3,l4⟩:=a1W h
 have HL:=Lib.hid (And.intro h1 (And.intro l3 l4))
 have HK:=Lib.hid hk1
 have hn : Hid (qs.length <= 256):=Lib.hid (by rw [l3]; split <;> omega)
 have d1 : decide (lg < 1) = false:=decide_eq_false (by omega)
 have d2 : decide (12 < lg) = false:=decide_eq_false (by omega)
 have hd0 : (one = true /\ qs.length = 1) \/ (one = false /\ qs.length = 256):=by cases one <;> simp_all
 obtain ⟨⟨m0,m1,m2⟩,_⟩:=cell3 hk1
 clear hr h h1 l1 l2 l3 l4 hk1
 obtain ⟨n,hnn⟩ : ∃ n,n = qs.length:=⟨_,rfl⟩
 rw [<- hnn] at hd0 hn m2 HR HK ⊢
 rw [show (Obj.cells #[.int .i64 lg,.bool one,.slice A qs.length c] 26) = Obj.cells #[.int .i64 lg,.bool one,.slice A n c] 26 by rw [hnn]] at hW1
 have HN:=Lib.hid hnn
 clear hnn
 have hcut : ∀ (o : Bool) (q1 q2 : Bool),True:=λ _ _ _=>trivial
 have HF : one = true -> ∀ i,i < n -> (qs.getD i []).length ≠ 0:=λ e i hi=>by
  rcases hd0 with ⟨_,e2⟩ | ⟨e1,_⟩
  · have:=HL.out.1 e
    rw [show i = 0 by omega]; omega
  · rw [e] at e1; cases e1
 have HF':=Lib.hid HF
 clear HF
 have d3 : one = true -> ((n : Int) != 1) = false:=λ e=>by rcases hd0 with ⟨_,e2⟩ | ⟨e1,_⟩ <;> simp_all
 have d4 : one = false -> ((n : Int) != 256) = false:=λ e=>by rcases hd0 with ⟨e1,_⟩ | ⟨_,e2⟩ <;> simp_all
 have main : ∀ o : Bool,one = o -> Calls Tryz.prog 121 #[.agg #[.int .i64 lg,.bool one,.slice A n c]] w (Ret (.bool true) w):=by
  intro o ho
  subst ho
  cases one
  all_goals
   first | have d5:=d3 rfl | have d5:=d4 rfl
   clear d3 d4 hd0 hcut
   go_enter Tryz.func121,Tryz.ntmps121
   go_wp2_with fail
   rw [<- hW1]
   clear hW1 m0 m1 m2
   go_loopw [3] (λ kv wr=>∃ (i : Nat),kv = .int .i64 i /\ i <= n /\ Hid (Below W1.heap.size W1 wr)) (λ kv _=>n - (intOf kv).toNat)
   case atStart=>exact ⟨0,rfl,by omega,Lib.hid (Below.refl _ _)⟩
   case round=>
    obtain ⟨i,rfl,hi,H⟩:=hrel
    obtain ⟨⟨m0,m1,m2⟩,_⟩:=cell3 (a0i HK.out H.out)
    have hn256:=hn.out
    by_cases hlt : i < n
    · obtain ⟨ad,B,cb,rfl,hcell,hcb,hq⟩:=kq_at (Kd.C_below HR.out H.out) i hlt
      have hqs : i < qs.length:=by rw [<- HN.out]; exact hlt
      have HQL : Hid ((qs.getD i []).length ≠ 0 -> (logC (qs.getD i []) : Int) = lg):=Lib.hid (λ e=>(HL.out.2.2 _ (by rw [List.getD_eq_getElem?_getD,List.getElem?_eq_getElem hqs]; exact List.getElem_mem hqs) e).2)
      have HFi:=λ e=>HF'.out e i hlt
      obtain ⟨q,hqq⟩ : ∃ q,q = qs.getD i []:=⟨_,rfl⟩
      rw [<- hqq] at hcell hcb hq HQL HFi
      clear hqq hqs
      have HQ:=Lib.hid (And.intro hcb hq)
      have hiI : (i : Int) < (n : Int):=by omega
      by_cases h0 : q.length = 0
      · first
          | exact absurd h0 (HFi (by first | exact True.intro | rfl))
          | (have d6 : ((q.length : Int) == 0) = true:=by rw [h0]; rfl
             clear h0 hlt hcb hq HFi
             go_wp2_with fail
             go_roundw
             case rel=>exact ⟨i + 1,by go_num,by omega,H⟩
             case measure=>simp [intOf]; omega)
      · have d6 : ((q.length : Int) == 0) = false:=by simp; intro e; subst e; simp at h0
        have d7 : ((logC q : Int) != lg) = false:=by simp; exact HQL.out h0
        clear h0 hcb hq HFi
        go_wp2_with fail
        go_region_held3 (λ w'=>w'.cell? (ad.add i) = some (.slice B q.length cb) /\ w'.cell? ⟨w.heap.size,0,none⟩ = some (.int .i64 lg) /\ w'.cell? ⟨w.heap.size,2,none⟩ = some (.slice (some ad) n c)) ((repeat' apply And.intro) <;> first | assumption)
         (first | (go_at_call 172; refine (c3x B cb q _ (Kd.C_below HQ.out.2 (by first | exact (Below.refl _ _).drew | exact Below.refl _ _)) HQ.out.1).mono ?_; rintro e w2 ⟨rfl,hb2⟩; have k0:=a0t (w:=wr) ⟨hb2.os,hb2.tape,hb2.output,hb2.size,hb2.block⟩ hcell; have k1:=a0t (w:=wr) ⟨hb2.os,hb2.tape,hb2.output,hb2.size,hb2.block⟩ m0; have k2:=a0t (w:=wr) ⟨hb2.os,hb2.tape,hb2.output,hb2.size,hb2.block⟩ m2; have HV2:=Lib.hid (show Below wr.heap.size wr w2 from ⟨hb2.os,hb2.tape,hb2.output,hb2.size,hb2.block⟩); clear hb2))
        all_goals
         go_wp2_with fail
         go_roundw
         case rel=>exact ⟨i + 1,by go_num,by omega,Lib.hid (a0g H.out HV2.out)⟩
         case measure=>simp [intOf]; omega
    · obtain rfl : i = n:=by omega
      go_wp2_with fail
      go_ret
      exact ⟨rfl,a0g HB.out H.out⟩
 exact main one rfl
def b0r (q : List Int) (w : World) (e : Ending) (w' : World) : Prop:=∃ (B : Option Addr) (cb : Nat),e = .returned (.slice B q.length cb) /\ q.length <= cb /\ (Kd.int .i64).C w' B q.length q /\ Below w.heap.size w w'
set_option maxRecDepth 100000 in
set_option maxHeartbeats 1000000 in
theorem b6N (lg : Int) (one : Bool) (A : Option Addr) (c : Nat) (qs : List (List Int)) (x : Nat) (w : World) (hr : kq.C w A qs.length qs) (h : a0x lg one qs = true) (h1 : one = true -> 0 < (qs.getD 0 []).length) (hx : x < 256) :
    Calls Tryz.prog 125 #[.agg #[.int .i64 lg,.bool one,.slice A qs.length c],.int .i64 x] w (b0r (qs.getD (listI one x) []) w):=by
 obtain ⟨W1,hW1⟩ : ∃ W1,W1 = w.alloc (.cells #[.int .i64 lg,.bool one,.slice A qs.length c] 26):=⟨_,rfl⟩
 have HB:=Lib.hid ((Below.refl w.heap.size w).alloc (Nat.le_refl _) (.cells #[.int .i64 lg,.bool one,.slice A qs.length c] 26))
 have hk1 : W1.heap[w.heap.size]? = some (.cells #[.int .i64 lg,.bool one,.slice A qs.length c] 26 (0,0)):=by rw [hW1]; exact a0k _ _
 have HR : Hid (kq.C W1 A qs.length qs):=Lib.hid (by rw [hW1]; exact Kd.C_alloc hr _)
 rw [<- hW1] at HB
 have hlen:=(a1W h).2.2.1
 have hi : listI one x < qs.length:=by rw [hlen]; unfold listI; cases one <;> simp <;> omega
 have HX:=Lib.hid (c7C lg one A c qs W1 HR.out h h1)
 have HK:=Lib.hid hk1
 have d1 : decide ((x : Int) < 0) = false:=decide_eq_false (by omega)
 have d2 : decide (255 < (x : Int)) = false:=decide_eq_false (by omega)
 obtain ⟨⟨m0,m1,m2⟩,_⟩:=cell3 hk1
 have HI:=Lib.hid hi
 obtain ⟨q,hqq⟩ : ∃ q,q = qs.getD (listI one x) []:=⟨_,rfl⟩
 rw [<- hqq]
 have HQQ:=Lib.hid hqq
 clear hr h h1 hk1 hlen hi hqq
 go_enter Tryz.func125,Tryz.ntmps125
 go_wp2_with fail
 rw [<- hW1]
 go_wp2_with fail
 refine HX.out.mono ?_
 rintro e w2 ⟨rfl,hb2⟩
 obtain ⟨⟨n0,n1,n2⟩,_⟩:=cell3 (a0i HK.out hb2)
 obtain ⟨ad,B,cb,rfl,hcell,hcb,hq⟩:=kq_at (Kd.C_below HR.out hb2) _ HI.out
 have HB2:=Lib.hid (a0g HB.out hb2)
 rw [<- HQQ.out] at hcell hcb hq
 have HQ:=Lib.hid (And.intro hcb hq)
 clear hb2 hcb hq hW1 m0 m1 m2
 cases one
 · have e1 : listI false x = x:=rfl
   rw [e1] at hcell HI
   have hiI : (x : Int) < (qs.length : Int):=by have:=HI.out; omega
   clear e1
   go_wp2_with fail
   go_ret
   exact ⟨B,cb,rfl,HQ.out.1,HQ.out.2,HB2.out⟩
 · have e1 : listI true x = 0:=rfl
   rw [e1] at hcell HI
   have hiI : (0 : Int) < (qs.length : Int):=by have:=HI.out; omega
   have hcell0 : w2.cell? ad = some (.slice B q.length cb):=hcell
   clear e1
   go_wp2_with fail
   go_ret
   exact ⟨B,cb,rfl,HQ.out.1,HQ.out.2,HB2.out⟩
open Go.Proofs.YtflfjpkmjnnodaaGreat.PRef Go.Proofs.YtflfjpkmjnnodaaGreatW.PrintLast Go.Proofs.YtflfjpkmjnnodaaGreatW.PrintMore
theorem b6O {lg : Int} {one : Bool} {qs : List (List Int)} (h : a0x lg one qs = true) : one = true -> 0 < (qs.getD 0 []).length:=by
 intro e
 subst e
 unfold a0x at h
 split at h
 · cases h
 · split at h
   · cases h
   · simp only [if_true,decide_eq_true_eq] at h; exact h.2
theorem c7D (A : Option Addr) (cp : Nat) (q : List Int) (x : Int) (s : Nat) (w : World) (hr : (Kd.int .i64).C w A q.length q) (hc : q.length <= cp) (hl : logC q ≠ 0) (hx : 0 <= x /\ x < 2 ^ logC q) (hs : s < 256) (hn : 0 < cntC q s) : Calls Tryz.prog 270 #[.slice A q.length cp,.int .i64 x,.int .i64 s] w (Ret (.tuple #[.int .i64 (a1p q x s),.int .i64 (a0C q x s),.int .u32 (a1r q x s),.bool true]) w):=by
 obtain ⟨k,hk⟩:=(c7A hl hx hs hn).rounds
 exact (puncheonref12_Step.calls k A cp q x s _ _ _ _ w hr hc hk).mono λ e w' h=>⟨h.1,h.2.below⟩
def MadeB (xs : List Bool) (w : World) (e : Ending) (w' : World) : Prop:=∃ v,e = .returned v /\ Kd.bool.R 4 w' w.heap.size (λ _=>True) v xs /\ Below w.heap.size w w'
def MadeU (xs : List Int) (w : World) (e : Ending) (w' : World) : Prop:=∃ v,e = .returned v /\ (Kd.int .u8).R 5 w' w.heap.size (λ _=>True) v xs /\ Below w.heap.size w w'
theorem a5O (A : Option Addr) (cp : Nat) (l : List Bool) (v n : Nat) (w : World) (hr : Kd.bool.C w A l.length l) (hc : l.length <= cp) (hn : n <= 64) (hv : v < 4294967296) (hl : l.length <= 1000000) : Calls Tryz.prog 226 #[.slice A l.length cp,.int .u32 v,.int .i64 n] w (MadeB (l ++ a0j v n) w):=by
 obtain ⟨k,hk⟩:=(c6R l v n hn hv hl).rounds
 exact puncheonref01_Put.calls k A cp l v n _ w hr hc hk
theorem c7E (A : Option Addr) (cp : Nat) (l : List Bool) (w : World) (hr : Kd.bool.C w A l.length l) (hc : l.length <= cp) (hl : l.length <= 100000) : Calls Tryz.prog 252 #[.slice A l.length cp] w (MadeU (packB (l ++ [true])) w):=by
 obtain ⟨k,hk⟩:=(c6Z l hl).rounds
 exact puncheonref01_Close.calls k A cp l _ w hr hc hk
theorem c7F {lg : Int} {one : Bool} {qs : List (List Int)} {b : List Int} {i : Nat} (hi : i < b.length) (h : fitAt one qs b i = false) : fitsM lg one qs b = false:=by
 unfold fitsM
 have : (List.range b.length).all (fitAt one qs b) = false:=by
  rw [List.all_eq_false]; exact ⟨i,List.mem_range.2 hi,by rw [h]; decide⟩
 rw [this,Bool.and_false]
theorem c7G {lg : Int} {one : Bool} {qs : List (List Int)} {b : List Int} (hr : a0x lg one qs = true) (h : ∀ i,i < b.length -> fitAt one qs b i = true) : fitsM lg one qs b = true:=by
 unfold fitsM
 rw [hr,Bool.true_and,List.all_eq_true]
 exact λ i hi=>h i (List.mem_range.1 hi)
end Go.Proofs.YtflfjpkmjnnodaaGreat
namespace Go.Proofs.YtflfjpkmjnnodaaGreat
open Go.RowKit Go.IntWalk Go.Proofs.YtflfjpkmjnnodaaGreatW.PrintWords
set_option maxRecDepth 100000 in
set_option maxHeartbeats 2000000 in
theorem c7H (lg : Int) (one : Bool) (A : Option Addr) (c : Nat) (qs : List (List Int)) (B : Option Addr) (cb : Nat) (b : List Int) (w : World) (hr : kq.C w A qs.length qs) (hc : qs.length <= c) (hl : qs.length <= 1000000) (hb : (Kd.int .u8).C w B b.length b) (hcb : b.length <= cb) (hby : Bytes b) (hbl : b.length <= 1000000) :
    Calls Tryz.prog 251 #[.agg #[.int .i64 lg,.bool one,.slice A qs.length c],.slice B b.length cb] w (Ret (.bool (fitsM lg one qs b)) w):=by
 obtain ⟨W1,hW1⟩ : ∃ W1,W1 = w.alloc (.cells #[.int .i64 lg,.bool one,.slice A qs.length c] 26):=⟨_,rfl⟩
 have HB:=Lib.hid ((Below.refl w.heap.size w).alloc (Nat.le_refl _) (.cells #[.int .i64 lg,.bool one,.slice A qs.length c] 26))
 have hk1 : W1.heap[w.heap.size]? = some (.cells #[.int .i64 lg,.bool one,.slice A qs.length c] 26 (0,0)):=by rw [hW1]; exact a0k _ _
 have HR : Hid (kq.C W1 A qs.length qs):=Lib.hid (by rw [hW1]; exact Kd.C_alloc hr _)
 have HBB : Hid ((Kd.int .u8).C W1 B b.length b):=Lib.hid (by rw [hW1]; exact Kd.C_alloc hb _)
 rw [<- hW1] at HB
 have HX:=Lib.hid (And.intro hc (And.intro hl (And.intro hcb (And.intro hby hbl))))
 have HK:=Lib.hid hk1
 have HLT:=Lib.hid (a0f hk1)
 obtain ⟨⟨m0,m1,m2⟩,_⟩:=cell3 hk1
 clear hr hc hl hb hcb hby hbl hk1
 go_enter Tryz.func251,Tryz.ntmps251
 go_wp2_with fail
 rw [<- hW1]
 clear hW1
 refine (c7d A c W1 lg one qs HR.out HX.out.1 HX.out.2.1).mono ?_
 rintro e w2 ⟨rfl,hb2⟩
 have HB2:=Lib.hid (show Below W1.heap.size W1 w2 from hb2)
 clear hb2 m0 m1 m2
 cases hz : a0x lg one qs with
 | false=>
  have HF : Hid (fitsM lg one qs b = false):=Lib.hid (by unfold fitsM; rw [hz]; rfl)
  clear hz
  go_wp2_with fail
  go_ret
  exact ⟨a0S HF.out.symm,a0g HB.out HB2.out⟩
 | true=>
  have HZ:=Lib.hid hz
  clear hz
  have hbl:=HX.out.2.2.2.2
  go_wp2_with fail
  go_loopw [6] (λ kv wr=>∃ (i : Nat),kv = .int .i64 i /\ i <= b.length /\ Hid ((∀ j,j < i -> fitAt one qs b j = true) /\ Below W1.heap.size W1 wr)) (λ kv _=>b.length - (intOf kv).toNat)
  case atStart=>exact ⟨0,rfl,by omega,Lib.hid ⟨λ j h=>by omega,HB2.out⟩⟩
  case round=>
   obtain ⟨i,rfl,hi,H⟩:=hrel
   have HBW:=Lib.hid H.out.2
   by_cases hlt : i < b.length
   · obtain ⟨x,hx⟩ : ∃ x : Nat,ctxI b i = x:=⟨(ctxI b i).toNat,by have:=a4f HX.out.2.2.2.1 i hlt; omega⟩
     have hx256 : x < 256:=by have:=a4f HX.out.2.2.2.1 i hlt; omega
     have hbg:=HX.out.2.2.2.1.get i
     obtain ⟨bi,hbi⟩ : ∃ k : Nat,b.getD i 0 = k:=⟨(b.getD i 0).toNat,by omega⟩
     have hb256 : bi < 256:=by omega
     have hiI : (i : Int) < (b.length : Int):=by omega
     obtain ⟨q,hq⟩ : ∃ q,q = qs.getD (listI one x) []:=⟨_,rfl⟩
     have HFA : Hid (fitAt one qs b i = decide (q.length ≠ 0 /\ q.getD bi 0 ≠ 0)):=Lib.hid (by unfold fitAt; rw [hx,<- hq,hbi,Int.toNat_natCast])
     have HLQ : Hid (q.length ≠ 0 -> q.length = 256):=Lib.hid λ h=>by
      have h2:=a6M HZ.out (listI one x) (by rw [<- hq]; exact h)
      rw [<- hq] at h2
      exact (a1B h2.1).len
     have HCX:=Lib.hid (show ∀ W : World,Below wr.heap.size wr W -> Calls Tryz.prog 256 #[.slice B b.length cb,.int .i64 i] W (Ret (.int .i64 x) W) from λ W hW=>by
      have:=b4E B cb b W (Kd.C_below HBB.out (a0g HBW.out hW)) HX.out.2.2.1 HX.out.2.2.2.1 (by omega) i
      rw [hx] at this; exact this)
     have HAX:=Lib.hid (show ∀ W : World,Below wr.heap.size wr W -> Calls Tryz.prog 125 #[.agg #[.int .i64 lg,.bool one,.slice A qs.length c],.int .i64 x] W (b0r q W) from λ W hW=>by
      have:=b6N lg one A c qs x W (Kd.C_below HR.out (a0g HBW.out hW)) HZ.out (b6O HZ.out) hx256
      rw [<- hq] at this; exact this)
     obtain ⟨⟨m0,m1,m2⟩,_⟩:=cell3 (a0i HK.out HBW.out)
     have HBI:=Lib.hid hbi
     have HST : Hid (fitAt one qs b i = true -> ∀ j,j < i + 1 -> fitAt one qs b j = true):=Lib.hid λ h j hj=>by
      by_cases e : j = i
      · rw [e]; exact h
      · exact H.out.1 j (by omega)
     have HNO : Hid (fitAt one qs b i = false -> fitsM lg one qs b = false):=Lib.hid λ h=>c7F hlt h
     have HIX:=Lib.hid hlt
     clear hq hbi hbg hx H hlt
     go_wp2_with fail
     go_region_held3 (λ w'=>w'.cell? ⟨w.heap.size,0,none⟩ = some (.int .i64 lg) /\ w'.cell? ⟨w.heap.size,1,none⟩ = some (.bool one) /\ w'.cell? ⟨w.heap.size,2,none⟩ = some (.slice A qs.length c)) ((repeat' apply And.intro) <;> first | assumption)
      (first
       | (go_at_call 256; refine (HCX.out _ (Below.refl _ _).drew).mono ?_; rintro e w3 ⟨rfl,hb3⟩; have HV3:=Lib.hid (show Below wr.heap.size wr w3 from ⟨hb3.os,hb3.tape,hb3.output,hb3.size,hb3.block⟩); obtain ⟨k0,k1,k2⟩:=a3i HV3.out (Nat.lt_of_lt_of_le HLT.out HBW.out.size) m0 m1 m2; clear hb3)
       | (go_at_call 125; refine (HAX.out _ HV3.out).mono ?_; rintro e w7 ⟨Bq,cq,rfl,hcq,hqC,hb7⟩; have HV7:=Lib.hid (And.intro hcq (And.intro hqC (a0g HV3.out hb7))); obtain ⟨l0,l1,l2⟩:=a3i HV7.out.2.2 (Nat.lt_of_lt_of_le HLT.out HBW.out.size) m0 m1 m2; clear hcq hqC hb7))
     clear k0 k1 k2 l0 l1 l2 m0 m1 m2
     by_cases h0 : q.length = 0
     · have d1 : ((q.length : Int) == 0) = true:=by rw [h0]; rfl
       have HF:=Lib.hid (HNO.out (by rw [HFA.out]; exact decide_eq_false (λ h=>h.1 h0)))
       clear h0
       go_wp2_with fail
       go_ret
       exact ⟨a0S HF.out.symm,a0g HB.out (a0g HBW.out HV7.out.2.2)⟩
     · have d1 : ((q.length : Int) == 0) = false:=by rw [beq_eq_false_iff_ne]; omega
       have hbl2 : bi < q.length:=by have:=HLQ.out h0; omega
       have hbiI : (bi : Int) < (q.length : Int):=by omega
       obtain ⟨adb,rfl,hcb0⟩:=a0v (Kd.C_below HBB.out (a0g HBW.out HV7.out.2.2)) i HIX.out
       obtain ⟨adq,rfl,hcq0⟩:=a0v HV7.out.2.1 bi hbl2
       rw [HBI.out] at hcb0
       have hcb1 : w7.cell? (adb.add i) = some (.int .u8 (bi : Int)):=hcb0
       obtain ⟨ct,hct⟩ : ∃ ct,ct = q.getD bi 0:=⟨_,rfl⟩
       rw [<- hct] at hcq0 HFA
       clear hcb0 hct hbl2
       by_cases hc0 : ct = 0
       · have d2 : (ct == 0) = true:=by rw [hc0]; rfl
         have HF:=Lib.hid (HNO.out (by rw [HFA.out]; exact decide_eq_false (λ h=>h.2 hc0)))
         clear h0 hc0
         go_wp2_with fail
         go_ret
         exact ⟨a0S HF.out.symm,a0g HB.out (a0g HBW.out HV7.out.2.2)⟩
       · have d2 : (ct == 0) = false:=by rw [beq_eq_false_iff_ne]; exact hc0
         have HF:=Lib.hid (HST.out (by rw [HFA.out]; exact decide_eq_true ⟨h0,hc0⟩))
         have hil:=HIX.out
         clear h0 hc0
         go_wp2_with fail
         go_roundw
         case rel=>exact ⟨i + 1,by go_num,by omega,Lib.hid ⟨HF.out,a0g HBW.out HV7.out.2.2⟩⟩
         case measure=>simp [intOf]; omega
   · obtain rfl : i = b.length:=by omega
     have HF:=Lib.hid (c7G HZ.out H.out.1)
     go_wp2_with fail
     go_ret
     exact ⟨a0S HF.out.symm,a0g HB.out HBW.out⟩
def BitsR (B0 : Nat) (v : Value) (l : List Bool) (wr : World) : Prop:=Kd.bool.R 4 wr B0 (λ _=>True) v l
theorem b0s {B0 : Nat} {v : Value} {l : List Bool} {wr : World} (h : BitsR B0 v l wr) : ∃ (A : Option Addr) (c : Nat),v = .slice A l.length c /\ l.length <= c /\ Kd.bool.C wr A l.length l:=by
 obtain ⟨A,c,rfl⟩:=Kd.R_slice h
 exact ⟨A,c,rfl,(Kd.R_reads' h).2⟩
theorem a7O (A : Option Addr) (cp m : Nat) (l : List Bool) (v n : Nat) (w : World) (hm : m = l.length) (hr : Kd.bool.C w A m l) (hc : m <= cp) (hn : n <= 64) (hv : v < 4294967296) (hl : m <= 1000000) : Calls Tryz.prog 226 #[.slice A m cp,.int .u32 v,.int .i64 n] w (MadeB (l ++ a0j v n) w):=by
 subst hm; exact a5O A cp l v n w hr hc hn hv hl
structure BRel (one : Bool) (qs : List (List Int)) (b : List Int) (B0 : Nat) (W1 : World) (v : Value) (k : Nat) (wr : World) : Prop where
 l : BitsR B0 v (encN one qs b k).2 wr
 below : Below W1.heap.size W1 wr
structure BStep (g : Nat) (one : Bool) (qs : List (List Int)) (b : List Int) (k i x : Nat) (ev od : Int) (y : Int) (n low : Nat) : Prop where
 now : (encN one qs b k).1 = (ev,od)
 sel : (x : Int) = if i % 2 = 0 then ev else od
 xlt : x < 2 ^ g
 ny : y = a1p (qAt one qs b i) x (b.getD i 0)
 nn : n = a0C (qAt one qs b i) x (b.getD i 0)
 nl : low = a1r (qAt one qs b i) x (b.getD i 0)
 small : n <= 12 /\ low < 4096
theorem c7I {one : Bool} {qs : List (List Int)} {b : List Int} {B0 : Nat} {W1 w1 w2 : World} {u : Value} {g k i x n low : Nat} {ev od y : Int} (hS : BStep g one qs b k i x ev od y n low) (hi : i = b.length - 1 - k) (hb1 : Below W1.heap.size W1 w1) (hB : B0 <= w1.heap.size)
    (hv : Kd.bool.R 4 w2 w1.heap.size (λ _=>True) u ((encN one qs b k).2 ++ a0j low n)) (hb : Below w1.heap.size w1 w2) : BRel one qs b B0 W1 u (k + 1) w2 /\ (encN one qs b (k + 1)).1 = (if i % 2 = 0 then (y,od) else (ev,y)):=by
 have e : encN one qs b (k + 1) = (if i % 2 = 0 then (y,od) else (ev,y),(encN one qs b k).2 ++ a0j low n):=by
  simp only [encN]
  rw [<- hi,hS.now]
  simp only []
  rw [<- hS.sel,<- hS.ny,<- hS.nn,<- hS.nl]
 refine ⟨⟨?_,a0g hb1 hb⟩,by rw [e]⟩
 unfold BitsR
 rw [e]
 exact Kd.R_lower hv hB
theorem c7J {g : Nat} {one : Bool} {qs : List (List Int)} {b : List Int} (h : fitsM g one qs b = true) (hb : Bytes b) {k i : Nat} (hk : k < b.length) (hi : i = b.length - 1 - k) : ∃ (ev od y : Int) (x n low : Nat),BStep g one qs b k i x ev od y n low:=by
 obtain ⟨h1,h2,h3⟩:=a4E h hb i (by omega)
 have hr:=a4F h hb k (by omega)
 simp only [Int.toNat_natCast] at hr
 have hlg : logC (qAt one qs b i) = g:=by omega
 obtain ⟨ev,hev⟩ : ∃ z,z = (encN one qs b k).1.1:=⟨_,rfl⟩
 obtain ⟨od,hod⟩ : ∃ z,z = (encN one qs b k).1.2:=⟨_,rfl⟩
 rw [<- hev,<- hod] at hr
 have hsel : 0 <= (if i % 2 = 0 then ev else od) /\ (if i % 2 = 0 then ev else od) < 2 ^ g:=by split; exact ⟨hr.1,hr.2.1⟩; exact ⟨hr.2.2.1,hr.2.2.2⟩
 obtain ⟨x,hx⟩ : ∃ x : Nat,(x : Int) = if i % 2 = 0 then ev else od:=⟨(if i % 2 = 0 then ev else od).toNat,by omega⟩
 rw [<- hx] at hsel
 have e2 : (2 : Int) ^ g = ((2 ^ g : Nat) : Int):=by simp
 have hxl : x < 2 ^ g:=by rw [e2] at hsel; omega
 have hN:=(a6R (s:=b.getD i 0) h1 (x:=(x : Int)) (by rw [hlg]; exact hsel) h3).1
 have hg12 : g <= 12:=by have:=(a1W (a2O h)).2.1; omega
 have hnr:=hN.nr
 have hlow:=hN.low
 have h4 : 2 ^ a0C (qAt one qs b i) x (b.getD i 0) <= 2 ^ 12:=Nat.pow_le_pow_right (by omega) (by omega)
 exact ⟨ev,od,_,x,_,_,⟨by rw [hev,hod],hx,hxl,rfl,rfl,rfl,⟨by omega,by omega⟩⟩⟩
set_option maxRecDepth 100000 in
set_option maxHeartbeats 2000000 in
theorem c7K (g : Nat) (one : Bool) (A : Option Addr) (c : Nat) (qs : List (List Int)) (B : Option Addr) (cb : Nat) (b : List Int) (w : World) (hr : kq.C w A qs.length qs) (hb : (Kd.int .u8).C w B b.length b) (hcb : b.length <= cb) (hby : Bytes b) (hbl : b.length <= 5000) (hfit : fitsM g one qs b = true) :
    Calls Tryz.prog 253 #[.agg #[.int .i64 g,.bool one,.slice A qs.length c],.slice B b.length cb] w (MadeB (a0O g one qs b) w):=by
 obtain ⟨W1,hW1⟩ : ∃ W1,W1 = w.alloc (.cells #[.int .i64 g,.bool one,.slice A qs.length c] 26):=⟨_,rfl⟩
 have HB:=Lib.hid ((Below.refl w.heap.size w).alloc (Nat.le_refl _) (.cells #[.int .i64 g,.bool one,.slice A qs.length c] 26))
 have hk1 : W1.heap[w.heap.size]? = some (.cells #[.int .i64 g,.bool one,.slice A qs.length c] 26 (0,0)):=by rw [hW1]; exact a0k _ _
 have HR : Hid (kq.C W1 A qs.length qs):=Lib.hid (by rw [hW1]; exact Kd.C_alloc hr _)
 have HBB : Hid ((Kd.int .u8).C W1 B b.length b):=Lib.hid (by rw [hW1]; exact Kd.C_alloc hb _)
 rw [<- hW1] at HB
 have hg : g <= 12:=by have:=(a1W (a2O hfit)).2.1; omega
 have HX:=Lib.hid (And.intro hfit (And.intro hcb (And.intro hby hbl)))
 have HK:=Lib.hid hk1
 have HLT:=Lib.hid (a0f hk1)
 have HS0 : Hid (w.heap.size <= W1.heap.size):=Lib.hid HB.out.size
 clear hr hb hcb hby hbl hk1 hfit
 have hbl:=HX.out.2.2.2
 go_enter Tryz.func253,Tryz.ntmps253
 go_wp2_with fail
 rw [<- hW1]
 clear hW1
 go_loopw [5,6,7,8] (λ lv ev ov kv wr=>∃ (k : Nat) (ex ox : Nat),kv = .int .i64 ((b.length : Int) - 1 - k) /\ ev = .int .i64 ex /\ ov = .int .i64 ox /\ k <= b.length /\ Hid (BRel one qs b w.heap.size W1 lv k wr /\ (encN one qs b k).1 = ((ex : Int),(ox : Int)))) (λ _ _ _ kv _=>((intOf kv) + 1).toNat)
 case atStart=>exact ⟨0,0,0,by go_num,rfl,rfl,by omega,Lib.hid ⟨⟨Kd.R_nil _ _ _ _ _,Below.refl _ _⟩,rfl⟩⟩
 case round=>
  obtain ⟨k,ex,ox,rfl,rfl,rfl,hk,H⟩:=hrel
  have HBW:=Lib.hid H.out.1.below
  obtain ⟨Al,cl,rfl,hcl,hlc⟩:=b0s H.out.1.l
  have HLC:=Lib.hid (And.intro hcl hlc)
  clear hcl hlc
  by_cases hlt : k < b.length
  · obtain ⟨i,hi⟩ : ∃ i,i = b.length - 1 - k:=⟨_,rfl⟩
    rw [show ((b.length : Int) - 1 - (k : Int)) = (i : Int) by omega]
    have hil : i < b.length:=by omega
    obtain ⟨ev,od,y,x,n,low,hS⟩:=c7J HX.out.1 HX.out.2.2.1 hlt hi
    have hnow:=hS.now
    rw [H.out.2] at hnow
    obtain ⟨rfl,rfl⟩:=Prod.mk.inj hnow
    clear hnow
    obtain ⟨cx,hcx⟩ : ∃ x : Nat,ctxI b i = x:=⟨(ctxI b i).toNat,by have:=a4f HX.out.2.2.1 i hil; omega⟩
    have hx256 : cx < 256:=by have:=a4f HX.out.2.2.1 i hil; omega
    have hbg:=HX.out.2.2.1.get i
    obtain ⟨bi,hbi⟩ : ∃ k : Nat,b.getD i 0 = k:=⟨(b.getD i 0).toNat,by omega⟩
    have hb256 : bi < 256:=by omega
    have hiI : (i : Int) < (b.length : Int):=by omega
    obtain ⟨q,hq⟩ : ∃ q,q = qAt one qs b i:=⟨_,rfl⟩
    have hfc:=a4E HX.out.1 HX.out.2.2.1 i hil
    have hq2 : qs.getD (listI one cx) [] = q:=by rw [hq]; unfold qAt; rw [hcx]
    have HCX:=Lib.hid (show ∀ W : World,Below wr.heap.size wr W -> Calls Tryz.prog 256 #[.slice B b.length cb,.int .i64 i] W (Ret (.int .i64 cx) W) from λ W hW=>by
     have:=b4E B cb b W (Kd.C_below HBB.out (a0g HBW.out hW)) HX.out.2.1 HX.out.2.2.1 (by omega) i
     rw [hcx] at this; exact this)
    have HAX:=Lib.hid (show ∀ W : World,Below wr.heap.size wr W -> Calls Tryz.prog 125 #[.agg #[.int .i64 g,.bool one,.slice A qs.length c],.int .i64 cx] W (b0r q W) from λ W hW=>by
     have:=b6N g one A c qs cx W (Kd.C_below HR.out (a0g HBW.out hW)) (a2O HX.out.1) (b6O (a2O HX.out.1)) hx256
     rw [hq2] at this; exact this)
    obtain ⟨⟨m0,m1,m2⟩,_⟩:=cell3 (a0i HK.out HBW.out)
    have HBI:=Lib.hid hbi
    have HIX:=Lib.hid hil
    have hsn:=hS.small
    have hsl:=hS.small.2
    have hny:=hS.ny
    have hnn:=hS.nn
    have hnl:=hS.nl
    rw [<- hq,hbi] at hny hnn hnl
    rw [<- hq,hbi] at hfc
    have HSTP:=Lib.hid (show ∀ (Bq : Option Addr) (cq : Nat) (W : World),q.length <= cq -> (Kd.int .i64).C W Bq q.length q -> Calls Tryz.prog 270 #[.slice Bq q.length cq,.int .i64 x,.int .i64 bi] W (Ret (.tuple #[.int .i64 y,.int .i64 n,.int .u32 low,.bool true]) W) from λ Bq cq W h1 h2=>by
     have hlg : logC q = g:=by omega
     have e2 : (2 : Int) ^ g = ((2 ^ g : Nat) : Int):=by simp
     have:=c7D Bq cq q x bi W h2 h1 hfc.1 (by have:=hS.xlt; rw [hlg,e2]; omega) hb256 hfc.2.2
     rw [<- hny,<- hnn,<- hnl] at this; exact this)
    have hy0 : ∃ yn : Nat,y = yn:=by
     have:=(a9a hfc.1 bi (a0V q x / 2 ^ a0C q x bi - cntC q bi)).1
     have h2 : y = (a1o q bi).getD (a0V q x / 2 ^ a0C q x bi - cntC q bi) 0:=hny
     exact ⟨y.toNat,by omega⟩
    obtain ⟨yn,rfl⟩:=hy0
    obtain ⟨L,hL⟩ : ∃ L,L = (encN one qs b k).2:=⟨_,rfl⟩
    have hLL : L.length <= 100000:=by rw [hL]; have:=a4G HX.out.1 HX.out.2.2.1 k hk; omega
    rw [<- hL] at HLC ⊢
    obtain ⟨m,hm⟩ : ∃ m,m = L.length:=⟨_,rfl⟩
    rw [<- hm] at HLC hLL ⊢
    have HML:=Lib.hid hm
    have HNX:=Lib.hid (λ (u : Value) (w1 w2 : World)=>c7I (u:=u) (w1:=w1) (w2:=w2) (B0:=w.heap.size) (W1:=W1) hS hi)
    rw [<- hL] at HNX
    have HSEL:=Lib.hid hS.sel
    have HIK:=Lib.hid hi
    have HBs : Hid (w.heap.size <= wr.heap.size):=Lib.hid (Nat.le_trans HS0.out HBW.out.size)
    clear hS hq hq2 hfc hbi hbg hcx H hL hm hny hnn hnl hi
    by_cases hp : i % 2 = 0
    · have d1 : ((i : Int) % 2 == 1) = false:=by rw [beq_eq_false_iff_ne]; omega
      have hxe : x = ex:=by have:=HSEL.out; rw [if_pos hp] at this; omega
      subst hxe
      have HP:=Lib.hid hp
      clear hp
      go_wp2_with fail
      go_region_held3 (λ w'=>w'.cell? ⟨w.heap.size,0,none⟩ = some (.int .i64 g) /\ w'.cell? ⟨w.heap.size,1,none⟩ = some (.bool one) /\ w'.cell? ⟨w.heap.size,2,none⟩ = some (.slice A qs.length c)) ((repeat' apply And.intro) <;> first | assumption)
       (first
        | (go_at_call 256; refine (HCX.out _ (Below.refl _ _).drew).mono ?_; rintro e w3 ⟨rfl,hb3⟩; have HV3:=Lib.hid (show Below wr.heap.size wr w3 from ⟨hb3.os,hb3.tape,hb3.output,hb3.size,hb3.block⟩); obtain ⟨k0,k1,k2⟩:=a3i HV3.out (Nat.lt_of_lt_of_le HLT.out HBW.out.size) m0 m1 m2; clear hb3)
        | (go_at_call 125; refine (HAX.out _ HV3.out).mono ?_; rintro e w7 ⟨Bq,cq,rfl,hcq,hqC,hb7⟩; have HV7:=Lib.hid (And.intro hcq (And.intro hqC (a0g HV3.out hb7))); obtain ⟨l0,l1,l2⟩:=a3i HV7.out.2.2 (Nat.lt_of_lt_of_le HLT.out HBW.out.size) m0 m1 m2; clear hcq hqC hb7))
      clear k0 k1 k2 l0 l1 l2 m0 m1 m2
      obtain ⟨adb,rfl,hcb0⟩:=a0v (Kd.C_below HBB.out (a0g HBW.out HV7.out.2.2)) i HIX.out
      rw [HBI.out] at hcb0
      have hcb1 : w7.cell? (adb.add i) = some (.int .u8 (bi : Int)):=hcb0
      clear hcb0
      go_wp2_with fail
      refine (HSTP.out Bq cq w7 HV7.out.1 HV7.out.2.1).mono ?_
      rintro e w8 ⟨rfl,hb8⟩
      have HV8:=Lib.hid (a0g HV7.out.2.2 hb8)
      have HBW8:=Lib.hid (a0g HBW.out HV8.out)
      have HPU:=Lib.hid (a7O Al cl m L low n w8 HML.out (Kd.C_below HLC.out.2 HV8.out) HLC.out.1 (by omega) (by omega) (by omega))
      clear hb8
      go_wp2_with fail
      refine HPU.out.mono ?_
      rintro e w9 ⟨u,rfl,hu,hb9⟩
      have HN:=Lib.hid (HNX.out u w8 w9 HBW8.out (Nat.le_trans HBs.out HV8.out.size) hu hb9)
      rw [if_pos HP.out] at HN
      have hil2:=HIX.out
      clear hu hb9
      go_wp2_with fail
      go_roundw
      case rel=>exact ⟨k + 1,yn,ox,by rw [show ((b.length : Int) - 1 - ((k + 1 : Nat) : Int)) = (i : Int) - 1 by have:=HIK.out; omega],rfl,rfl,by omega,HN⟩
      case measure=>first | (simp [intOf]; done) | (simp [intOf]; omega)
    · have d1 : ((i : Int) % 2 == 1) = true:=by rw [beq_iff_eq]; omega
      have hxe : x = ox:=by have:=HSEL.out; rw [if_neg hp] at this; omega
      subst hxe
      have HP:=Lib.hid hp
      clear hp
      go_wp2_with fail
      go_region_held3 (λ w'=>w'.cell? ⟨w.heap.size,0,none⟩ = some (.int .i64 g) /\ w'.cell? ⟨w.heap.size,1,none⟩ = some (.bool one) /\ w'.cell? ⟨w.heap.size,2,none⟩ = some (.slice A qs.length c)) ((repeat' apply And.intro) <;> first | assumption)
       (first
        | (go_at_call 256; refine (HCX.out _ (Below.refl _ _).drew).mono ?_; rintro e w3 ⟨rfl,hb3⟩; have HV3:=Lib.hid (show Below wr.heap.size wr w3 from ⟨hb3.os,hb3.tape,hb3.output,hb3.size,hb3.block⟩); obtain ⟨k0,k1,k2⟩:=a3i HV3.out (Nat.lt_of_lt_of_le HLT.out HBW.out.size) m0 m1 m2; clear hb3)
        | (go_at_call 125; refine (HAX.out _ HV3.out).mono ?_; rintro e w7 ⟨Bq,cq,rfl,hcq,hqC,hb7⟩; have HV7:=Lib.hid (And.intro hcq (And.intro hqC (a0g HV3.out hb7))); obtain ⟨l0,l1,l2⟩:=a3i HV7.out.2.2 (Nat.lt_of_lt_of_le HLT.out HBW.out.size) m0 m1 m2; clear hcq hqC hb7))
      clear k0 k1 k2 l0 l1 l2 m0 m1 m2
      obtain ⟨adb,rfl,hcb0⟩:=a0v (Kd.C_below HBB.out (a0g HBW.out HV7.out.2.2)) i HIX.out
      rw [HBI.out] at hcb0
      have hcb1 : w7.cell? (adb.add i) = some (.int .u8 (bi : Int)):=hcb0
      clear hcb0
      go_wp2_with fail
      refine (HSTP.out Bq cq w7 HV7.out.1 HV7.out.2.1).mono ?_
      rintro e w8 ⟨rfl,hb8⟩
      have HV8:=Lib.hid (a0g HV7.out.2.2 hb8)
      have HBW8:=Lib.hid (a0g HBW.out HV8.out)
      have HPU:=Lib.hid (a7O Al cl m L low n w8 HML.out (Kd.C_below HLC.out.2 HV8.out) HLC.out.1 (by omega) (by omega) (by omega))
      clear hb8
      go_wp2_with fail
      refine HPU.out.mono ?_
      rintro e w9 ⟨u,rfl,hu,hb9⟩
      have HN:=Lib.hid (HNX.out u w8 w9 HBW8.out (Nat.le_trans HBs.out HV8.out.size) hu hb9)
      rw [if_neg HP.out] at HN
      have hil2:=HIX.out
      clear hu hb9
      go_wp2_with fail
      go_roundw
      case rel=>exact ⟨k + 1,ex,yn,by rw [show ((b.length : Int) - 1 - ((k + 1 : Nat) : Int)) = (i : Int) - 1 by have:=HIK.out; omega],rfl,rfl,by omega,HN⟩
      case measure=>first | (simp [intOf]; done) | (simp [intOf]; omega)
  · obtain rfl : k = b.length:=by omega
    rw [show ((b.length : Int) - 1 - (b.length : Int)) = (-1 : Int) by omega]
    have hrg:=a4F HX.out.1 HX.out.2.2.1 b.length (Nat.le_refl _)
    rw [H.out.2] at hrg
    simp only [Int.toNat_natCast] at hrg
    have hp12 : (2 : Nat) ^ g <= 2 ^ 12:=Nat.pow_le_pow_right (by omega) hg
    have e2 : (2 : Int) ^ g = ((2 ^ g : Nat) : Int):=by simp
    rw [e2] at hrg
    have hex : ex < 4096:=by omega
    have hox : ox < 4096:=by omega
    have HEQ : Hid (a0O g one qs b = (encN one qs b b.length).2 ++ a0j ox g ++ a0j ex g):=Lib.hid (by
     unfold a0O
     simp only []
     rw [H.out.2]; simp)
    obtain ⟨L,hL⟩ : ∃ L,L = (encN one qs b b.length).2:=⟨_,rfl⟩
    have hLL : L.length <= 100000:=by rw [hL]; have:=a4G HX.out.1 HX.out.2.2.1 b.length (Nat.le_refl _); omega
    rw [<- hL] at HLC HEQ ⊢
    obtain ⟨m,hm⟩ : ∃ m,m = L.length:=⟨_,rfl⟩
    rw [<- hm] at HLC hLL ⊢
    have HML:=Lib.hid hm
    obtain ⟨⟨m0,m1,m2⟩,_⟩:=cell3 (a0i HK.out HBW.out)
    have HPU:=Lib.hid (a7O Al cl m L ox g wr HML.out HLC.out.2 HLC.out.1 (by omega) (by omega) (by omega))
    clear hrg hp12 e2 H hL hm
    go_wp2_with fail
    refine HPU.out.mono ?_
    rintro e w2 ⟨u2,rfl,hu2,hb2⟩
    have HB2:=Lib.hid (a0g HBW.out hb2)
    obtain ⟨A2,c2,rfl,hc2,hl2⟩:=b0s (B0:=wr.heap.size) hu2
    obtain ⟨L2,hL2⟩ : ∃ L2,L2 = L ++ a0j ox g:=⟨_,rfl⟩
    have hLL2 : L2.length <= 100020:=by rw [hL2,List.length_append,a0E]; have:=HML.out; omega
    rw [<- hL2] at HEQ hc2 hl2 ⊢
    obtain ⟨m2',hm2⟩ : ∃ m,m = L2.length:=⟨_,rfl⟩
    rw [<- hm2] at hc2 hl2 hLL2 ⊢
    have HML2:=Lib.hid hm2
    have HPU2:=Lib.hid (a7O A2 c2 m2' L2 ex g w2 HML2.out hl2 hc2 (by omega) (by omega) (by omega))
    clear hu2 hb2 hL2 hm2 hc2 hl2 m0 m1 m2
    obtain ⟨⟨m0,m1,m2⟩,_⟩:=cell3 (a0i HK.out HB2.out)
    go_wp2_with fail
    refine HPU2.out.mono ?_
    rintro e w3 ⟨u3,rfl,hu3,hb3⟩
    have HU3:=Lib.hid hu3
    have HB3:=Lib.hid (a0g HB2.out hb3)
    have HS2 : Hid (w.heap.size <= w2.heap.size):=Lib.hid (Nat.le_trans HS0.out HB2.out.size)
    clear hu3 hb3
    go_wp2_with fail
    go_ret
    exact ⟨u3,rfl,by rw [HEQ.out]; exact Kd.R_lower HU3.out HS2.out,a0g HB.out HB3.out⟩
set_option maxRecDepth 100000 in
set_option maxHeartbeats 2000000 in
theorem b6P (lg : Int) (one : Bool) (A : Option Addr) (c : Nat) (qs : List (List Int)) (B : Option Addr) (cb : Nat) (b : List Int) (w : World) (hr : kq.C w A qs.length qs) (hc : qs.length <= c) (hl : qs.length <= 1000000) (hb : (Kd.int .u8).C w B b.length b) (hcb : b.length <= cb) (hby : Bytes b) (hbl : b.length <= 5000) :
    Calls Tryz.prog 228 #[.agg #[.int .i64 lg,.bool one,.slice A qs.length c],.slice B b.length cb] w (b3J lg one qs b w):=by
 obtain ⟨W1,hW1⟩ : ∃ W1,W1 = w.alloc (.cells #[.int .i64 lg,.bool one,.slice A qs.length c] 26):=⟨_,rfl⟩
 have HB:=Lib.hid ((Below.refl w.heap.size w).alloc (Nat.le_refl _) (.cells #[.int .i64 lg,.bool one,.slice A qs.length c] 26))
 have hk1 : W1.heap[w.heap.size]? = some (.cells #[.int .i64 lg,.bool one,.slice A qs.length c] 26 (0,0)):=by rw [hW1]; exact a0k _ _
 have HR : Hid (kq.C W1 A qs.length qs):=Lib.hid (by rw [hW1]; exact Kd.C_alloc hr _)
 have HBB : Hid ((Kd.int .u8).C W1 B b.length b):=Lib.hid (by rw [hW1]; exact Kd.C_alloc hb _)
 rw [<- hW1] at HB
 have HX:=Lib.hid (And.intro hc (And.intro hl (And.intro hcb (And.intro hby hbl))))
 have HK:=Lib.hid hk1
 have hbl2 : (b.length : Int) <= 5000:=by omega
 have d1 : decide (131072 < (b.length : Int)) = false:=decide_eq_false (by omega)
 obtain ⟨⟨m0,m1,m2⟩,_⟩:=cell3 hk1
 clear hr hc hl hb hcb hby hbl hk1
 go_enter Tryz.func228,Tryz.ntmps228
 go_wp2_with fail
 rw [<- hW1]
 clear hW1
 refine (c7H lg one A c qs B cb b W1 HR.out HX.out.1 HX.out.2.1 HBB.out HX.out.2.2.1 HX.out.2.2.2.1 (by omega)).mono ?_
 rintro e w2 ⟨rfl,hb2⟩
 have HB2:=Lib.hid (show Below W1.heap.size W1 w2 from hb2)
 clear hb2 m0 m1 m2
 cases hz : fitsM lg one qs b with
 | false=>
  have HF : Hid (canM lg one qs b = false):=Lib.hid (by unfold canM; rw [hz,Bool.and_false])
  clear hz
  go_wp2_with fail
  go_ret2
  exact ⟨λ _=>rfl,(λ h=>by rw [HF.out] at h; cases h),a0g HB.out HB2.out⟩
 | true=>
  have HF : Hid (canM lg one qs b = true):=Lib.hid (by unfold canM; rw [hz,Bool.and_true]; exact decide_eq_true (by omega))
  have HZ:=Lib.hid hz
  obtain ⟨g,rfl⟩ : ∃ g : Nat,lg = g:=⟨lg.toNat,by have:=(a1W (a2O hz)).1; omega⟩
  clear hz
  obtain ⟨⟨m0,m1,m2⟩,_⟩:=cell3 (a0i HK.out HB2.out)
  go_wp2_with fail
  refine (c7K g one A c qs B cb b w2 (Kd.C_below HR.out HB2.out) (Kd.C_below HBB.out HB2.out) HX.out.2.2.1 HX.out.2.2.2.1 HX.out.2.2.2.2 HZ.out).mono ?_
  rintro e w3 ⟨u,rfl,hu,hb3⟩
  have HB3:=Lib.hid (a0g HB2.out hb3)
  obtain ⟨A3,c3,rfl,hc3,hl3⟩:=b0s (B0:=w2.heap.size) hu
  have hel:=a3G HZ.out HX.out.2.2.2.1
  have hS3 : Hid (w.heap.size <= w3.heap.size):=Lib.hid (Nat.le_trans HB.out.size HB3.out.size)
  have HCL:=Lib.hid (c7E A3 c3 _ w3 hl3 hc3 (by omega))
  clear hu hb3 hc3 hl3 hel
  go_wp2_with fail
  refine HCL.out.mono ?_
  rintro e w4 ⟨v,rfl,hv,hb4⟩
  have HV:=Lib.hid (And.intro hv hb4)
  clear hv hb4
  go_wp2_with fail
  go_ret2
  exact ⟨(λ h=>by rw [HF.out] at h; cases h),λ _=>⟨v,rfl,Kd.R_lower HV.out.1 hS3.out⟩,a0g HB.out (a0g HB3.out HV.out.2)⟩
set_option maxRecDepth 100000 in
theorem c7L (n : Nat) (w : World) (hn : n <= 4096) : Calls Tryz.prog 163 #[.int .i64 n] w (λ e w'=>e = .returned (.int .i64 (Lib.bitLen n : Nat)) /\ w = w'):=by
 go_enter Tryz.func163,Tryz.ntmps163
 go_wp2_with fail
 go_loop [0,3] (λ nv kv=>∃ m k : Nat,nv = .int .i64 m /\ kv = .int .i64 k /\ m <= 4096 /\ k <= 64 /\ k + Lib.bitLen m = Lib.bitLen n) (λ nv _=>(intOf nv).toNat)
 case atStart=>exact ⟨n,0,rfl,rfl,hn,by omega,by omega⟩
 case round=>
  obtain ⟨m,k,rfl,rfl,hm,hk,hs⟩:=hrel
  have HS:=Lib.hid hs
  have hb:=Lib.bitLen_le n 13 (by decide) (show n < 2 ^ 13 from by omega)
  clear hs
  by_cases h0 : m = 0
  · subst h0
    have HE : Hid (k = Lib.bitLen n):=Lib.hid (by have:=HS.out; have e : Lib.bitLen 0 = 0:=by decide
                                                  omega)
    clear HS hb
    go_wp2_with fail
    go_ret
    exact ⟨by rw [<- HE.out]; rfl,rfl⟩
  · have hh:=Lib.bitLen_half m h0 (by omega)
    have hmI : (0 : Int) < (m : Int):=by omega
    obtain ⟨m2,hm2⟩ : ∃ m2,m2 = m / 2:=⟨_,rfl⟩
    have hmd : (m : Int) / 2 = (m2 : Int):=by omega
    have hmt : (m : Int).tdiv 2 = (m2 : Int):=by rw [Int.tdiv_eq_ediv_of_nonneg (by omega)]; exact hmd
    rw [<- hm2] at hh
    have HX:=Lib.hid (And.intro hh (And.intro hm2 hb))
    have hk63 : k <= 63:=by have:=HS.out; omega
    clear h0 hh hm2 hb hk
    go_wp2_with fail
    go_round
    case rel=>exact ⟨m2,k + 1,rfl,by go_num,by have:=HX.out; omega,by omega,by have:=HX.out; have:=HS.out; omega⟩
    case measure=>have:=HX.out; simp [intOf]; omega
set_option maxRecDepth 100000 in
theorem c7M (v left : Nat) (w : World) (h1 : 1 <= left) (h2 : left <= 4096) (h3 : v <= left) : Calls Tryz.prog 269 #[.int .i64 v,.int .i64 left] w (λ e w'=>e = .returned (.bool true) /\ w = w'):=by
 have a1 : decide ((1 : Int) <= (left : Int)) = true:=decide_eq_true (by omega)
 have a2 : decide ((left : Int) <= 4096) = true:=decide_eq_true (by omega)
 have a3 : decide ((v : Int) <= (left : Int)) = true:=decide_eq_true (by omega)
 have a4 : decide ((0 : Int) <= (v : Int)) = true:=decide_eq_true (by omega)
 go_enter Tryz.func269,Tryz.ntmps269
 go_wp2_with fail
 go_ret
 exact ⟨by first | rfl | exact a0S (by simp; omega),rfl⟩
theorem c7N {n : Nat} (h : n <= 4096) : Lib.bitLen n <= 64:=Nat.le_trans (Lib.bitLen_le n 13 (by decide) (show n < 2 ^ 13 from by omega)) (by decide)
set_option maxRecDepth 100000 in
theorem c7O (A : Option Addr) (cp : Nat) (l : List Bool) (v left : Nat) (w : World) (hr : Kd.bool.C w A l.length l) (hc : l.length <= cp) (h1 : 1 <= left) (h2 : left <= 4096) (h3 : v <= left) (hl : l.length <= 1000000) :
    Calls Tryz.prog 249 #[.slice A l.length cp,.int .i64 v,.int .i64 left] w (MadeB (l ++ a0j v (Lib.bitLen left)) w):=by
 have HP:=Lib.hid (a5O A cp l v (Lib.bitLen left) w hr hc (c7N h2) (by omega) hl)
 have hw : IntKind.u32.wrap (v : Int) = (v : Int):=by rw [IntKind.wrap_u32']; omega
 have HW:=Lib.hid (c7L left w h2)
 have HC:=Lib.hid (c7M v left w h1 h2 h3)
 obtain ⟨k,hk⟩ : ∃ k,k = Lib.bitLen left:=⟨_,rfl⟩
 rw [<- hk] at HP HW ⊢
 clear hr hc h1 h2 h3 hl hk
 go_enter Tryz.func249,Tryz.ntmps249
 go_wp2_with fail
 refine HC.out.mono ?_
 rintro e w' ⟨rfl,rfl⟩
 go_wp2_with fail
 refine HW.out.mono ?_
 rintro e w' ⟨rfl,rfl⟩
 go_wp2_with fail
 refine HP.out.mono ?_
 rintro e w1 ⟨v1,rfl,hv,hb⟩
 have H1:=Lib.hid (And.intro hv hb)
 clear hv hb
 go_wp2_with fail
 go_ret
 exact ⟨v1,rfl,H1.out.1,H1.out.2⟩
set_option maxRecDepth 100000 in
theorem c7P (n : Nat) : ∀ (A : Option Addr) (cp : Nat) (l : List Bool) (w : World),Kd.bool.C w A l.length l -> l.length <= cp -> n <= 255 -> l.length + n <= 1000000 ->
    Calls Tryz.prog 250 #[.slice A l.length cp,.int .i64 n] w (MadeB (l ++ runB n) w):=by
 induction n using Nat.strongRecOn with
 | _ n ih=>
  intro A cp l w hr hc hn hl
  have a1 : decide ((n : Int) < 0) = false:=decide_eq_false (by omega)
  have a2 : decide ((255 : Int) < (n : Int)) = false:=decide_eq_false (by omega)
  by_cases h3 : 3 <= n
  · have HP:=Lib.hid (a5O A cp l 3 2 w hr hc (by decide) (by decide) (by omega))
    have HI:=Lib.hid (ih (n - 3) (by omega))
    have hI3 : (3 : Int) <= (n : Int):=by omega
    have hE : runB n = a0j 3 2 ++ runB (n - 3):=a6Y h3
    rw [hE,<- List.append_assoc]
    obtain ⟨m,hm⟩ : ∃ m,m = n - 3:=⟨_,rfl⟩
    rw [<- hm] at HI ⊢
    have hmI : (n : Int) - 3 = (m : Int):=by omega
    obtain ⟨L,hL⟩ : ∃ L,L = l ++ a0j 3 2:=⟨_,rfl⟩
    have hLl : L.length = l.length + 2:=by rw [hL,List.length_append,a0E]
    have HLl:=Lib.hid (And.intro hLl (show L.length + m <= 1000000 from by omega))
    have hmw : m <= 255:=by omega
    rw [<- hL] at HP ⊢
    clear ih hr hc hn hl h3 hE hm hL hLl
    go_enter Tryz.func250,Tryz.ntmps250
    go_wp2_with fail
    refine HP.out.mono ?_
    rintro e w1 ⟨v1,rfl,hv,hb⟩
    obtain ⟨A1,c1,rfl⟩:=Kd.R_slice hv
    obtain ⟨_,hc1,hC1⟩:=Kd.R_reads' hv
    have H1:=Lib.hid (And.intro hC1 (And.intro (show L.length <= c1 from hc1) hb))
    clear hv hb hC1 hc1
    go_wp2_with fail
    refine (HI.out A1 c1 L w1 H1.out.1 H1.out.2.1 hmw HLl.out.2).mono ?_
    rintro e w2 ⟨v2,rfl,hv,hb⟩
    have H2:=Lib.hid (And.intro hv hb)
    clear hv hb
    go_wp2_with fail
    go_ret
    exact ⟨v2,rfl,Kd.R_lower H2.out.1 H1.out.2.2.size,a0g H1.out.2.2 H2.out.2⟩
  · have HP:=Lib.hid (a5O A cp l n 2 w hr hc (by decide) (by omega) (by omega))
    have hI3 : ¬ (3 : Int) <= (n : Int):=by omega
    have hw : IntKind.u32.wrap (n : Int) = (n : Int):=by rw [IntKind.wrap_u32']; omega
    rw [a6X (by omega)]
    clear ih hr hc hn hl h3
    go_enter Tryz.func250,Tryz.ntmps250
    go_wp2_with fail
    refine HP.out.mono ?_
    rintro e w1 ⟨v1,rfl,hv,hb⟩
    have H1:=Lib.hid (And.intro hv hb)
    clear hv hb
    go_wp2_with fail
    go_ret
    exact ⟨v1,rfl,H1.out.1,H1.out.2⟩
open Go.Proofs.YtflfjpkmjnnodaaGreat.PRef
def ReadB (xs : List Bool) (w : World) (e : Ending) (w' : World) : Prop:=∃ A c,e = .returned (.slice A xs.length c) /\ Kd.bool.C w' A xs.length xs /\ xs.length <= c /\ Below w.heap.size w w'
theorem MadeB.out {xs : List Bool} {w : World} {e : Ending} {w' : World} (h : MadeB xs w e w') : ∃ A c,e = .returned (.slice A xs.length c) /\ Kd.bool.C w' A xs.length xs /\ xs.length <= c /\ Below w.heap.size w w':=by
 obtain ⟨v,rfl,hv,hb⟩:=h
 obtain ⟨A,c,rfl⟩:=Kd.R_slice hv
 obtain ⟨_,hc,hC⟩:=Kd.R_reads' hv
 exact ⟨A,c,rfl,hC,hc,hb⟩
theorem c7Q (A : Option Addr) (cp r : Nat) (q : List Int) (w : World) (hr : (Kd.int .i64).C w A q.length q) (hc : q.length <= cp) (hn : Nrm q r) :
    Calls Tryz.prog 172 #[.slice A q.length cp] w (λ e w'=>e = .returned (.int .i64 (r : Nat)) /\ Below w.heap.size w w'):=by
 obtain ⟨k,hk⟩:=(a7e q).rounds
 rw [hn.log] at hk
 exact (puncheonref08_Log.calls k A cp q _ w hr hc hk).mono λ e w' h=>⟨h.1,by obtain ⟨n,hd⟩:=h.2; rw [hd]; exact a0b (Below.refl _ _) n⟩
structure HRel (q : List Int) (P : Nat) (l L : List Bool) (A : Option Addr) (c s left : Nat) (w wr : World) : Prop where
 row : Kd.bool.C wr A L.length L
 cap : L.length <= c
 bel : Below w.heap.size w wr
 all : ∃ d,L ++ hdrB q d s left = l ++ hdrB q 257 0 P /\ (q.drop s).sum = (left : Int) /\ 257 <= s + d
set_option maxRecDepth 100000 in
set_option maxHeartbeats 2000000 in
theorem b6Q (A B : Option Addr) (cl cp r : Nat) (l : List Bool) (q : List Int) (w : World) (hr : Kd.bool.C w A l.length l) (hc : l.length <= cl) (hq : (Kd.int .i64).C w B q.length q) (hqc : q.length <= cp) (hn : Nrm q r) (hl : l.length <= 800000) :
    Calls Tryz.prog 227 #[.slice A l.length cl,.slice B 256 cp] w (ReadB (l ++ hdrB q 257 0 (2 ^ r)) w):=by
 have hp12 : 2 ^ r <= 2 ^ 12:=Nat.pow_le_pow_right (by omega) hn.r12
 have HLen : Hid ((l ++ hdrB q 257 0 (2 ^ r)).length <= 880000):=by
  show _ <= _
  have e2 : (2 : Int) ^ r = ((2 ^ r : Nat) : Int):=by simp
  have h1:=a3K hn.r12 hn.len hn.nn 257 0 (2 ^ r) (by omega) (by rw [List.drop_zero,hn.sum,e2]) (by rw [Nat.pow_succ]; have:=Nat.two_pow_pos r; omega)
  have h2 : (256 - 0) * (r + 3) <= 256 * 15:=Nat.mul_le_mul (by omega) (by have:=hn.r12; omega)
  rw [List.length_append]; omega
 obtain ⟨P,hP⟩ : ∃ P : Nat,P = 2 ^ r:=⟨_,rfl⟩
 have hPI : (2 : Int) ^ r = (P : Int):=by rw [hP]; simp
 have hPb : 1 <= P /\ P <= 4096:=by have:=Nat.two_pow_pos r; omega
 have HLog:=Lib.hid (c7Q B cp r q w hq hqc hn)
 rw [hn.len] at HLog
 have hsum : (q.drop 0).sum = (P : Int):=by rw [List.drop_zero,hn.sum,hPI]
 have HN:=Lib.hid hn
 have HQ:=Lib.hid hq
 have HA:=Lib.hid (And.intro hr hc)
 have hr0 : ((r : Int) == 0) = false:=by have:=hn.r1; simp; omega
 have hr12 : r <= 12:=hn.r12
 have hr1 : 1 <= r:=hn.r1
 have HSu:=Lib.hid hsum
 rw [<- hP] at HLen ⊢
 clear hr hc hq hqc hn hl hp12 hP hsum
 go_enter Tryz.func227,Tryz.ntmps227
 go_wp2_with fail
 refine HLog.out.mono ?_
 rintro e w1 ⟨rfl,hb1⟩
 have H0 : Hid (HRel q P l l A cl 0 P w w1):=Lib.hid ⟨Kd.C_below HA.out.1 hb1,HA.out.2,hb1,257,rfl,HSu.out,by omega⟩
 clear hb1
 go_wp2_with fail
 go_loopw [0,6,7,8] (λ v lv sv _ wr=>∃ (L : List Bool) (Al : Option Addr) (c left s : Nat),v = .slice Al L.length c /\ lv = .int .i64 left /\ sv = .int .i64 s /\ left <= 4096 /\ s <= 256 /\ Hid (HRel q P l L Al c s left w wr)) (λ _ _ sv _ _=>257 - (intOf sv).toNat)
 case atStart=>exact ⟨l,A,cl,P,0,rfl,rfl,rfl,by omega,by omega,H0⟩
 case round=>
  obtain ⟨L,Al,c,left,s,rfl,rfl,rfl,hl4,hs,H⟩:=hrel
  obtain ⟨d,hbs,hsm,hd2⟩:=H.out.all
  by_cases h0 : left = 0
  · have HE : Hid (L = l ++ hdrB q 257 0 P):=Lib.hid (by
      have : hdrB q d s left = []:=by
       cases d with
       | zero=>rfl
       | succ d=>simp only [hdrB]; rw [if_pos h0]
      rw [this,List.append_nil] at hbs
      exact hbs)
    clear hbs hsm hd2
    subst h0
    go_wp2_with fail
    go_ret
    rw [<- HE.out]
    exact ⟨Al,c,rfl,H.out.row,H.out.cap,H.out.bel⟩
  · have hs256 : s < 256:=by
      by_cases e : s < 256
      · exact e
      · exfalso; rw [List.drop_of_length_le (by have:=HN.out.len; omega)] at hsm; simp at hsm; omega
    obtain ⟨d',rfl⟩ : ∃ d',d = d' + 1:=⟨d - 1,by omega⟩
    have hds:=a5x (q:=q) (s:=s) (by have:=HN.out.len; omega)
    have hdn:=a7a HN.out.nn (s + 1)
    have hx0:=HN.out.nn _ (a1y (show s < q.length by have:=HN.out.len; omega))
    obtain ⟨x,hx⟩ : ∃ x : Nat,q.getD s 0 = x:=⟨(q.getD s 0).toNat,by omega⟩
    have hxl : x <= left:=by omega
    have hunf : hdrB q (d' + 1) s left = a0j x (Lib.bitLen left) ++ (if x = 0 then runB (a0M q (s + 1)) ++ hdrB q d' (s + 1 + a0M q (s + 1)) left else hdrB q d' (s + 1) (left - x)):=by
     simp only [hdrB]
     rw [if_neg h0,hx,Int.toNat_natCast]
     by_cases e : x = 0
     · rw [if_pos (by omega),if_pos e]
     · rw [if_neg (by omega),if_neg e]
    rw [hunf] at hbs
    have hbl : L.length + (a0j x (Lib.bitLen left)).length <= 880000:=by
     have:=congrArg List.length hbs
     rw [List.length_append,List.length_append] at this
     have:=HLen.out; omega
    rw [hds,hx] at hsm
    have HS:=Lib.hid (And.intro hbs (And.intro hbl (And.intro hsm (And.intro hd2 hx))))
    obtain ⟨ad,hA,hcell⟩:=a0v (Kd.C_below HQ.out H.out.bel) s (by have:=HN.out.len; omega)
    rw [hx] at hcell
    subst hA
    have HP13:=Lib.hid (c7O Al c L x left wr H.out.row H.out.cap (by omega) hl4 hxl (by omega))
    obtain ⟨M,hM⟩ : ∃ M,M = L ++ a0j x (Lib.bitLen left):=⟨_,rfl⟩
    rw [<- hM] at HP13
    have HM:=Lib.hid hM
    have hs256I : (s : Int) < 256:=by omega
    have hleft0 : (0 : Int) < (left : Int):=by omega
    clear hbs hbl hsm hd2 hds hdn hx0 hunf hx hM
    go_wp2_with fail
    refine HP13.out.mono ?_
    intro e w2 h2
    obtain ⟨A2,c2,rfl,hC2,hc2,hb2⟩:=h2.out
    have HB2:=Lib.hid (a0g H.out.bel hb2)
    have hcell2:=a0t hb2 hcell
    have H2:=Lib.hid (And.intro hC2 hc2)
    obtain ⟨ls,hls⟩ : ∃ ls,ls = left - x:=⟨_,rfl⟩
    have hlsI : (left : Int) - (x : Int) = (ls : Int):=by omega
    have HLS:=Lib.hid hls
    clear h2 hC2 hc2 hb2 hcell
    by_cases hxz : x = 0
    · have hzs:=a4I q (s + 1) (by have:=HN.out.len; omega)
      have hzm:=a7b (q:=q) (t:=s + 1) (by have:=HN.out.len; omega) (a0M q (s + 1)) (Nat.le_refl _)
      have hbs:=HS.out.1
      rw [if_pos hxz] at hbs
      obtain ⟨z,hz⟩ : ∃ z,z = a0M q (s + 1):=⟨_,rfl⟩
      rw [<- hz] at hzs hzm hbs
      have hzlt : s + 1 + z < 256:=by
       by_cases e : s + 1 + z < 256
       · exact e
       · exfalso
         have h3:=HS.out.2.2.1
         rw [hzm,List.drop_of_length_le (by have:=HN.out.len; omega)] at h3
         simp at h3; omega
      have HZ:=Lib.hid (And.intro hzs (And.intro hzm hbs))
      have HXZ:=Lib.hid hxz
      subst hxz
      have hlsE : ls = left:=by omega
      subst hlsE
      clear hzs hzm hz hbs hls hlsI
      go_wp2_with fail
      go_loop [7,8] (λ sv nv=>∃ j : Nat,j <= z /\ sv = .int .i64 ((s + 1 + j : Nat) : Int) /\ nv = .int .i64 j) (λ _ nv=>z - (intOf nv).toNat)
      case atStart=>exact ⟨0,by omega,by go_num,rfl⟩
      case round=>
       obtain ⟨j,hj,rfl,rfl⟩:=hrel
       obtain ⟨ad3,hA3,hcell3⟩:=a0v (Kd.C_below HQ.out HB2.out) (s + 1 + j) (by have:=HN.out.len; omega)
       injection hA3 with hA3
       subst hA3
       by_cases hjz : j < z
       · have hq0:=HZ.out.1.2.1 j hjz
         rw [hq0] at hcell3
         obtain ⟨t,ht⟩ : ∃ t,t = s + 1 + j:=⟨_,rfl⟩
         have hT:=Lib.hid ht
         rw [<- ht] at hcell3 ⊢
         have ht256 : (t : Int) < 256:=by omega
         clear ht hq0
         go_wp2_with fail
         go_round
         case rel=>exact ⟨j + 1,by omega,by rw [show s + 1 + (j + 1) = t + 1 by have:=hT.out; omega]; go_num,by go_num⟩
         case measure=>simp [intOf]; omega
       · obtain rfl : j = z:=by omega
         have hqn:=HZ.out.1.2.2 (by have:=HN.out.len; omega)
         obtain ⟨y,hy⟩ : ∃ y,y = q.getD (s + 1 + j) 0:=⟨_,rfl⟩
         rw [<- hy] at hcell3 hqn
         have hyb : (y == 0) = false:=by simpa using hqn
         obtain ⟨t,ht⟩ : ∃ t,t = s + 1 + j:=⟨_,rfl⟩
         have hT:=Lib.hid ht
         rw [<- ht] at hcell3 ⊢
         have ht256 : (t : Int) < 256:=by omega
         have HP14:=Lib.hid (c7P j A2 c2 M w2 H2.out.1 H2.out.2 (by omega) (by have h:=HS.out.2.1; have h3:=HM.out; rw [h3,List.length_append]; omega))
         obtain ⟨M2,hM2⟩ : ∃ l,l = M ++ runB j:=⟨_,rfl⟩
         rw [<- hM2] at HP14
         have HM2:=Lib.hid hM2
         clear ht hqn hy hM2
         go_wp2_with fail
         refine HP14.out.mono ?_
         intro e w3 h3
         obtain ⟨A3,c3,rfl,hC3,hc3,hb3⟩:=h3.out
         have HR3 : Hid (HRel q P l M2 A3 c3 t ls w w3):=Lib.hid ⟨hC3,hc3,a0g HB2.out hb3,d',by
          rw [<- HZ.out.2.2,HM2.out,HM.out,hT.out]; simp only [List.append_assoc],by
          have h1:=HZ.out.2.1
          have h2:=HS.out.2.2.1
          rw [hT.out,<- h1]; omega,by have:=HS.out.2.2.2.1; have:=hT.out; omega⟩
         clear h3 hC3 hc3 hb3
         go_wp2_with fail
         go_roundw
         case rel=>exact ⟨M2,A3,c3,ls,t,rfl,by first | rfl | go_num,rfl,hl4,by omega,HR3⟩
         case measure=>have:=hT.out; simp [intOf]; omega
    · have hxb : (0 : Int) < (x : Int):=by omega
      have HR3 : Hid (HRel q P l M A2 c2 (s + 1) ls w w2):=Lib.hid ⟨H2.out.1,H2.out.2,HB2.out,d',by
       have hbs:=HS.out.1
       rw [if_neg hxz] at hbs
       rw [<- hbs,HM.out,HLS.out,List.append_assoc],by
       have h2:=HS.out.2.2.1; have:=HLS.out; omega,by have:=HS.out.2.2.2.1; omega⟩
      have hlsl : ls <= 4096:=by omega
      clear hls hxz
      go_wp2_with fail
      go_roundw
      case rel=>exact ⟨M,A2,c2,ls,s + 1,rfl,rfl,by go_num,hlsl,by omega,HR3⟩
      case measure=>simp [intOf]; omega
end Go.Proofs.YtflfjpkmjnnodaaGreat
namespace Go.Proofs.YtflfjpkmjnnodaaGreat
open Go.RowKit Go.IntWalk Go.Proofs.YtflfjpkmjnnodaaGreatW.PrintWords
theorem b6R : a0j 0 1 = [false]:=by decide
theorem b6S : a0j 1 1 = [true]:=by decide
theorem c7R {l : List Int} (h : Asc l) {i : Nat} (hi : i <= l.length) : putN l i <= 256:=by
 cases i with
 | zero=>exact Nat.zero_le _
 | succ i=>
  show (l.getD i 0).toNat + 1 <= 256
  have:=h.hi _ (a1y (show i < l.length by omega)); omega
theorem a7P {l : List Int} {n : Nat} (hn : n <= 256) : ((dirB l).take n).length = n:=by
 rw [List.length_take,a2B]; omega
def DRel (P : Nat) (l : List Int) (n : Nat) (W wr : World) : Prop:=PutRel P P (.slice none 0 0) ((dirB l).take n) W wr
theorem DRel.cell {P n : Nat} {l : List Int} {W wr : World} (h : DRel P l n W wr) (hn : n <= 256) : wr.cell? ⟨P,1,none⟩ = some (.int .i64 n):=by
 obtain ⟨v,h1,_⟩:=h
 have:=(a0a h1.blk 1).trans rfl
 rw [a7P hn] at this; exact this
theorem DRel.below {P n : Nat} {l : List Int} {w W wr : World} (h : DRel P l n W wr) (hb : Below w.heap.size w W) (hp : w.heap.size <= P) : Below w.heap.size w wr:=PutRel.bel h hb hp (λ k hk=>by simp [Value.ownBlock] at hk)
def c7S (l : List Int) (w : World) (e : Ending) (w' : World) : Prop:=∃ v,e = .returned (.tuple #[v,.bool true]) /\ (Kd.int .u8).R 5 w' w.heap.size (λ _=>True) v (dirL l) /\ Below w.heap.size w w'
set_option maxRecDepth 100000 in
set_option maxHeartbeats 4000000 in
theorem c7T (A : Option Addr) (cp : Nat) (l : List Int) (w : World) (hr : (Kd.int .i64).C w A l.length l) (hA : Asc l) (hl : l.length <= 256) :
    Calls Tryz.prog 151 #[.slice A l.length cp] w (c7S l w):=by
 obtain ⟨ad,rfl,hcs⟩:=a5m hr hA.pos
 have h00:=hcs 0 hA.pos
 rw [hA.zero,Addr.add_zero'] at h00
 obtain ⟨W,hW⟩ : ∃ W,W = w.alloc (.cells #[.slice none 0 0,.int .i64 0] 229):=⟨_,rfl⟩
 have hb1 : Below w.heap.size w W:=by rw [hW]; exact (Below.refl _ _).alloc (Nat.le_refl _) _
 have hw0 : WrVal W w.heap.size w.heap.size (.slice none 0 0) []:=by rw [hW]; exact a9R w
 obtain ⟨P,hP⟩ : ∃ P,P = w.heap.size:=⟨_,rfl⟩
 have HPW : Hid (P <= W.heap.size):=by rw [hP]; exact Lib.hid hb1.size
 rw [<- hP] at hw0
 have HP:=Lib.hid hP
 have HR:=Lib.hid (And.intro hr (And.intro hA hl))
 have HW0:=Lib.hid (And.intro hb1 hw0)
 have hne : ((l.length : Int) == 0) = false:=by have:=hA.pos; simp; intro e; subst e; simp at this
 have hpos : 0 < l.length:=hA.pos
 have hl256 : l.length <= 256:=hl
 have hne0 : ¬ l = []:=by intro e; subst e; simp at hpos
 clear hr hA hl hb1 hw0 hcs
 go_enter Tryz.func151,Tryz.ntmps151
 go_wp2_with fail
 refine (a6J _).mono ?_
 rw [<- hW,<- hP]
 clear hW hP h00
 rintro e w1 ⟨rfl,rfl⟩
 go_wp2_with fail
 go_loopw [19] (λ kv wr=>∃ i : Nat,i <= l.length /\ kv = .int .i64 i /\ Hid (DRel P l (putN l i) w1 wr)) (λ kv _=>l.length - (intOf kv).toNat)
 case atStart=>exact ⟨0,by omega,rfl,Lib.hid ⟨_,HW0.out.2,.inl rfl,Only.refl _ _⟩⟩
 case round=>
  obtain ⟨i,hi,rfl,H⟩:=hrel
  by_cases hlt : i < l.length
  · obtain ⟨c,hc,hc256⟩:=HR.out.2.1.get hlt
    have hB:=H.out.below HW0.out.1 (by have:=HP.out; omega)
    obtain ⟨ad2,hA2,hcx⟩:=a0v (Kd.C_below HR.out.1 hB) i hlt
    cases hA2
    rw [hc] at hcx
    have hgap : Hid ((¬ 0 < i /\ i = 0) \/ (0 < i /\ ∃ j c' : Nat,(i : Int) - 1 = (j : Int) /\ wr.cell? (ad.add j) = some (.int .i64 c') /\ c' < c /\ (j : Int) < (l.length : Int))):=by
     rcases Nat.eq_zero_or_pos i with h0 | h0
     · exact Lib.hid (.inl ⟨by omega,h0⟩)
     · obtain ⟨c',hc',_⟩:=HR.out.2.1.get (i:=i - 1) (by omega)
       obtain ⟨ad3,hA3,hcx'⟩:=a0v (Kd.C_below HR.out.1 hB) (i - 1) (by omega)
       cases hA3
       rw [hc'] at hcx'
       have h2:=HR.out.2.1.asc (i - 1) (by omega)
       rw [show i - 1 + 1 = i by omega] at h2
       exact Lib.hid (.inr ⟨h0,i - 1,c',by omega,hcx',by omega,by omega⟩)
    have hpl:=HR.out.2.1.put_le hlt hc
    have HC:=Lib.hid (And.intro hc (And.intro hc256 (And.intro hpl hlt)))
    have hc2 : c < 256:=hc256
    have HZ1:=Lib.hid (c5U (l:=l) hlt hc hc2)
    have HZ0 : Hid (∀ n,putN l i <= n -> n < c -> (dirB l).take (n + 1) = (dirB l).take n ++ [false]):=Lib.hid λ n g1 g2=>c5T HR.out.2.1 hlt hc hc2 g1 g2
    obtain ⟨i1,hi1⟩ : ∃ i1,i1 = i + 1:=⟨_,rfl⟩
    rw [<- hi1] at HZ1
    have HI : Hid (DRel P l (putN l i1) w1 wr -> i1 <= l.length /\ (i1 : Int) = (i : Int) + 1):=Lib.hid λ _=>⟨by omega,by omega⟩
    have HI1 : Hid (i1 <= l.length /\ (i1 : Int) = (i : Int) + 1):=Lib.hid ⟨by omega,by omega⟩
    obtain ⟨N0,hN0⟩ : ∃ N0,N0 = putN l i:=⟨_,rfl⟩
    rw [<- hN0] at H hpl HZ0
    have HPl:=Lib.hid hpl
    clear hc hc256 hB hpl hN0 hi1 HC HI
    have hd256 : decide ((256 : Int) <= (c : Int)) = false:=decide_eq_false (by omega)
    rcases hgap.out with ⟨hz,hz0⟩ | ⟨hz,j,c',hij,hcy,hcc,hjl⟩
    · subst hz0
      rw [Addr.add_zero'] at hcx
      rw [show ((0 : Nat) : Int) = 0 from rfl] at HI1 ⊢
      clear hz hgap
      go_wp2_with fail
      go_loopw [] (λ wr=>Hid (∃ n,N0 <= n /\ n <= c /\ DRel P l n w1 wr)) (λ wr=>c - (intOf ((wr.cell? ⟨P,1,none⟩).getD undef)).toNat)
      case atStart=>exact Lib.hid ⟨_,Nat.le_refl _,HPl.out,H.out⟩
      case round=>
       obtain ⟨n,hn1,hn2,hn3⟩:=hrel.out
       obtain ⟨v1,k1,k2,k3⟩:=hn3
       have hcell:=DRel.cell ⟨v1,k1,k2,k3⟩ (show n <= 256 by omega)
       have hlen:=a7P (l:=l) (show n <= 256 by omega)
       have HK:=Lib.hid (And.intro k1 (And.intro k2 k3))
       have HBs : Hid (P <= wr.heap.size):=Lib.hid (Nat.le_trans HPW.out k3.size)
       have HN:=Lib.hid (And.intro hn1 hn2)
       have HBt:=Lib.hid (b3i P P v1 _ wr k1)
       rw [hlen] at HBt
       have HLe : Hid (((dirB l).take n).length <= 900000):=Lib.hid (by omega)
       have HCell:=Lib.hid hcell
       clear k1 k2 k3 hn1 hlen hrel hcell
       go_wp2_with fail
       refine HBt.out.mono ?_
       rintro e w2 ⟨rfl,rfl⟩
       by_cases hnc : n < c
       · have hz2:=HZ0.out n HN.out.1 hnc
         have HZ2:=Lib.hid hz2
         clear hz2
         go_wp2_with fail
         refine (a2e P P v1 _ 0 1 wr HK.out.1 HBs.out HLe.out (by decide) (by decide)).mono ?_
         rintro e w3 ⟨rfl,hp⟩
         have HP3 : Hid (DRel P l (n + 1) w1 w3):=Lib.hid (by
          have:=PutRel.trans HK.out hp
          unfold DRel
          rw [HZ2.out,<- b6R]; exact this)
         clear hp
         go_wp2_with fail
         go_roundw
         case rel=>exact Lib.hid ⟨n + 1,by have:=HN.out.1; omega,by omega,HP3.out⟩
         case measure=>
          rw [HP3.out.cell (by omega),HCell.out]
          simp [intOf]; omega
       · obtain rfl : n = c:=by omega
         go_wp2_with fail
         refine (a2e P P v1 _ 1 1 wr HK.out.1 HBs.out HLe.out (by decide) (by decide)).mono ?_
         rintro e w3 ⟨rfl,hp⟩
         have HP3 : Hid (DRel P l (putN l i1) w1 w3):=Lib.hid (by
          have:=PutRel.trans HK.out hp
          unfold DRel
          rw [HZ1.out,<- b6S]; exact this)
         clear hp
         go_wp2_with fail
         go_roundw
         case rel=>exact ⟨i1,HI1.out.1,by first | (rw [HI1.out.2]; done) | (rw [HI1.out.2]; rfl) | (rw [HI1.out.2]; go_num),HP3.out⟩
         case measure=>first | (simp [intOf]; done) | (simp [intOf]; omega)
    · clear hgap
      have hcd : decide (c <= c') = false:=decide_eq_false (by omega)
      clear hcc
      go_wp2_with fail
      go_loopw [] (λ wr=>Hid (∃ n,N0 <= n /\ n <= c /\ DRel P l n w1 wr)) (λ wr=>c - (intOf ((wr.cell? ⟨P,1,none⟩).getD undef)).toNat)
      case atStart=>exact Lib.hid ⟨_,Nat.le_refl _,HPl.out,H.out⟩
      case round=>
       obtain ⟨n,hn1,hn2,hn3⟩:=hrel.out
       obtain ⟨v1,k1,k2,k3⟩:=hn3
       have hcell:=DRel.cell ⟨v1,k1,k2,k3⟩ (show n <= 256 by omega)
       have hlen:=a7P (l:=l) (show n <= 256 by omega)
       have HK:=Lib.hid (And.intro k1 (And.intro k2 k3))
       have HBs : Hid (P <= wr.heap.size):=Lib.hid (Nat.le_trans HPW.out k3.size)
       have HN:=Lib.hid (And.intro hn1 hn2)
       have HBt:=Lib.hid (b3i P P v1 _ wr k1)
       rw [hlen] at HBt
       have HLe : Hid (((dirB l).take n).length <= 900000):=Lib.hid (by omega)
       have HCell:=Lib.hid hcell
       clear k1 k2 k3 hn1 hlen hrel hcell
       go_wp2_with fail
       refine HBt.out.mono ?_
       rintro e w2 ⟨rfl,rfl⟩
       by_cases hnc : n < c
       · have hz2:=HZ0.out n HN.out.1 hnc
         have HZ2:=Lib.hid hz2
         clear hz2
         go_wp2_with fail
         refine (a2e P P v1 _ 0 1 wr HK.out.1 HBs.out HLe.out (by decide) (by decide)).mono ?_
         rintro e w3 ⟨rfl,hp⟩
         have HP3 : Hid (DRel P l (n + 1) w1 w3):=Lib.hid (by
          have:=PutRel.trans HK.out hp
          unfold DRel
          rw [HZ2.out,<- b6R]; exact this)
         clear hp
         go_wp2_with fail
         go_roundw
         case rel=>exact Lib.hid ⟨n + 1,by have:=HN.out.1; omega,by omega,HP3.out⟩
         case measure=>
          rw [HP3.out.cell (by omega),HCell.out]
          simp [intOf]; omega
       · obtain rfl : n = c:=by omega
         go_wp2_with fail
         refine (a2e P P v1 _ 1 1 wr HK.out.1 HBs.out HLe.out (by decide) (by decide)).mono ?_
         rintro e w3 ⟨rfl,hp⟩
         have HP3 : Hid (DRel P l (putN l i1) w1 w3):=Lib.hid (by
          have:=PutRel.trans HK.out hp
          unfold DRel
          rw [HZ1.out,<- b6S]; exact this)
         clear hp
         go_wp2_with fail
         go_roundw
         case rel=>exact ⟨i1,HI1.out.1,by first | (rw [HI1.out.2]; done) | (rw [HI1.out.2]; rfl) | (rw [HI1.out.2]; go_num),HP3.out⟩
         case measure=>first | (simp [intOf]; omega) | (simp [intOf]; done)
  · obtain rfl : i = l.length:=by omega
    have hB:=H.out.below HW0.out.1 (by have:=HP.out; omega)
    have hpn:=c7R HR.out.2.1 (Nat.le_refl l.length)
    obtain ⟨v1,k1,k2,k3⟩:=H.out
    have hE:=c5W HR.out.2.1
    obtain ⟨n,hn⟩ : ∃ n,n = putN l l.length:=⟨_,rfl⟩
    rw [<- hn] at k1 hE hpn
    have hlen:=a7P (l:=l) hpn
    obtain ⟨bs,hbs⟩ : ∃ bs,bs = (dirB l).take n:=⟨_,rfl⟩
    rw [<- hbs] at k1 hE hlen
    have HK:=Lib.hid k1
    have HE:=Lib.hid hE
    have HB:=Lib.hid hB
    have hbl : (packB bs).length = (n + 7) / 8:=by rw [a0z,hlen]
    have HL:=Lib.hid (And.intro hlen hbl)
    obtain ⟨pb,hpb⟩ : ∃ pb,pb = packB bs:=⟨_,rfl⟩
    obtain ⟨q,hq⟩ : ∃ q,q = (n + 7) / 8:=⟨_,rfl⟩
    have hq32 : q <= 32:=by omega
    rw [<- hpb,<- hq] at HE
    have hpq : pb.length = q:=by rw [hpb,hq]; exact hbl
    have HPQ:=Lib.hid (And.intro hpb hpq)
    clear k1 k2 k3 hE hB hn hlen hbs hbl hpb hq hpq
    go_wp2_with fail
    refine (a7x P P v1 bs wr HK.out (by have:=HL.out.1; omega)).mono ?_
    rintro e w2 ⟨u2,rfl,hu2,hb2⟩
    rw [<- HPQ.out.1] at hu2
    obtain ⟨A2,c2,rfl⟩:=Kd.R_slice hu2
    rw [HPQ.out.2] at hu2 ⊢
    have HK2 : Hid (WrVal w2 P P v1 bs):=Lib.hid ⟨a0i HK.out.blk hb2,Kd.R_below HK.out.row hb2⟩
    have HU2:=Lib.hid hu2
    have HB2:=Lib.hid (a0g HB.out hb2)
    clear hu2 hb2
    go_wp2_with fail
    refine (a7x P P v1 bs w2 HK2.out (by have:=HL.out.1; omega)).mono ?_
    rintro e w3 ⟨u3,rfl,hu3,hb3⟩
    rw [<- HPQ.out.1] at hu3
    obtain ⟨A3,c3,rfl⟩:=Kd.R_slice hu3
    rw [HPQ.out.2] at hu3 ⊢
    have HU3 : Hid ((Kd.int .u8).R 5 w3 w.heap.size (λ _=>True) (.slice A2 q c2) pb):=Lib.hid (Kd.R_lower (Kd.R_below HU2.out hb3) HB.out.size)
    have HB3:=Lib.hid (a0g HB2.out hb3)
    have HS3:=Lib.hid HB3.out.size
    have HLn : Hid ((pb.length + ((32 : Int) - (q : Int)).toNat) * 1 <= 140737488355328):=Lib.hid (by have:=HPQ.out.2; omega)
    have hge : (0 : Int) <= 32 - (q : Int):=by omega
    have HGe:=Lib.hid hge
    clear hu3 hb3
    go_wp2_with (at_builtin; refine Kd.R_append_zeros (Kd.int .u8) (w0:=w) (W:=w3) w.heap.size rfl (.tmp 49) (.tmp 53) 22 3 5 (.int .u8 0) 1 rfl Tryz.underlying22 (k:=.i64) Tryz.underlying3 a0w rfl (by decide) (by decide) (.slice A2 q c2) pb (0 : Int) (kx:=.i64) (32 - (q : Int)) (λ _=>True) rfl rfl rfl (λ _ _=>trivial) HU3.out HGe.out HB3.out HS3.out HLn.out ?_; intro v4 w4 hr4 hb4 hg4 hat4; have HA4:=Lib.hid (And.intro hr4 hb4); clear hr4 hb4 hg4 hat4)
    go_ret2
    refine ⟨v4,rfl,?_,HA4.out.2⟩
    rw [HE.out]
    have h9:=HA4.out.1
    rw [show ((32 : Int) - (q : Int)).toNat = 32 - q by omega] at h9
    exact h9
theorem b0t (r : Nat) (qs : List (List Int)) (c : Int) : ∀ l : List Int,hdrsB r qs (l ++ [c]) = hdrsB r qs l ++ hdrB (qs.getD c.toNat []) 257 0 (2 ^ r)
 | []=>by simp [hdrsB]
 | x :: l=>by
  show hdrB _ 257 0 (2 ^ r) ++ hdrsB r qs (l ++ [c]) = (hdrB _ 257 0 (2 ^ r) ++ hdrsB r qs l) ++ _
  rw [b0t r qs c l,List.append_assoc]
theorem a5c {r : Nat} {qs : List (List Int)} (hr9 : r <= 9) : ∀ l : List Int,(∀ c ∈ l,Nrm (qs.getD c.toNat []) r) -> (hdrsB r qs l).length <= l.length * 3072
 | [],_=>by simp [hdrsB]
 | x :: l,h=>by
  have hn:=h x (by simp)
  have ih:=a5c hr9 l (λ c hc=>h c (by simp [hc]))
  have e2 : (2 : Int) ^ r = ((2 ^ r : Nat) : Int):=by simp
  have h1:=a3K hn.r12 hn.len hn.nn 257 0 (2 ^ r) (by omega) (by rw [List.drop_zero,hn.sum,e2]) (by rw [Nat.pow_succ]; have:=Nat.two_pow_pos r; omega)
  have h2 : (256 - 0) * (r + 3) <= 256 * 12:=Nat.mul_le_mul (by omega) (by omega)
  show (hdrB _ 257 0 (2 ^ r) ++ hdrsB r qs l).length <= _
  rw [List.length_append,List.length_cons]; omega
def a3N (r : Nat) (qs : List (List Int)) (l : List Int) : List Int:=[(r : Int)] ++ dirL l ++ packB (hdrsB r qs l)
def c7U (r : Nat) (qs : List (List Int)) (l : List Int) (w : World) (e : Ending) (w' : World) : Prop:=∃ v,e = .returned v /\ (Kd.int .u8).R 5 w' w.heap.size (λ _=>True) v (a3N r qs l) /\ Below w.heap.size w w'
set_option maxRecDepth 100000 in
set_option maxHeartbeats 4000000 in
theorem c7V (r c cl : Nat) (A Al : Option Addr) (qs : List (List Int)) (l : List Int) (w : World) (hr : kq.C w A qs.length qs) (hq : qs.length = 256) (hl : (Kd.int .i64).C w Al l.length l) (hA : Asc l) (hll : l.length <= 256) (hr9 : r <= 9) (hN : ∀ c ∈ l,Nrm (qs.getD c.toNat []) r) :
    Calls Tryz.prog 103 #[.agg #[.int .i64 r,.bool false,.slice A 256 c],.slice Al l.length cl] w (c7U r qs l w):=by
 obtain ⟨W,hW⟩ : ∃ W,W = w.alloc (.cells #[.int .i64 r,.bool false,.slice A 256 c] 26):=⟨_,rfl⟩
 have hb1 : Below w.heap.size w W:=by rw [hW]; exact (Below.refl _ _).alloc (Nat.le_refl _) _
 have hk1 : W.heap[w.heap.size]? = some (.cells #[.int .i64 r,.bool false,.slice A 256 c] 26 (0,0)):=by rw [hW]; exact a0k _ _
 obtain ⟨mb,hmb⟩ : ∃ mb,mb = w.heap.size:=⟨_,rfl⟩
 rw [<- hmb] at hk1
 have HMb:=Lib.hid hmb
 have HR:=Lib.hid (And.intro hr (And.intro hl (And.intro hA (And.intro hll (And.intro hN hq)))))
 have H1:=Lib.hid (And.intro hb1 hk1)
 have hll2 : l.length <= 256:=hll
 clear hr hq hl hA hll hN hb1 hk1
 go_enter Tryz.func103,Tryz.ntmps103
 go_wp2_with fail
 rw [<- hW,<- hmb]
 clear hW hmb
 refine (c7T Al cl l W (Kd.C_below HR.out.2.1 H1.out.1) HR.out.2.2.1 HR.out.2.2.2.1).mono ?_
 rintro e w2 ⟨vd,rfl,hvd,hb2⟩
 obtain ⟨Ad,cd,rfl⟩:=Kd.R_slice hvd
 rw [a2Q] at hvd ⊢
 have HD:=Lib.hid (Kd.R_reads' hvd).2.2
 have HB2:=Lib.hid (a0g H1.out.1 hb2)
 have HK2:=Lib.hid (a0i H1.out.2 hb2)
 clear hvd hb2
 go_wp2_with fail
 refine (a6J _).mono ?_
 rintro e w3 ⟨rfl,hw3⟩
 have hw0 : WrVal w3 w2.heap.size w2.heap.size (.slice none 0 0) []:=by rw [hw3]; exact a9R w2
 have hb3 : Below w2.heap.size w2 w3:=by rw [hw3]; exact (Below.refl _ _).alloc (Nat.le_refl _) _
 obtain ⟨P,hP⟩ : ∃ P,P = w2.heap.size:=⟨_,rfl⟩
 rw [<- hP] at hw0 ⊢
 have HW0:=Lib.hid (And.intro hw0 (And.intro hb3 hP))
 have HB3:=Lib.hid (a0g HB2.out hb3)
 clear hw3 hw0 hb3 hP
 go_wp2_with fail
 go_loopw [18] (λ kv wr=>∃ i : Nat,i <= l.length /\ kv = .int .i64 i /\ Hid (PutRel P P (.slice none 0 0) (hdrsB r qs (l.take i)) w3 wr)) (λ kv _=>l.length - (intOf kv).toNat)
 case atStart=>exact ⟨0,by omega,rfl,Lib.hid ⟨_,HW0.out.1,.inl rfl,Only.refl _ _⟩⟩
 case round=>
  obtain ⟨i,hi,rfl,H⟩:=hrel
  have hBw2 : Below w2.heap.size w2 wr:=PutRel.bel H.out HW0.out.2.1 (by have:=HW0.out.2.2; omega) (λ k hk=>by simp [Value.ownBlock] at hk)
  have hBw : Below w.heap.size w wr:=HB2.out.trans (hBw2.mono HB2.out.size)
  obtain ⟨⟨ka,kb,kc⟩,-⟩:=cell3 (a0i HK2.out hBw2)
  by_cases hlt : i < l.length
  · obtain ⟨cx,hc,hc256⟩:=HR.out.2.2.1.get hlt
    obtain ⟨ad,hA2,hcx⟩:=a0v (Kd.C_below HR.out.2.1 hBw) i hlt
    subst hA2
    rw [hc] at hcx
    have hm:=a1y hlt
    rw [hc] at hm
    have hn:=HR.out.2.2.2.2.1 _ hm
    rw [Int.toNat_natCast] at hn
    obtain ⟨aq,B,cq,hA3,hcq',-,hCq⟩:=kq_at HR.out.1 cx (by rw [HR.out.2.2.2.2.2]; exact hc256)
    subst hA3
    rw [hn.len] at hcq' hCq
    have hcq:=a0t hBw hcq'
    have HCq:=Lib.hid hCq
    have HBw:=Lib.hid (And.intro hBw hBw2)
    clear hcq'
    have ht : l.take (i + 1) = l.take i ++ [(cx : Int)]:=by rw [List.take_succ_eq_append_getElem hlt,<- hc,List.getD_eq_getElem?_getD,List.getElem?_eq_getElem hlt,Option.getD_some]
    have hs : hdrsB r qs (l.take (i + 1)) = hdrsB r qs (l.take i) ++ hdrB (qs.getD cx []) 257 0 (2 ^ r):=by rw [ht,b0t,Int.toNat_natCast]
    have hlb:=a5c (r:=r) (qs:=qs) hr9 (l.take i) (λ x hx=>HR.out.2.2.2.2.1 x (List.mem_of_mem_take hx))
    have hlb2 : (hdrsB r qs (l.take i)).length <= 800000:=by rw [List.length_take] at hlb; omega
    have HS:=Lib.hid hs
    have HN:=Lib.hid (And.intro hn hlb2)
    have hc2 : (cx : Int) < 256:=by omega
    obtain ⟨v1,k1,k2,k3⟩:=H.out
    have HK:=Lib.hid (And.intro k1 (And.intro k2 k3))
    have HBs : Hid (P <= wr.heap.size):=Lib.hid (Nat.le_trans (by have:=HW0.out.2.2; have:=HW0.out.2.1.size; omega) k3.size)
    clear hc hm hn hCq ht hs hlb hlb2 k1 k2 k3 hBw2 hBw
    go_wp2_with fail
    refine (b5N P P cq r B v1 (hdrsB r qs (l.take i)) (qs.getD cx []) w wr HK.out.1 HBs.out HN.out.2 HCq.out HBw.out.1 (by have:=HW0.out.2.2; have:=HB2.out.size; omega) (by have:=HW0.out.2.2; have:=HB2.out.size; omega) HN.out.1).mono ?_
    rintro e w5 ⟨rfl,hp⟩
    have HP5:=Lib.hid (PutRel.trans HK.out hp)
    clear hp
    go_wp2_with fail
    go_roundw
    case rel=>exact ⟨i + 1,by omega,by go_num,Lib.hid (by rw [HS.out]; exact HP5.out)⟩
    case measure=>first | (simp [intOf]; done) | (simp [intOf]; omega)
  · obtain rfl : i = l.length:=by omega
    rw [List.take_length] at H
    obtain ⟨v1,k1,k2,k3⟩:=H.out
    have hlb:=a5c (r:=r) (qs:=qs) hr9 l HR.out.2.2.2.2.1
    have HX:=Lib.hid (And.intro k1 (by omega : (hdrsB r qs l).length <= 800000))
    obtain ⟨X,hX⟩ : ∃ X,X = packB (hdrsB r qs l):=⟨_,rfl⟩
    have HXX:=Lib.hid hX
    have HXl : Hid (X.length <= 100001):=Lib.hid (by rw [hX,a0z]; omega)
    have HBw:=Lib.hid hBw
    have HD2:=Lib.hid (Kd.C_below HD.out hBw2)
    have hDl:=a2Q l
    obtain ⟨D,hD⟩ : ∃ D,D = dirL l:=⟨_,rfl⟩
    rw [<- hD] at HD2 hDl
    have HDD:=Lib.hid (And.intro hD hDl)
    clear k1 k2 k3 hlb hBw hBw2 hX hD hDl H
    have hrw : IntKind.u8.wrap (r : Int) = (r : Int):=by rw [IntKind.wrap_u8]; omega
    have hWl : Below w.heap.size w (wr.alloc (.cells #[.int .u8 (r : Int)] 5)):=HBw.out.alloc HBw.out.size _
    have HWl:=Lib.hid (And.intro hWl hWl.size)
    have HO1 : Hid ((Kd.int .u8).R 5 (wr.alloc (.cells #[.int .u8 (r : Int)] 5)) w.heap.size (λ _=>True) (.slice (some ⟨wr.heap.size,0,none⟩) 1 1) [(r : Int)]):=Lib.hid (a2i .u8 5 wr w.heap.size (λ _=>True) trivial HBw.out.size [(r : Int)] (by simp))
    have HD3 : Hid ((Kd.int .u8).C (wr.alloc (.cells #[.int .u8 (r : Int)] 5)) Ad 32 D):=Lib.hid (by have:=Kd.C_alloc HD2.out (.cells #[.int .u8 (r : Int)] 5); rw [HDD.out.2] at this; exact this)
    have HL1 : Hid ((([(r : Int)] : List Int).length + 32) * 1 <= 140737488355328):=Lib.hid (by simp)
    have HWr : Hid (WrVal wr P P v1 (hdrsB r qs l)):=HX.out.1
    have HWr2 : Hid (WrVal (wr.alloc (.cells #[.int .u8 (r : Int)] 5)) P P v1 (hdrsB r qs l)):=Lib.hid ⟨a0n HX.out.1.blk _,Kd.R_alloc HX.out.1.row _⟩
    have HZ33 : Hid (([(r : Int)] ++ D).length = 33):=Lib.hid (by rw [List.length_append,HDD.out.2]; rfl)
    clear hWl
    go_wp2_with (at_builtin; refine Kd.R_append_rows (Kd.int .u8) (Rr:=(Kd.int .u8).K (wr.alloc (.cells #[.int .u8 (r : Int)] 5))) (w0:=w) (W:=wr.alloc (.cells #[.int .u8 (r : Int)] 5)) w.heap.size rfl (.tmp 33) (.tmp 34) 22 5 (.int .u8 0) 1 rfl Tryz.underlying22 a0w rfl (by decide) (by decide) (.slice (some ⟨wr.heap.size,0,none⟩) 1 1) [(r : Int)] D Ad 32 cd (λ _=>True) (λ _=>False) rfl rfl HO1.out HD3.out (λ _ _ h=>h) (λ _ h=>h.elim) (λ _ _=>trivial) HWl.out.1 HWl.out.2 HL1.out ?_; intro vi w5 hr5 hb5 hg5 hat5; have HG5:=Lib.hid (And.intro hg5 hat5); obtain ⟨A5,c5,rfl⟩:=Kd.R_slice hr5; rw [HZ33.out] at hr5 ⊢; have HR5:=Lib.hid (And.intro hr5 hb5); clear hr5 hb5 hg5 hat5)
    have HW5 : Hid (WrVal w5 P P v1 (hdrsB r qs l)):=Lib.hid ⟨a1e HWr2.out.blk HG5.out.1 (λ e=>by have:=a0f HWr.out.blk; simp [Value.ownBlock] at e; omega),Kd.R_mono (Kd.R_grown (Kd.R_alloc (Kd.R_bound HWr.out.row) _) HG5.out.1 (λ k hk e=>by have:=hk.2.2.1; simp [Value.ownBlock] at e; omega)) (λ k hk=>hk.1)⟩
    have HX8 : Hid ((hdrsB r qs l).length <= 900000):=Lib.hid (by have:=HX.out.2; omega)
    obtain ⟨Z,hZ⟩ : ∃ Z,Z = [(r : Int)] ++ D:=⟨_,rfl⟩
    rw [<- hZ] at HR5
    have HZ:=Lib.hid (And.intro hZ (by rw [hZ]; exact HZ33.out : Z.length = 33))
    clear hZ
    refine (a7x P P v1 _ w5 HW5.out HX8.out).mono ?_
    rintro e w6 ⟨v6,rfl,hv6,hb6⟩
    rw [<- HXX.out] at hv6
    obtain ⟨A6,c6,rfl⟩:=Kd.R_slice hv6
    have HO6:=Lib.hid (Kd.R_below HR5.out.1 hb6)
    have HX6:=Lib.hid (Kd.R_reads' hv6).2.2
    have HB6:=Lib.hid (And.intro (a0g HR5.out.2 hb6) (a0g HR5.out.2 hb6).size)
    have HL6 : Hid ((Z.length + X.length) * 1 <= 140737488355328):=Lib.hid (by have:=HZ.out.2; have:=HXl.out; omega)
    clear hv6 hb6
    go_wp2_with (at_builtin; refine Kd.R_append_rows (Kd.int .u8) (Rr:=(Kd.int .u8).K w6) (w0:=w) (W:=w6) w.heap.size rfl (.tmp 35) (.tmp 37) 22 5 (.int .u8 0) 1 rfl Tryz.underlying22 a0w rfl (by decide) (by decide) (.slice A5 33 c5) Z X A6 X.length c6 (λ _=>True) (λ _=>False) rfl rfl HO6.out HX6.out (λ _ _ h=>h) (λ _ h=>h.elim) (λ _ _=>trivial) HB6.out.1 HB6.out.2 HL6.out ?_; intro v7 w7 hr7 hb7 hg7 hat7; have HR7:=Lib.hid (And.intro hr7 hb7); clear hr7 hb7 hg7 hat7)
    go_ret
    refine ⟨v7,rfl,?_,HR7.out.2⟩
    unfold a3N
    rw [<- HXX.out,<- HDD.out.1,<- HZ.out.1]
    exact HR7.out.1
theorem b6T {b : List Int} (hb : Bytes b) (hl : b.length <= 1000000) : ∀ c ∈ presN b 256,Nrm ((a0A b).getD c.toNat []) (a0p b):=by
 intro c hc
 have hr:=a2y b
 obtain ⟨i,hi,e⟩:=a5K hc
 obtain ⟨c',h1,h2,h3⟩:=a7w b hi
 have : c = (c' : Int):=by rw [<- e,h1]
 subst this
 rw [Int.toNat_natCast,a7r b h2]
 obtain ⟨n1,n2,n3⟩:=a7E hb hl h2 h3
 exact ⟨n1,n2,n3,by omega,by omega⟩
def SLater (W1 W : World) : Prop:=Below W1.heap.size W1 W
theorem SLater.keep {W1 W w' : World} (h : SLater W1 W) (hb : Below W.heap.size W w') : SLater W1 w':=a0g h hb
theorem SLater.drew {W1 W : World} (h : SLater W1 W) : SLater W1 W.drew:=Below.drew h
def c7W (b : List Int) (w : World) (e : Ending) (w' : World) : Prop:=∃ v,e = .returned (.tuple #[v,.int .i64 0]) /\ (Kd.int .u8).R 5 w' w.heap.size (λ _=>True) v (a1d b) /\ Below w.heap.size w w'
set_option maxRecDepth 100000 in
theorem b6U (A : Option Addr) (cp : Nat) (w : World) : Calls Tryz.prog 63 #[.slice A 0 cp] w (λ e w'=>e = .returned (.tuple #[.slice none 0 0,.int .i64 1]) /\ Below w.heap.size w w'):=by
 have HZ:=Lib.hid (c6M A cp w)
 go_enter Tryz.func63,Tryz.ntmps63
 go_wp2_with fail
 refine HZ.out.mono ?_
 rintro e w1 (⟨_,rfl,hb1⟩ | ⟨h,_⟩)
 · have HB1:=Lib.hid hb1
   clear hb1
   go_wp2_with fail
   go_ret2
   exact ⟨rfl,HB1.out.alloc HB1.out.size _⟩
 · cases h
set_option maxRecDepth 100000 in
set_option maxHeartbeats 4000000 in
theorem c7X (A : Option Addr) (cp : Nat) (b : List Int) (w : World) (hr : (Kd.int .u8).C w A b.length b) (hb : Bytes b) (hl : b.length <= 40000) (h0 : 0 < b.length) :
    Calls Tryz.prog 63 #[.slice A b.length cp] w (c7W b w):=by
 have HR:=Lib.hid (And.intro hr (And.intro hb (And.intro hl h0)))
 have HCan : Hid (canM (a0p b : Nat) false (a0A b) b = true):=a3J (one:=false) hb (by omega) h0
 have HZ:=Lib.hid (b6B A cp b w hr hb (by omega) h0)
 have HRok:=Lib.hid (a2y b)
 have HFit:=Lib.hid (a3G (a3H HCan.out).1 hb)
 have HNr:=Lib.hid (b6T hb (by omega : b.length <= 1000000))
 obtain ⟨r,hr'⟩ : ∃ r,r = a0p b:=⟨_,rfl⟩
 obtain ⟨q,hq'⟩ : ∃ q,q = a0A b:=⟨_,rfl⟩
 have HQl : Hid (q.length = 256):=Lib.hid (by rw [hq']; exact a7q b)
 have HRQ:=Lib.hid (And.intro hr' hq')
 rw [<- hr',<- hq'] at HCan HFit HNr
 rw [<- hr'] at HRok
 obtain ⟨L,hL⟩ : ∃ L,L = presN b 256:=⟨_,rfl⟩
 have HL : Hid (L = presN b 256 /\ Asc L /\ L.length <= 256):=Lib.hid ⟨hL,by rw [hL]; exact b5Z h0,by rw [hL]; exact a4j b 256⟩
 rw [<- hL] at HNr
 clear hr hb hl h0 hL
 go_enter Tryz.func63,Tryz.ntmps63
 go_wp2_with fail
 refine HZ.out.mono ?_
 rintro e w1 (⟨h,_⟩ | ⟨_,Av,cv,rfl,hv,hb1⟩)
 · have:=HR.out.2.2.2; omega
 rw [<- hr']
 rw [<- hq'] at hv
 have HV:=Lib.hid (Kd.R_reads' hv).2.2
 have HB1:=Lib.hid hb1
 clear hv hb1 hr' hq'
 obtain ⟨w2,hw2⟩ : ∃ w2,w2 = w1.alloc (.cells #[.int .i64 r,.bool false,.slice Av 256 cv] 26):=⟨_,rfl⟩
 have HB2 : Hid (Below w.heap.size w w2):=Lib.hid (by rw [hw2]; exact HB1.out.alloc HB1.out.size _)
 have HV2 : Hid (kq.C w2 Av q.length q):=Lib.hid (by rw [hw2]; exact Kd.C_alloc HV.out _)
 have hk2 : w2.heap[w1.heap.size]? = some (.cells #[.int .i64 r,.bool false,.slice Av 256 cv] 26 (0,0)):=by rw [hw2]; exact a0k _ _
 obtain ⟨mb,hmb⟩ : ∃ mb,mb = w1.heap.size:=⟨_,rfl⟩
 rw [<- hmb] at hk2
 have HK2:=Lib.hid hk2
 clear hk2
 have HEnc:=b3K (r : Nat) false Av cv q A cp b w2 HV2.out (by have:=HQl.out; omega) (Kd.C_below HR.out.1 HB2.out) HR.out.2.1 (by have:=HR.out.2.2.1; omega)
 rw [HQl.out] at HEnc
 have HE:=Lib.hid HEnc
 clear HEnc
 go_wp2_with fail
 rw [<- hw2,<- hmb]
 clear hw2 hmb
 refine HE.out.mono ?_
 rintro e w3 ⟨_,h2,hb3⟩
 obtain ⟨vp,rfl,hvp⟩:=h2 HCan.out
 obtain ⟨Ap,cpp,rfl⟩:=Kd.R_slice hvp
 have HB3 : Hid (Below w.heap.size w w3):=Lib.hid (HB2.out.trans (hb3.mono HB2.out.size))
 have hk3:=a0i HK2.out hb3
 have HV3 : Hid (kq.C w3 Av q.length q):=Lib.hid (Kd.C_below HV2.out hb3)
 have HP3:=Lib.hid (Kd.R_reads' hvp).2.2
 obtain ⟨Pl,hPl⟩ : ∃ Pl,Pl = packB (a0O (r : Nat) false q b ++ [true]):=⟨_,rfl⟩
 have HPl:=Lib.hid hPl
 rw [<- hPl] at HP3 ⊢
 have HPlen : Hid (Pl.length <= 700000):=Lib.hid (by
  rw [hPl,a0z,List.length_append]
  have:=HFit.out; have:=HR.out.2.2.1; simp only [List.length_singleton]; omega)
 have HK3:=Lib.hid hk3
 obtain ⟨⟨ka,kb,kc⟩,-⟩:=cell3 hk3
 have s0 : SLater w3 w3:=Below.refl _ _
 have HPres : Hid (∀ W : World,SLater w3 W -> Calls Tryz.prog 104 #[.slice A b.length cp] W λ e w'=>∃ Al cl,e = .returned (.slice Al L.length cl) /\ (Kd.int .i64).C w' Al L.length L /\ Below W.heap.size W w'):=Lib.hid λ W hW=>by
  refine (b6w A cp b W (Kd.C_below HR.out.1 (HB3.out.trans (Below.mono hW HB3.out.size))) (by have:=HR.out.2.2.1; omega) HR.out.2.1).mono ?_
  rintro e w' ⟨v,rfl,hv,hb⟩
  obtain ⟨Al,cl,rfl⟩:=Kd.R_slice hv
  rw [<- HL.out.1] at hv ⊢
  exact ⟨Al,cl,rfl,(Kd.R_reads' hv).2.2,hb⟩
 have HHead : Hid (∀ (W : World) (Al : Option Addr) (cl : Nat),SLater w3 W -> (Kd.int .i64).C W Al L.length L -> Calls Tryz.prog 103 #[.agg #[.int .i64 r,.bool false,.slice Av 256 cv],.slice Al L.length cl] W λ e w'=>∃ Ah ch,e = .returned (.slice Ah (a3N r q L).length ch) /\ (Kd.int .u8).R 5 w' w3.heap.size (λ _=>True) (.slice Ah (a3N r q L).length ch) (a3N r q L) /\ Below W.heap.size W w'):=Lib.hid λ W Al cl hW hC=>by
  refine (c7V r cv cl Av Al q L W (Kd.C_below HV3.out hW) HQl.out hC HL.out.2.1 HL.out.2.2 (by have:=HRok.out; omega) HNr.out).mono ?_
  rintro e w' ⟨v,rfl,hv,hb⟩
  obtain ⟨Ah,ch,rfl⟩:=Kd.R_slice hv
  exact ⟨Ah,ch,rfl,Kd.R_lower hv (Below.size hW),hb⟩
 have HHl : Hid ((a3N r q L).length <= 200000):=Lib.hid (by
  have h1:=a5c (r:=r) (qs:=q) (by have:=HRok.out; omega) L HNr.out
  have h2:=HL.out.2.2
  unfold a3N
  rw [List.length_append,List.length_append,a2Q,a0z,List.length_singleton]; omega)
 obtain ⟨Hd,hHd⟩ : ∃ Hd,Hd = a3N r q L:=⟨_,rfl⟩
 rw [<- hHd] at HHead HHl
 have HHd:=Lib.hid hHd
 have HLn : Hid ((Hd.length + Pl.length) * 1 <= 140737488355328):=Lib.hid (by have:=HHl.out; have:=HPlen.out; omega)
 clear h2 hb3 hvp hk3 hPl hHd
 go_wp2_with fail
 go_region_law (first
  | (go_simp; go_at_call 104; refine (HPres.out _ (by first | assumption | exact SLater.drew ‹_›)).mono ?_; rintro e w' ⟨Al,cl,rfl,hcl,hb⟩; have s1:=(by first | exact SLater.keep ‹_› hb | exact SLater.keep (SLater.drew ‹_›) hb : SLater w3 w'); obtain ⟨⟨ka,kb,kc⟩,-⟩:=cell3 (a0i HK3.out s1))
  | (go_simp; go_at_call 103; refine (HHead.out _ _ _ (by first | assumption | exact SLater.drew ‹_›) (by first | assumption | exact Kd.C_drew ‹_›)).mono ?_; rintro e w' ⟨Ah,ch,rfl,hvh,hb⟩; have s1:=(by first | exact SLater.keep ‹_› hb | exact SLater.keep (SLater.drew ‹_›) hb : SLater w3 w'); have HVH:=Lib.hid (And.intro hvh s1); clear hvh hb)
  | (refine Kd.R_append_rows_step (Kd.int .u8) (Rr:=(Kd.int .u8).K w') (w0:=w) (W:=w') w.heap.size rfl (.tmp 27) (.tmp 28) 22 5 (.int .u8 0) 1 rfl Tryz.underlying22 a0w rfl (by decide) (by decide) _ Hd Pl Ap Pl.length cpp (λ _=>True) (λ _=>False) rfl rfl (Kd.R_lower HVH.out.1 HB3.out.size) (Kd.C_below HP3.out HVH.out.2) (λ _ _ h=>h) (λ _ h=>h.elim) (λ _ _=>trivial) (HB3.out.trans (Below.mono HVH.out.2 HB3.out.size)) (Nat.le_trans HB3.out.size (Below.size HVH.out.2)) HLn.out ?_; intro v9 w9 hr9 hb9 hg9 hat9; have HA:=Lib.hid (And.intro hr9 hb9); clear hr9 hb9 hg9 hat9))
 all_goals
  go_wp2_with fail
  go_ret2
  refine ⟨v9,rfl,?_,HA.out.2⟩
  have h9:=HA.out.1
  have e : a1d b = Hd ++ Pl:=by unfold a1d; rw [HHd.out,HPl.out,HRQ.out.1,HRQ.out.2,HL.out.1]; rfl
  rw [e]; exact h9
theorem b0u (A : Option Addr) (cp : Nat) (b : List Int) (w : World) (hr : (Kd.int .u8).C w A b.length b) (hb : Bytes b) (hl : b.length <= 40000) (h0 : 0 < b.length) :
    Calls Tryz.prog 63 #[.slice A b.length cp] w (Told 0 (a1d b) w):=by
 refine (c7X A cp b w hr hb hl h0).mono ?_
 rintro e w' ⟨v,rfl,hv,hbl⟩
 obtain ⟨A1,c1,rfl⟩:=Kd.R_slice hv
 exact ⟨A1,c1,rfl,hv,hbl⟩
set_option maxRecDepth 100000 in
set_option maxHeartbeats 400000 in
theorem c7Y (A : Option Addr) (c : Nat) (xs : List Int) (w : World) (hr : (Kd.int .u8).C w A xs.length xs) (hl : xs.length <= 1000000) (hn : A = none -> xs = []) :
    Calls Tryz.prog 106 #[.slice A xs.length c] w (b3o xs w):=by
 cases A with
 | none=>
  have h0:=hn rfl
  subst h0
  have hq:=Lib.run_eql_slice_nil (P:=Tryz.prog) w 22 5 none 0 c 0 0 Tryz.underlying22
  go_enter Tryz.func106,Tryz.ntmps106
  go_wp2_with fail
  go_ret
  exact ⟨_,rfl,Kd.R_nil _ _ _ _ _,Below.refl _ _⟩
 | some ad=>
  have HR:=Lib.hid (Kd.C_alloc hr (.cells #[] 5))
  have HE:=Lib.hid (a6H .u8 5 w w.heap.size (λ _=>True) (Nat.le_refl _) trivial)
  have HL : Hid ((([] : List Int).length + xs.length) * 1 <= 140737488355328):=by show _ <= _; simp; omega
  have hq:=Lib.run_eql_slice_nil (P:=Tryz.prog) w 22 5 (some ad) xs.length c 0 0 Tryz.underlying22
  clear hr
  go_enter Tryz.func106,Tryz.ntmps106
  go_wp2_with (at_builtin; refine Kd.R_append_rows (Kd.int .u8) (Rr:=(Kd.int .u8).K (w.alloc (.cells #[] 5))) (w0:=w) (W:=w.alloc (.cells #[] 5)) w.heap.size rfl (.tmp 5) (.tmp 6) 22 5 (.int .u8 0) 1 rfl Tryz.underlying22 a0w rfl (by decide) (by decide) (.slice (some ⟨w.heap.size,0,none⟩) 0 0) [] xs (some ad) xs.length c (λ _=>True) (λ _=>False) rfl rfl HE.out HR.out (λ _ _ h=>h) (λ _ h=>h.elim) (λ _ _=>trivial) ((Below.refl _ _).alloc (Nat.le_refl _) _) (by simp) HL.out ?_; intro vi w2 hr2 hb2 hg2 hat2; have HR2:=Lib.hid hr2; have HB2:=Lib.hid hb2; clear hr2 hb2 hg2 hat2)
  go_ret
  rw [List.nil_append] at HR2
  exact ⟨_,rfl,HR2.out,HB2.out⟩
set_option maxRecDepth 100000 in
theorem a5P (k : Int) (w : World) : Calls Tryz.prog 221 #[.int .i64 k] w λ e w'=>e = .returned (.bool (decide (k = 0 \/ k = 1))) /\ w = w':=by
 by_cases h0 : k = 0
 · subst h0
   go_enter Tryz.func221,Tryz.ntmps221
   go_wp2_with fail
   go_ret
   exact ⟨rfl,rfl⟩
 · have d0 : (k == 0) = false:=by simpa using h0
   by_cases h1 : k = 1
   · subst h1
     go_enter Tryz.func221,Tryz.ntmps221
     go_wp2_with fail
     go_ret
     exact ⟨rfl,rfl⟩
   · have d1 : (k == 1) = false:=by simpa using h1
     have d2 : decide (k = 0 \/ k = 1) = false:=decide_eq_false (λ h=>h.elim h0 h1)
     rw [d2]
     clear h0 h1 d2
     go_enter Tryz.func221,Tryz.ntmps221
     go_wp2_with fail
     go_ret
     exact ⟨by simp,rfl⟩
def notB (b0 x : Int) : Bool:=!decide (x = b0)
set_option maxRecDepth 100000 in
theorem c7Z (ad : Addr) (c p n : Nat) (x y : Int) (w : World) (hp : w.cell? ⟨p,0,none⟩ = some (.slice (some ad) n c)) (h0 : 0 < n) (hx : w.cell? (ad.add 0) = some (.int .u8 x)) :
    Calls Tryz.prog 244 #[.int .u8 y,.pointer (some ⟨p,0,none⟩)] w λ e w'=>e = .returned (.bool (notB x y)) /\ w = w':=by
 have hz : (0 : Int) < (n : Int):=by omega
 have hx2 : w.cell? ad = some (.int .u8 x):=by have e : ad.add 0 = ad:=by simp [Addr.add]
                                               rwa [e] at hx
 unfold notB
 by_cases h : y = x
 · have hd:=decide_eq_true h
   rw [hd]
   clear h
   go_enter Tryz.func244,Tryz.ntmps244
   go_wp2_with fail
   go_ret
   exact ⟨by simp_all,rfl⟩
 · have hd:=decide_eq_false h
   rw [hd]
   clear h
   go_enter Tryz.func244,Tryz.ntmps244
   go_wp2_with fail
   go_ret
   exact ⟨by simp_all,rfl⟩
set_option maxRecDepth 100000 in
set_option maxHeartbeats 400000 in
theorem c8a (ad : Addr) (c p : Nat) (b : List Int) (w : World) (hp : w.cell? ⟨p,0,none⟩ = some (.slice (some ad) b.length c)) (hr : (Kd.int .u8).C w (some ad) b.length b) (hl : b.length <= 1000000) (h0 : 0 < b.length) :
    Calls Tryz.prog 264 #[.slice (some ad) b.length c,.func (.func 244) #[] #[.pointer (some ⟨p,0,none⟩)]] w λ e w'=>∃ i : Int,e = .returned (.int .i64 i) /\ (0 <= i ↔ b.any (notB (b.getD 0 0)) = true) /\ w = w':=by
 obtain ⟨a0,e0,hc0⟩:=a0v hr 0 h0
 injection e0 with e0
 subst e0
 have HR:=Lib.hid (And.intro hr (And.intro hp hc0))
 clear hr hp hc0
 obtain ⟨x0,hx0⟩ : ∃ x0,x0 = b.getD 0 0:=⟨_,rfl⟩
 rw [<- hx0] at HR ⊢
 clear hx0
 go_enter Tryz.func264,Tryz.ntmps264
 go_wp2_with fail
 go_loop [8] (λ kv=>∃ (k : Nat),kv = .int .i64 k /\ k <= b.length /\ Hid (∀ q ∈ b.take k,notB x0 q = false)) (λ kv=>b.length - (intOf kv).toNat)
 case atStart=>exact ⟨0,rfl,by omega,λ q hq=>by simp at hq⟩
 case round=>
  obtain ⟨k,rfl,hk,H⟩:=hrel
  by_cases hlt : k < b.length
  · obtain ⟨a1,e1,hc⟩:=a0v HR.out.1 k hlt
    injection e1 with e1
    subst e1
    have hkI : (k : Int) < (b.length : Int):=by omega
    obtain ⟨q,hq⟩ : ∃ q,q = b.getD k 0:=⟨_,rfl⟩
    rw [<- hq] at hc
    have HQ:=Lib.hid hq
    clear hq
    go_wp2_with fail
    refine (c7Z ad c p b.length x0 q w HR.out.2.1 h0 HR.out.2.2).mono ?_
    obtain ⟨b1,hb⟩ : ∃ b1,b1 = notB x0 q:=⟨_,rfl⟩
    rw [<- hb]
    rintro e w' ⟨rfl,rfl⟩
    have hq2 : b[k] = q:=by rw [HQ.out,List.getD_eq_getElem?_getD,List.getElem?_eq_getElem hlt]; rfl
    have HB:=Lib.hid (And.intro hb hq2)
    clear hb hq2
    cases b1 with
    | true=>
     go_wp2_with fail
     go_ret
     exact ⟨k,rfl,⟨λ _=>List.any_eq_true.2 ⟨q,HB.out.2 ▸ List.getElem_mem hlt,HB.out.1.symm⟩,λ _=>by omega⟩,rfl⟩
    | false=>
     go_wp2_with fail
     go_round
     case rel=>
      refine ⟨k + 1,by go_num,by omega,λ x hx=>?_⟩
      rw [List.take_succ_eq_append_getElem hlt] at hx
      rcases List.mem_append.1 hx with h | h
      · exact H.out x h
      · rw [List.mem_singleton.1 h,HB.out.2]; exact HB.out.1.symm
     case measure=>simp [intOf]; omega
  · have hkn : k = b.length:=by omega
    go_wp2_with fail
    go_ret
    refine ⟨-1,rfl,⟨λ h=>by omega,λ h=>?_⟩,rfl⟩
    obtain ⟨x,hx,hb⟩:=h
    have:=H.out x (by rw [hkn,List.take_length]; exact hx)
    rw [this] at hb; cases hb
set_option maxRecDepth 100000 in
theorem c8b (ad : Addr) (c p : Nat) (b : List Int) (w : World) (hp : w.cell? ⟨p,0,none⟩ = some (.slice (some ad) b.length c)) (hr : (Kd.int .u8).C w (some ad) b.length b) (hl : b.length <= 1000000) (h0 : 0 < b.length) :
    Calls Tryz.prog 243 #[.slice (some ad) b.length c,.func (.func 244) #[] #[.pointer (some ⟨p,0,none⟩)]] w λ e w'=>e = .returned (.bool (b.any (notB (b.getD 0 0)))) /\ w = w':=by
 have HI:=Lib.hid (c8a ad c p b w hp hr hl h0)
 clear hr hp hl h0
 obtain ⟨z,hz⟩ : ∃ z,z = b.any (notB (b.getD 0 0)):=⟨_,rfl⟩
 rw [<- hz] at HI ⊢
 clear hz
 go_enter Tryz.func243,Tryz.ntmps243
 go_wp2_with fail
 refine HI.out.mono ?_
 rintro e w' ⟨i,rfl,hi,rfl⟩
 cases z with
 | true=>
  have h0 : 0 <= i:=hi.2 rfl
  clear hi
  go_wp2_with fail
  go_ret
  exact ⟨rfl,rfl⟩
 | false=>
  have h0 : decide (0 <= i) = false:=decide_eq_false (λ h=>by have:=hi.1 h; cases this)
  clear hi
  go_wp2_with fail
  go_ret
  exact ⟨by simp,rfl⟩
theorem c8c (b : List Int) : a1q b = (decide (1 < b.length) && !b.any (notB (b.getD 0 0))):=by
 unfold a1q
 congr 1
 rw [List.not_any_eq_all_not]
 congr 1
 funext x
 unfold notB
 simp
set_option maxRecDepth 100000 in
theorem c8d (A : Option Addr) (c : Nat) (b : List Int) (w : World) (hr : (Kd.int .u8).C w A b.length b) (hl : b.length <= 1000000) :
    Calls Tryz.prog 222 #[.slice A b.length c] w λ e w'=>e = .returned (.bool (a1q b)) /\ Below w.heap.size w w':=by
 rw [c8c]
 have hmf : ∀ (fn : Fn) (first cap : Array Value) (w : World),(Instr.makeFunc fn first cap).run Tryz.prog w = .ok (.func fn first cap) w:=λ _ _ _ _=>rfl
 obtain ⟨W,hW⟩ : ∃ W,W = w.alloc (.cells #[.slice A b.length c] 22):=⟨_,rfl⟩
 have hb1 : Below w.heap.size w W:=by rw [hW]; exact (Below.refl _ _).alloc (Nat.le_refl _) _
 have hc1 : W.cell? ⟨w.heap.size,0,none⟩ = some (.slice A b.length c):=by rw [hW]; exact (a0a (a0k _ _) 0).trans rfl
 by_cases h1 : 1 < b.length
 · obtain ⟨ad,hA,_⟩:=a0v hr 0 (by omega)
   subst hA
   have HP:=Lib.hid (c8b ad c w.heap.size b W hc1 (Kd.C_below hr hb1) hl (by omega))
   have HB:=Lib.hid hb1
   obtain ⟨z,hz⟩ : ∃ z,z = b.any (notB (b.getD 0 0)):=⟨_,rfl⟩
   rw [<- hz] at HP ⊢
   have d1:=decide_eq_true h1
   rw [d1]
   have hI : (1 : Int) < (b.length : Int):=by omega
   clear hr hz hb1 d1 h1
   go_enter Tryz.func222,Tryz.ntmps222
   go_wp2_with fail
   rw [<- hW]
   clear hW
   go_wp2_with fail
   refine HP.out.mono ?_
   rintro e w' ⟨rfl,rfl⟩
   go_wp2_with fail
   go_ret
   exact ⟨rfl,HB.out⟩
 · have d1:=decide_eq_false h1
   rw [d1]
   have hI : decide ((1 : Int) < (b.length : Int)) = false:=decide_eq_false (by omega)
   have HB:=Lib.hid hb1
   clear hr d1 h1 hb1
   go_enter Tryz.func222,Tryz.ntmps222
   go_wp2_with fail
   rw [<- hW]
   clear hW
   go_wp2_with fail
   go_ret
   exact ⟨by simp,HB.out⟩
theorem c_nil {A : Option Addr} {b : List Int} {w : World} (hr : (Kd.int .u8).C w A b.length b) (h : A = none) : b = []:=by
 rcases Nat.eq_zero_or_pos b.length with h0 | h0
 · exact List.eq_nil_of_length_eq_zero h0
 · obtain ⟨ad,hA,_⟩:=a0v hr 0 h0
   rw [h] at hA; cases hA
theorem a5Q {b : List Int} (hl : b.length <= 40000) : a1i 0 b = (0,b):=by
 unfold a1i; rw [if_neg (by omega),if_pos rfl]
theorem a7Q {b : List Int} (hl : b.length <= 40000) (ha : a1q b = true) : a1i 1 b = (0,[b.getD 0 0]):=by
 unfold a1i; rw [if_neg (λ h=>by rcases h with h | h | h; (· omega); (· omega); rw [ha] at h; cases h.2),if_neg (by decide)]
theorem a7R {b : List Int} (ha : a1q b = false) : a1i 1 b = (1,[]):=by
 unfold a1i; rw [if_pos (.inr (.inr ⟨rfl,ha⟩))]
theorem Told.nil (k : Int) {w w' : World} (hb : Below w.heap.size w w') : Told k [] w (.returned (.tuple #[.slice none 0 0,.int .i64 k])) w':=⟨none,0,rfl,Kd.R_nil _ _ _ _ _,hb⟩
set_option maxRecDepth 100000 in
set_option maxHeartbeats 400000 in
theorem c8e (A : Option Addr) (c : Nat) (b : List Int) (w : World) (hr : (Kd.int .u8).C w A b.length b) (hl : b.length <= 40000) :
    Calls Tryz.prog 177 #[.int .i64 0,.slice A b.length c] w (Told 0 b w):=by
 have HR:=Lib.hid hr
 have HN:=Lib.hid (c_nil hr)
 have hI : decide ((131072 : Int) < (b.length : Int)) = false:=decide_eq_false (by omega)
 have HL:=Lib.hid hl
 clear hr hl
 go_enter Tryz.func177,Tryz.ntmps177
 go_wp2_with fail
 refine (a5P 0 w).mono ?_
 rintro e w' ⟨rfl,rfl⟩
 go_wp2_with fail
 refine (c7Y A c b w HR.out (by have:=HL.out; omega) HN.out).mono ?_
 rintro e w' ⟨v,rfl,hv,hb⟩
 obtain ⟨A1,c1,rfl⟩:=Kd.R_slice hv
 have H1:=Lib.hid (And.intro hv hb)
 clear hv hb
 go_wp2_with fail
 go_ret2
 exact ⟨A1,c1,rfl,H1.out.1,H1.out.2⟩
set_option maxRecDepth 100000 in
set_option maxHeartbeats 400000 in
theorem c8f (A : Option Addr) (c : Nat) (b : List Int) (w : World) (hr : (Kd.int .u8).C w A b.length b) (hl : b.length <= 40000) :
    Calls Tryz.prog 177 #[.int .i64 1,.slice A b.length c] w (Told (a1i 1 b).1 (a1i 1 b).2 w):=by
 have hI : decide ((131072 : Int) < (b.length : Int)) = false:=decide_eq_false (by omega)
 have HA:=Lib.hid (c8d A c b w hr (by omega))
 obtain ⟨z,hz⟩ : ∃ z,z = a1q b:=⟨_,rfl⟩
 rw [<- hz] at HA
 cases z with
 | false=>
  rw [a7R hz.symm]
  clear hr hl hz
  go_enter Tryz.func177,Tryz.ntmps177
  go_wp2_with fail
  refine (a5P 1 w).mono ?_
  rintro e w' ⟨rfl,rfl⟩
  go_wp2_with fail
  refine HA.out.mono ?_
  rintro e w' ⟨rfl,hb⟩
  have HB:=Lib.hid hb
  clear hb
  go_wp2_with fail
  go_ret2
  exact Told.nil 1 HB.out
 | true=>
  rw [a7Q hl hz.symm]
  have h1:=(b0d hz.symm).2
  obtain ⟨ad,hA,hc⟩:=a0v hr 0 (by omega)
  subst hA
  have e0 : ad.add 0 = ad:=by simp [Addr.add]
  rw [e0] at hc
  have HC:=Lib.hid hc
  obtain ⟨x,hx⟩ : ∃ x,x = b.getD 0 0:=⟨_,rfl⟩
  rw [<- hx] at HC ⊢
  have hI0 : (0 : Int) < (b.length : Int):=by omega
  clear hr hl hz hx h1 e0 hc
  go_enter Tryz.func177,Tryz.ntmps177
  go_wp2_with fail
  refine (a5P 1 w).mono ?_
  rintro e w' ⟨rfl,rfl⟩
  go_wp2_with fail
  refine HA.out.mono ?_
  rintro e w' ⟨rfl,hb⟩
  have hc2:=a0t hb HC.out
  have HB:=Lib.hid hb
  clear hb
  go_wp2_with fail
  go_ret2
  have hrow : (Kd.int .u8).R 5 (w'.alloc (.cells #[.int .u8 x] 5)) w.heap.size (λ _=>True) (.slice (some ⟨w'.heap.size,0,none⟩) 1 1) [x]:=a2i .u8 5 w' w.heap.size (λ _=>True) trivial HB.out.size [x] (by simp)
  exact ⟨_,1,rfl,hrow,HB.out.alloc HB.out.size _⟩
def b0v (p : Nat) (may : FuncId) : Value:=.agg #[.func (.func 176) #[] #[.pointer (some ⟨p,0,none⟩)],.func (.func 178) #[] #[.pointer (some ⟨p,0,none⟩)],.func (.func may) #[] #[]]
theorem a5R : (Tryz.prog.info? 102).map (·.size) = some 3:=by kernel_rfl
set_option maxRecDepth 100000 in
theorem b6V (k : Int) (may : FuncId) (w : World) :
    Calls Tryz.prog 127 #[.int .i64 k,.func (.func may) #[] #[]] w λ e w'=>e = .returned (b0v w.heap.size may) /\ Below w.heap.size w w' /\ w'.heap[w.heap.size]? = some (.cells #[.int .i64 k] 3 (0,0)):=by
 have hmf : ∀ (fn : Fn) (first cap : Array Value) (w : World),(Instr.makeFunc fn first cap).run Tryz.prog w = .ok (.func fn first cap) w:=λ _ _ _ _=>rfl
 go_enter Tryz.func127,Tryz.ntmps127
 go_wp2_with fail
 refine bodyPost_ret (results_cell_row (fn:=Tryz.f127) (p:=4) (ty:=102) rfl _ _ _ _ _ _ _ rfl (a2z _ _ _) Tryz.underlying102 rfl a5R) rfl ?_
 exact ⟨rfl,((Below.refl w.heap.size w).alloc (Nat.le_refl _) _).alloc (by simp) _,a0n (a0k _ _) _⟩
theorem c8g : (Tryz.prog.info? 103).map (·.size) = some 12:=by kernel_rfl
theorem c8h {w : World} {m t : Nat} (h : w.heap[m]? = some (.cells #[.nilFunc,.nilFunc,.nilFunc,.nilFunc,.nilFunc,.nilFunc,.nilFunc,.nilFunc,.nilFunc,.nilFunc,.nilFunc,.nilFunc] t (0,0))) : (w.cell? ⟨m,0,none⟩ = some .nilFunc /\ w.cell? ⟨m,1,none⟩ = some .nilFunc /\ w.cell? ⟨m,2,none⟩ = some .nilFunc /\ w.cell? ⟨m,3,none⟩ = some .nilFunc /\ w.cell? ⟨m,4,none⟩ = some .nilFunc /\ w.cell? ⟨m,5,none⟩ = some .nilFunc /\ w.cell? ⟨m,6,none⟩ = some .nilFunc /\ w.cell? ⟨m,7,none⟩ = some .nilFunc /\ w.cell? ⟨m,8,none⟩ = some .nilFunc /\ w.cell? ⟨m,9,none⟩ = some .nilFunc /\ w.cell? ⟨m,10,none⟩ = some .nilFunc /\ w.cell? ⟨m,11,none⟩ = some .nilFunc) /\ (w.frozen? ⟨m,0,none⟩ = false /\ w.frozen? ⟨m,1,none⟩ = false /\ w.frozen? ⟨m,2,none⟩ = false /\ w.frozen? ⟨m,3,none⟩ = false /\ w.frozen? ⟨m,4,none⟩ = false /\ w.frozen? ⟨m,5,none⟩ = false /\ w.frozen? ⟨m,6,none⟩ = false /\ w.frozen? ⟨m,7,none⟩ = false /\ w.frozen? ⟨m,8,none⟩ = false /\ w.frozen? ⟨m,9,none⟩ = false /\ w.frozen? ⟨m,10,none⟩ = false /\ w.frozen? ⟨m,11,none⟩ = false):=⟨⟨(a0a h 0).trans rfl,(a0a h 1).trans rfl,(a0a h 2).trans rfl,(a0a h 3).trans rfl,(a0a h 4).trans rfl,(a0a h 5).trans rfl,(a0a h 6).trans rfl,(a0a h 7).trans rfl,(a0a h 8).trans rfl,(a0a h 9).trans rfl,(a0a h 10).trans rfl,(a0a h 11).trans rfl⟩,a0e h 0,a0e h 1,a0e h 2,a0e h 3,a0e h 4,a0e h 5,a0e h 6,a0e h 7,a0e h 8,a0e h 9,a0e h 10,a0e h 11⟩
theorem c8i {w : World} {m t : Nat} (h : w.heap[m]? = some (.cells #[.nilFunc,.nilFunc,.nilFunc,.nilFunc,.nilFunc,.nilFunc,.nilFunc,.nilFunc,.nilFunc,.nilFunc,.nilFunc,.nilFunc] t (0,0))) (x0 x1 x2 x3 x4 x5 x6 x7 x8 x9 x10 x11 : Value) : ((((((((((((w.setCell ⟨m,0,none⟩ x0).setCell ⟨m,1,none⟩ x1).setCell ⟨m,2,none⟩ x2).setCell ⟨m,3,none⟩ x3).setCell ⟨m,4,none⟩ x4).setCell ⟨m,5,none⟩ x5).setCell ⟨m,6,none⟩ x6).setCell ⟨m,7,none⟩ x7).setCell ⟨m,8,none⟩ x8).setCell ⟨m,9,none⟩ x9).setCell ⟨m,10,none⟩ x10).setCell ⟨m,11,none⟩ x11).heap[m]? = some (.cells #[x0,x1,x2,x3,x4,x5,x6,x7,x8,x9,x10,x11] t (0,0)):=by
 have h0 : (w.setCell ⟨m,0,none⟩ x0).heap[m]? = some (.cells #[x0,.nilFunc,.nilFunc,.nilFunc,.nilFunc,.nilFunc,.nilFunc,.nilFunc,.nilFunc,.nilFunc,.nilFunc,.nilFunc] t (0,0)):=(a0u h 0 x0).trans rfl
 have h1 : ((w.setCell ⟨m,0,none⟩ x0).setCell ⟨m,1,none⟩ x1).heap[m]? = some (.cells #[x0,x1,.nilFunc,.nilFunc,.nilFunc,.nilFunc,.nilFunc,.nilFunc,.nilFunc,.nilFunc,.nilFunc,.nilFunc] t (0,0)):=(a0u h0 1 x1).trans rfl
 have h2 : (((w.setCell ⟨m,0,none⟩ x0).setCell ⟨m,1,none⟩ x1).setCell ⟨m,2,none⟩ x2).heap[m]? = some (.cells #[x0,x1,x2,.nilFunc,.nilFunc,.nilFunc,.nilFunc,.nilFunc,.nilFunc,.nilFunc,.nilFunc,.nilFunc] t (0,0)):=(a0u h1 2 x2).trans rfl
 have h3 : ((((w.setCell ⟨m,0,none⟩ x0).setCell ⟨m,1,none⟩ x1).setCell ⟨m,2,none⟩ x2).setCell ⟨m,3,none⟩ x3).heap[m]? = some (.cells #[x0,x1,x2,x3,.nilFunc,.nilFunc,.nilFunc,.nilFunc,.nilFunc,.nilFunc,.nilFunc,.nilFunc] t (0,0)):=(a0u h2 3 x3).trans rfl
 have h4 : (((((w.setCell ⟨m,0,none⟩ x0).setCell ⟨m,1,none⟩ x1).setCell ⟨m,2,none⟩ x2).setCell ⟨m,3,none⟩ x3).setCell ⟨m,4,none⟩ x4).heap[m]? = some (.cells #[x0,x1,x2,x3,x4,.nilFunc,.nilFunc,.nilFunc,.nilFunc,.nilFunc,.nilFunc,.nilFunc] t (0,0)):=(a0u h3 4 x4).trans rfl
 have h5 : ((((((w.setCell ⟨m,0,none⟩ x0).setCell ⟨m,1,none⟩ x1).setCell ⟨m,2,none⟩ x2).setCell ⟨m,3,none⟩ x3).setCell ⟨m,4,none⟩ x4).setCell ⟨m,5,none⟩ x5).heap[m]? = some (.cells #[x0,x1,x2,x3,x4,x5,.nilFunc,.nilFunc,.nilFunc,.nilFunc,.nilFunc,.nilFunc] t (0,0)):=(a0u h4 5 x5).trans rfl
 have h6 : (((((((w.setCell ⟨m,0,none⟩ x0).setCell ⟨m,1,none⟩ x1).setCell ⟨m,2,none⟩ x2).setCell ⟨m,3,none⟩ x3).setCell ⟨m,4,none⟩ x4).setCell ⟨m,5,none⟩ x5).setCell ⟨m,6,none⟩ x6).heap[m]? = some (.cells #[x0,x1,x2,x3,x4,x5,x6,.nilFunc,.nilFunc,.nilFunc,.nilFunc,.nilFunc] t (0,0)):=(a0u h5 6 x6).trans rfl
 have h7 : ((((((((w.setCell ⟨m,0,none⟩ x0).setCell ⟨m,1,none⟩ x1).setCell ⟨m,2,none⟩ x2).setCell ⟨m,3,none⟩ x3).setCell ⟨m,4,none⟩ x4).setCell ⟨m,5,none⟩ x5).setCell ⟨m,6,none⟩ x6).setCell ⟨m,7,none⟩ x7).heap[m]? = some (.cells #[x0,x1,x2,x3,x4,x5,x6,x7,.nilFunc,.nilFunc,.nilFunc,.nilFunc] t (0,0)):=(a0u h6 7 x7).trans rfl
 have h8 : (((((((((w.setCell ⟨m,0,none⟩ x0).setCell ⟨m,1,none⟩ x1).setCell ⟨m,2,none⟩ x2).setCell ⟨m,3,none⟩ x3).setCell ⟨m,4,none⟩ x4).setCell ⟨m,5,none⟩ x5).setCell ⟨m,6,none⟩ x6).setCell ⟨m,7,none⟩ x7).setCell ⟨m,8,none⟩ x8).heap[m]? = some (.cells #[x0,x1,x2,x3,x4,x5,x6,x7,x8,.nilFunc,.nilFunc,.nilFunc] t (0,0)):=(a0u h7 8 x8).trans rfl
 have h9 : ((((((((((w.setCell ⟨m,0,none⟩ x0).setCell ⟨m,1,none⟩ x1).setCell ⟨m,2,none⟩ x2).setCell ⟨m,3,none⟩ x3).setCell ⟨m,4,none⟩ x4).setCell ⟨m,5,none⟩ x5).setCell ⟨m,6,none⟩ x6).setCell ⟨m,7,none⟩ x7).setCell ⟨m,8,none⟩ x8).setCell ⟨m,9,none⟩ x9).heap[m]? = some (.cells #[x0,x1,x2,x3,x4,x5,x6,x7,x8,x9,.nilFunc,.nilFunc] t (0,0)):=(a0u h8 9 x9).trans rfl
 have h10 : (((((((((((w.setCell ⟨m,0,none⟩ x0).setCell ⟨m,1,none⟩ x1).setCell ⟨m,2,none⟩ x2).setCell ⟨m,3,none⟩ x3).setCell ⟨m,4,none⟩ x4).setCell ⟨m,5,none⟩ x5).setCell ⟨m,6,none⟩ x6).setCell ⟨m,7,none⟩ x7).setCell ⟨m,8,none⟩ x8).setCell ⟨m,9,none⟩ x9).setCell ⟨m,10,none⟩ x10).heap[m]? = some (.cells #[x0,x1,x2,x3,x4,x5,x6,x7,x8,x9,x10,.nilFunc] t (0,0)):=(a0u h9 10 x10).trans rfl
 have h11 : ((((((((((((w.setCell ⟨m,0,none⟩ x0).setCell ⟨m,1,none⟩ x1).setCell ⟨m,2,none⟩ x2).setCell ⟨m,3,none⟩ x3).setCell ⟨m,4,none⟩ x4).setCell ⟨m,5,none⟩ x5).setCell ⟨m,6,none⟩ x6).setCell ⟨m,7,none⟩ x7).setCell ⟨m,8,none⟩ x8).setCell ⟨m,9,none⟩ x9).setCell ⟨m,10,none⟩ x10).setCell ⟨m,11,none⟩ x11).heap[m]? = some (.cells #[x0,x1,x2,x3,x4,x5,x6,x7,x8,x9,x10,x11] t (0,0)):=(a0u h10 11 x11).trans rfl
 exact h11
theorem far12 {w : World} {m p : Nat} {v : Value} (h : w.cell? ⟨p,0,none⟩ = some v) (hm : m ≠ p) (x0 x1 x2 x3 x4 x5 x6 x7 x8 x9 x10 x11 : Value) : ((((((((((((w.setCell ⟨m,0,none⟩ x0).setCell ⟨m,1,none⟩ x1).setCell ⟨m,2,none⟩ x2).setCell ⟨m,3,none⟩ x3).setCell ⟨m,4,none⟩ x4).setCell ⟨m,5,none⟩ x5).setCell ⟨m,6,none⟩ x6).setCell ⟨m,7,none⟩ x7).setCell ⟨m,8,none⟩ x8).setCell ⟨m,9,none⟩ x9).setCell ⟨m,10,none⟩ x10).setCell ⟨m,11,none⟩ x11).cell? ⟨p,0,none⟩ = some v:=by
 have hne : ∀ k,(⟨m,k,none⟩ : Addr) ≠ ⟨p,0,none⟩:=λ k e=>by injection e with e1; exact hm e1
 exact ((World.cell?_setCell_other _ _ _ _ (hne 11)).trans ((World.cell?_setCell_other _ _ _ _ (hne 10)).trans ((World.cell?_setCell_other _ _ _ _ (hne 9)).trans ((World.cell?_setCell_other _ _ _ _ (hne 8)).trans ((World.cell?_setCell_other _ _ _ _ (hne 7)).trans ((World.cell?_setCell_other _ _ _ _ (hne 6)).trans ((World.cell?_setCell_other _ _ _ _ (hne 5)).trans ((World.cell?_setCell_other _ _ _ _ (hne 4)).trans ((World.cell?_setCell_other _ _ _ _ (hne 3)).trans ((World.cell?_setCell_other _ _ _ _ (hne 2)).trans ((World.cell?_setCell_other _ _ _ _ (hne 1)).trans ((World.cell?_setCell_other _ _ _ _ (hne 0)).trans h))))))))))))
def a1s (p q : Nat) : Array Value:=#[.func (.func 176) #[] #[.pointer (some ⟨p,0,none⟩)],.func (.func 178) #[] #[.pointer (some ⟨p,0,none⟩)],.func (.func 128) #[] #[],
 .func (.func 176) #[] #[.pointer (some ⟨q,0,none⟩)],.func (.func 178) #[] #[.pointer (some ⟨q,0,none⟩)],.func (.func 129) #[] #[],
 .func (.func 130) #[] #[],.func (.func 131) #[] #[],.func (.func 132) #[] #[],
 .func (.func 63) #[] #[],.func (.func 23) #[] #[],.func (.func 132) #[] #[]]
def c8j (w : World) (e : Ending) (w' : World) : Prop:=∃ p q,e = .returned (.agg (a1s p q)) /\ w'.cell? ⟨p,0,none⟩ = some (.int .i64 0) /\ w'.cell? ⟨q,0,none⟩ = some (.int .i64 1) /\ Below w.heap.size w w'
set_option maxRecDepth 100000 in
set_option maxHeartbeats 1000000 in
theorem a2k (w : World) : Calls Tryz.prog 80 #[] w (c8j w):=by
 obtain ⟨W0,hW0⟩ : ∃ W0,W0 = w.alloc (.cells #[.nilFunc,.nilFunc,.nilFunc,.nilFunc,.nilFunc,.nilFunc,.nilFunc,.nilFunc,.nilFunc,.nilFunc,.nilFunc,.nilFunc] 103):=⟨_,rfl⟩
 have hb0 : Below w.heap.size w W0:=by rw [hW0]; exact (Below.refl _ _).alloc (Nat.le_refl _) _
 have hk0 : W0.heap[w.heap.size]? = some (.cells #[.nilFunc,.nilFunc,.nilFunc,.nilFunc,.nilFunc,.nilFunc,.nilFunc,.nilFunc,.nilFunc,.nilFunc,.nilFunc,.nilFunc] 103 (0,0)):=by rw [hW0]; exact a0k _ _
 have hs0 : W0.heap.size = w.heap.size + 1:=by rw [hW0]; simp
 obtain ⟨m,hm⟩ : ∃ m,m = w.heap.size:=⟨_,rfl⟩
 rw [<- hm] at hk0
 have HK:=Lib.hid (And.intro hk0 (And.intro hb0 (And.intro hm hs0)))
 clear hk0 hb0 hs0
 go_enter Tryz.func80,Tryz.ntmps80
 go_wp2_with fail
 rw [<- hW0,<- hm]
 clear hW0 hm
 refine (b6V 0 128 W0).mono ?_
 rintro e w1 ⟨rfl,hb1,hp1⟩
 obtain ⟨p,hp⟩ : ∃ p,p = W0.heap.size:=⟨_,rfl⟩
 rw [<- hp] at hp1 ⊢
 have H1:=Lib.hid (And.intro hb1 (And.intro hp1 hp))
 clear hb1 hp1 hp
 unfold b0v
 go_wp2_with fail
 refine (b6V 1 129 w1).mono ?_
 rintro e w2 ⟨rfl,hb2,hq2⟩
 obtain ⟨q,hq⟩ : ∃ q,q = w1.heap.size:=⟨_,rfl⟩
 rw [<- hq] at hq2 ⊢
 have H2:=Lib.hid (And.intro hb2 (And.intro hq2 hq))
 have hk2:=a0i (a0i HK.out.1 H1.out.1) hb2
 obtain ⟨⟨c0,c1,c2,c3,c4,c5,c6,c7,c8,c9,c10,c11⟩,f0,f1,f2,f3,f4,f5,f6,f7,f8,f9,f10,f11⟩:=c8h hk2
 have HK2:=Lib.hid hk2
 clear hb2 hq2 hq hk2
 unfold b0v
 go_wp2_with fail
 refine bodyPost_ret (results_cell_row (fn:=Tryz.f80) (p:=0) (ty:=103) rfl _ _ _ _ _ _ _ rfl (c8i HK2.out _ _ _ _ _ _ _ _ _ _ _ _) Tryz.underlying103 rfl c8g) rfl ?_
 have hm : w.heap.size <= m:=by have:=HK.out.2.2.1; omega
 have hpm : m ≠ p:=by have h1:=H1.out.2.2; have h2:=HK.out.2.2.1; have h3:=HK.out.2.2.2; omega
 have hqm : m ≠ q:=by have h1:=H2.out.2.2; have h2:=HK.out.2.2.1; have h3:=HK.out.2.2.2; have h4:=H1.out.1.size; omega
 have HB : Below w.heap.size w w2:=a0g (a0g HK.out.2.1 H1.out.1) H2.out.1
 have hp2 : w2.cell? ⟨p,0,none⟩ = some (.int .i64 0):=a0t H2.out.1 ((a0a H1.out.2.1 0).trans rfl)
 have hq2 : w2.cell? ⟨q,0,none⟩ = some (.int .i64 1):=(a0a H2.out.2.1 0).trans rfl
 exact ⟨p,q,rfl,far12 hp2 hpm _ _ _ _ _ _ _ _ _ _ _ _,far12 hq2 hqm _ _ _ _ _ _ _ _ _ _ _ _,((((((((((((HB.setCell hm _).setCell hm _).setCell hm _).setCell hm _).setCell hm _).setCell hm _).setCell hm _).setCell hm _).setCell hm _).setCell hm _).setCell hm _).setCell hm _)⟩
set_option maxRecDepth 100000 in
theorem a2F (k : Int) (w : World) : Calls Tryz.prog 83 #[.int .i64 k] w λ e w'=>e = .returned (.bool (decide (0 <= k /\ k < 4))) /\ w = w':=by
 by_cases h0 : 0 <= k
 · by_cases h1 : k < 4
   · have d : decide (0 <= k /\ k < 4) = true:=decide_eq_true ⟨h0,h1⟩
     rw [d]
     have d0:=decide_eq_true h0
     have d1:=decide_eq_true h1
     clear d
     go_enter Tryz.func83,Tryz.ntmps83
     go_wp2_with fail
     go_ret
     exact ⟨rfl,rfl⟩
   · have d : decide (0 <= k /\ k < 4) = false:=decide_eq_false (λ h=>h1 h.2)
     rw [d]
     have d1:=decide_eq_false h1
     clear d h1
     go_enter Tryz.func83,Tryz.ntmps83
     go_wp2_with fail
     go_ret
     exact ⟨by simp,rfl⟩
 · have d : decide (0 <= k /\ k < 4) = false:=decide_eq_false (λ h=>h0 h.1)
   rw [d]
   have d0:=decide_eq_false h0
   clear d h0
   go_enter Tryz.func83,Tryz.ntmps83
   go_wp2_with fail
   go_ret
   exact ⟨by simp,rfl⟩
set_option maxRecDepth 100000 in
theorem b6W {x : Int × List Int} (A : Option Addr) (c p : Nat) (k : Int) (b : List Int) (w : World) (hp : w.cell? ⟨p,0,none⟩ = some (.int .i64 k)) (h : Calls Tryz.prog 177 #[.int .i64 k,.slice A b.length c] w (Told x.1 x.2 w)) :
    Calls Tryz.prog 176 #[.slice A b.length c,.pointer (some ⟨p,0,none⟩)] w (Told x.1 x.2 w):=by
 have H:=Lib.hid h
 clear h
 go_enter Tryz.func176,Tryz.ntmps176
 go_wp2_with fail
 refine H.out.mono ?_
 rintro e w' ⟨A1,c1,rfl,hv,hb⟩
 have H1:=Lib.hid (And.intro hv hb)
 clear hv hb
 go_wp2_with fail
 go_ret2
 exact ⟨A1,c1,rfl,H1.out.1,H1.out.2⟩
theorem b0w (p q : Nat) (w : World) : (Instr.index 103 (.agg (a1s p q)) (.int .i64 0)).run Tryz.prog w = .ok (.agg #[.func (.func 176) #[] #[.pointer (some ⟨p,0,none⟩)],.func (.func 178) #[] #[.pointer (some ⟨p,0,none⟩)],.func (.func 128) #[] #[]]) w:=by
 obtain ⟨i0,hi0,hsz⟩:=Option.map_eq_some_iff.1 a5R
 have hag : (isAgg 102).run Tryz.prog w = .ok true w:=by simp [isAgg,Tryz.underlying102,go_sem,run_underlying]
 unfold Instr.index a1s
 simp [run_underlying (P:=Tryz.prog) Tryz.underlying103,asIntOf,sizeOf,typeInfo,hi0,hsz,part,hag,Result.andThen]
theorem b0x (p q : Nat) (w : World) : (Instr.index 103 (.agg (a1s p q)) (.int .i64 1)).run Tryz.prog w = .ok (.agg #[.func (.func 176) #[] #[.pointer (some ⟨q,0,none⟩)],.func (.func 178) #[] #[.pointer (some ⟨q,0,none⟩)],.func (.func 129) #[] #[]]) w:=by
 obtain ⟨i0,hi0,hsz⟩:=Option.map_eq_some_iff.1 a5R
 have hag : (isAgg 102).run Tryz.prog w = .ok true w:=by simp [isAgg,Tryz.underlying102,go_sem,run_underlying]
 unfold Instr.index a1s
 simp [run_underlying (P:=Tryz.prog) Tryz.underlying103,asIntOf,sizeOf,typeInfo,hi0,hsz,part,hag,Result.andThen]
theorem b0y (p q : Nat) (w : World) : (Instr.index 103 (.agg (a1s p q)) (.int .i64 2)).run Tryz.prog w = .ok (.agg #[.func (.func 130) #[] #[],.func (.func 131) #[] #[],.func (.func 132) #[] #[]]) w:=by
 obtain ⟨i0,hi0,hsz⟩:=Option.map_eq_some_iff.1 a5R
 have hag : (isAgg 102).run Tryz.prog w = .ok true w:=by simp [isAgg,Tryz.underlying102,go_sem,run_underlying]
 unfold Instr.index a1s
 simp [run_underlying (P:=Tryz.prog) Tryz.underlying103,asIntOf,sizeOf,typeInfo,hi0,hsz,part,hag,Result.andThen]
theorem b0z (p q : Nat) (w : World) : (Instr.index 103 (.agg (a1s p q)) (.int .i64 3)).run Tryz.prog w = .ok (.agg #[.func (.func 63) #[] #[],.func (.func 23) #[] #[],.func (.func 132) #[] #[]]) w:=by
 obtain ⟨i0,hi0,hsz⟩:=Option.map_eq_some_iff.1 a5R
 have hag : (isAgg 102).run Tryz.prog w = .ok true w:=by simp [isAgg,Tryz.underlying102,go_sem,run_underlying]
 unfold Instr.index a1s
 simp [run_underlying (P:=Tryz.prog) Tryz.underlying103,asIntOf,sizeOf,typeInfo,hi0,hsz,part,hag,Result.andThen]
theorem a7S (a b c : Value) (w : World) : (Instr.field 102 (.agg #[a,b,c]) 0).run Tryz.prog w = .ok a w:=by kernel_rfl
theorem a7T (a b c : Value) (w : World) : (Instr.field 102 (.agg #[a,b,c]) 1).run Tryz.prog w = .ok b w:=by kernel_rfl
theorem a7U (a b c : Value) (w : World) : (Instr.field 102 (.agg #[a,b,c]) 2).run Tryz.prog w = .ok c w:=by kernel_rfl
theorem b0A {k : Int} {b : List Int} (h : ¬ (0 <= k /\ k < 4)) : pickE k b = (10,[]):=by unfold pickE; rw [if_pos (by omega)]
theorem a3o {k : Int} {b : List Int} (h0 : 0 <= k) (h1 : k <= 1) : pickE k b = a1i k b:=by unfold pickE; rw [if_neg (by omega),if_pos h1]
theorem b0B {k : Int} {b : List Int} (h0 : 2 <= k) (h1 : k <= 3) (hb : b.length = 0) : pickE k b = (1,[]):=by unfold pickE; rw [if_neg (by omega),if_neg (by omega),if_pos hb]
theorem b0C {b : List Int} (hb : 0 < b.length) : pickE 2 b = (0,a1h b):=by unfold pickE; rw [if_neg (by decide),if_neg (by decide),if_neg (by omega),if_pos rfl]
theorem b0D {b : List Int} (hb : 0 < b.length) : pickE 3 b = (0,a1d b):=by unfold pickE; rw [if_neg (by decide),if_neg (by decide),if_neg (by omega),if_neg (by decide)]
set_option maxRecDepth 100000 in
theorem c8k (A : Option Addr) (c : Nat) (k : Int) (b : List Int) (w : World) (h : ¬ (0 <= k /\ k < 4)) :
    Calls Tryz.prog 126 #[.int .i64 k,.slice A b.length c] w (Told 10 [] w):=by
 have hd:=decide_eq_false h
 have HI:=Lib.hid (a2F k w)
 rw [hd] at HI
 clear hd h
 go_enter Tryz.func126,Tryz.ntmps126
 go_wp2_with fail
 refine HI.out.mono ?_
 rintro e w' ⟨rfl,rfl⟩
 go_wp2_with fail
 go_ret2
 exact Told.nil 10 (Below.refl _ _)
set_option maxRecDepth 100000 in
theorem c8l {x : Int × List Int} (A : Option Addr) (c : Nat) (b : List Int) (w : World) (h : ∀ (W : World) (p q : Nat),Below w.heap.size w W -> W.cell? ⟨p,0,none⟩ = some (.int .i64 0) -> W.cell? ⟨q,0,none⟩ = some (.int .i64 1) -> Calls Tryz.prog 176 #[.slice A b.length c,.pointer (some ⟨p,0,none⟩)] W (Told x.1 x.2 W)) :
    Calls Tryz.prog 126 #[.int .i64 0,.slice A b.length c] w (Told x.1 x.2 w):=by
 have H:=Lib.hid h
 clear h
 go_enter Tryz.func126,Tryz.ntmps126
 go_wp2_with fail
 refine (a2F 0 w).mono ?_
 rintro e w' ⟨rfl,rfl⟩
 go_wp2_with fail
 refine (a2k w).mono ?_
 rintro e w1 ⟨p,q,rfl,hp,hq,hb⟩
 have H1:=Lib.hid (H.out w1 p q hb hp hq)
 have HB:=Lib.hid hb
 have hix:=λ W=>b0w p q W
 have hkf:=a7S
 obtain ⟨V,hV⟩ : ∃ V,V = a1s p q:=⟨_,rfl⟩
 rw [<- hV] at hix ⊢
 clear hb hp hq hV
 go_wp2_with fail
 refine H1.out.mono ?_
 rintro e w2 ⟨A1,c1,rfl,hv,hb⟩
 have H2:=Lib.hid (And.intro hv hb)
 clear hv hb hix hkf
 go_wp2_with fail
 go_ret2
 exact ⟨A1,c1,rfl,Kd.R_lower H2.out.1 HB.out.size,a0g HB.out H2.out.2⟩
set_option maxRecDepth 100000 in
theorem c8m {x : Int × List Int} (A : Option Addr) (c : Nat) (b : List Int) (w : World) (h : ∀ (W : World) (p q : Nat),Below w.heap.size w W -> W.cell? ⟨p,0,none⟩ = some (.int .i64 0) -> W.cell? ⟨q,0,none⟩ = some (.int .i64 1) -> Calls Tryz.prog 176 #[.slice A b.length c,.pointer (some ⟨q,0,none⟩)] W (Told x.1 x.2 W)) :
    Calls Tryz.prog 126 #[.int .i64 1,.slice A b.length c] w (Told x.1 x.2 w):=by
 have H:=Lib.hid h
 clear h
 go_enter Tryz.func126,Tryz.ntmps126
 go_wp2_with fail
 refine (a2F 1 w).mono ?_
 rintro e w' ⟨rfl,rfl⟩
 go_wp2_with fail
 refine (a2k w).mono ?_
 rintro e w1 ⟨p,q,rfl,hp,hq,hb⟩
 have H1:=Lib.hid (H.out w1 p q hb hp hq)
 have HB:=Lib.hid hb
 have hix:=λ W=>b0x p q W
 have hkf:=a7S
 obtain ⟨V,hV⟩ : ∃ V,V = a1s p q:=⟨_,rfl⟩
 rw [<- hV] at hix ⊢
 clear hb hp hq hV
 go_wp2_with fail
 refine H1.out.mono ?_
 rintro e w2 ⟨A1,c1,rfl,hv,hb⟩
 have H2:=Lib.hid (And.intro hv hb)
 clear hv hb hix hkf
 go_wp2_with fail
 go_ret2
 exact ⟨A1,c1,rfl,Kd.R_lower H2.out.1 HB.out.size,a0g HB.out H2.out.2⟩
set_option maxRecDepth 100000 in
theorem b6X {x : Int × List Int} (A : Option Addr) (c : Nat) (b : List Int) (w : World) (h : ∀ (W : World) (p q : Nat),Below w.heap.size w W -> W.cell? ⟨p,0,none⟩ = some (.int .i64 0) -> W.cell? ⟨q,0,none⟩ = some (.int .i64 1) -> Calls Tryz.prog 130 #[.slice A b.length c] W (Told x.1 x.2 W)) :
    Calls Tryz.prog 126 #[.int .i64 2,.slice A b.length c] w (Told x.1 x.2 w):=by
 have H:=Lib.hid h
 clear h
 go_enter Tryz.func126,Tryz.ntmps126
 go_wp2_with fail
 refine (a2F 2 w).mono ?_
 rintro e w' ⟨rfl,rfl⟩
 go_wp2_with fail
 refine (a2k w).mono ?_
 rintro e w1 ⟨p,q,rfl,hp,hq,hb⟩
 have H1:=Lib.hid (H.out w1 p q hb hp hq)
 have HB:=Lib.hid hb
 have hix:=λ W=>b0y p q W
 have hkf:=a7S
 obtain ⟨V,hV⟩ : ∃ V,V = a1s p q:=⟨_,rfl⟩
 rw [<- hV] at hix ⊢
 clear hb hp hq hV
 go_wp2_with fail
 refine H1.out.mono ?_
 rintro e w2 ⟨A1,c1,rfl,hv,hb⟩
 have H2:=Lib.hid (And.intro hv hb)
 clear hv hb hix hkf
 go_wp2_with fail
 go_ret2
 exact ⟨A1,c1,rfl,Kd.R_lower H2.out.1 HB.out.size,a0g HB.out H2.out.2⟩
set_option maxRecDepth 100000 in
theorem b6Y {x : Int × List Int} (A : Option Addr) (c : Nat) (b : List Int) (w : World) (h : ∀ (W : World) (p q : Nat),Below w.heap.size w W -> W.cell? ⟨p,0,none⟩ = some (.int .i64 0) -> W.cell? ⟨q,0,none⟩ = some (.int .i64 1) -> Calls Tryz.prog 63 #[.slice A b.length c] W (Told x.1 x.2 W)) :
    Calls Tryz.prog 126 #[.int .i64 3,.slice A b.length c] w (Told x.1 x.2 w):=by
 have H:=Lib.hid h
 clear h
 go_enter Tryz.func126,Tryz.ntmps126
 go_wp2_with fail
 refine (a2F 3 w).mono ?_
 rintro e w' ⟨rfl,rfl⟩
 go_wp2_with fail
 refine (a2k w).mono ?_
 rintro e w1 ⟨p,q,rfl,hp,hq,hb⟩
 have H1:=Lib.hid (H.out w1 p q hb hp hq)
 have HB:=Lib.hid hb
 have hix:=λ W=>b0z p q W
 have hkf:=a7S
 obtain ⟨V,hV⟩ : ∃ V,V = a1s p q:=⟨_,rfl⟩
 rw [<- hV] at hix ⊢
 clear hb hp hq hV
 go_wp2_with fail
 refine H1.out.mono ?_
 rintro e w2 ⟨A1,c1,rfl,hv,hb⟩
 have H2:=Lib.hid (And.intro hv hb)
 clear hv hb hix hkf
 go_wp2_with fail
 go_ret2
 exact ⟨A1,c1,rfl,Kd.R_lower H2.out.1 HB.out.size,a0g HB.out H2.out.2⟩
theorem c8n (A : Option Addr) (c : Nat) (k : Int) (b : List Int) (w : World) (hr : (Kd.int .u8).C w A b.length b) (hb : Bytes b) (hl : b.length <= 40000) :
    Calls Tryz.prog 126 #[.int .i64 k,.slice A b.length c] w (Told (pickE k b).1 (pickE k b).2 w):=by
 by_cases h : 0 <= k /\ k < 4
 · by_cases k0 : k = 0
   · subst k0
     exact c8l A c b w (λ W p q hB hp _=>b6W A c p 0 b W hp (by rw [a3o (by decide) (by decide),a5Q hl]; exact c8e A c b W (Kd.C_below hr hB) hl))
   by_cases k1 : k = 1
   · subst k1
     exact c8m A c b w (λ W p q hB _ hq=>b6W A c q 1 b W hq (by rw [a3o (by decide) (by decide)]; exact c8f A c b W (Kd.C_below hr hB) hl))
   rcases Nat.eq_zero_or_pos b.length with h0 | h0
   · rw [b0B (by omega) (by omega) h0]
     by_cases k2 : k = 2
     · subst k2
       exact b6X (x:=(1,[])) A c b w (λ W p q hB _ _=>(b5P A c b W (Kd.C_below hr hB) hb hl).mono λ e w' h=>by
        rcases h with ⟨_,rfl,hbl⟩ | ⟨h,_⟩
        · exact Told.nil 1 hbl
        · omega)
     · obtain rfl : k = 3:=by omega
       exact b6Y (x:=(1,[])) A c b w (λ W p q hB _ _=>by
        rw [h0]
        exact (b6U A c W).mono λ e w' ⟨he,hbl⟩=>by subst he; exact Told.nil 1 hbl)
   · by_cases k2 : k = 2
     · subst k2
       rw [b0C h0]
       exact b6X (x:=(0,a1h b)) A c b w (λ W p q hB _ _=>c5w A c b W (Kd.C_below hr hB) hb hl h0)
     · obtain rfl : k = 3:=by omega
       rw [b0D h0]
       exact b6Y (x:=(0,a1d b)) A c b w (λ W p q hB _ _=>b0u A c b W (Kd.C_below hr hB) hb hl h0)
 · rw [b0A h]; exact c8k A c k b w h
set_option maxRecDepth 100000 in
theorem c8o (n m : Int) (w : World) : Calls Tryz.prog 128 #[.int .i64 n,.int .i64 m] w λ e w'=>e = .returned (.bool (mayB 0 n m)) /\ w = w':=by
 go_enter Tryz.func128,Tryz.ntmps128
 go_wp2_with fail
 go_ret
 exact ⟨rfl,rfl⟩
set_option maxRecDepth 100000 in
theorem c8p (n m : Int) (w : World) : Calls Tryz.prog 129 #[.int .i64 n,.int .i64 m] w λ e w'=>e = .returned (.bool (mayB 1 n m)) /\ w = w':=by
 by_cases h : 1 < n
 · have d:=decide_eq_true h
   have e : mayB 1 n m = decide (m = 1):=by unfold mayB; rw [if_neg (by decide),if_pos rfl]; simp [h]
   rw [e]
   go_enter Tryz.func129,Tryz.ntmps129
   go_wp2_with fail
   go_ret
   exact ⟨rfl,rfl⟩
 · have d:=decide_eq_false h
   have e : mayB 1 n m = false:=by unfold mayB; rw [if_neg (by decide),if_pos rfl]; simp [h]
   rw [e]
   clear h e
   go_enter Tryz.func129,Tryz.ntmps129
   go_wp2_with fail
   go_ret
   exact ⟨by simp,rfl⟩
set_option maxRecDepth 100000 in
theorem b6Z (k n m : Int) (hk : 2 <= k) (w : World) : Calls Tryz.prog 132 #[.int .i64 n,.int .i64 m] w λ e w'=>e = .returned (.bool (mayB k n m)) /\ w = w':=by
 by_cases h : 1 <= m
 · have d:=decide_eq_true h
   have e : mayB k n m = decide (m < n):=by unfold mayB; rw [if_neg (by omega),if_neg (by omega)]; simp [h]
   rw [e]
   go_enter Tryz.func132,Tryz.ntmps132
   go_wp2_with fail
   go_ret
   exact ⟨by first | rfl | simp,rfl⟩
 · have d:=decide_eq_false h
   have e : mayB k n m = false:=by unfold mayB; rw [if_neg (by omega),if_neg (by omega)]; simp [h]
   rw [e]
   clear h e
   go_enter Tryz.func132,Tryz.ntmps132
   go_wp2_with fail
   go_ret
   exact ⟨by simp,rfl⟩
def a1w (k n m : Int) (w : World) (e : Ending) (w' : World) : Prop:=e = .returned (.int .i64 (a0H k n m)) /\ Below w.heap.size w w'
theorem c8q {k n m : Int} (h : ¬ (0 <= k /\ k < 4)) : a0H k n m = 10:=by unfold a0H; rw [if_pos (by omega)]
theorem c8r {k n m : Int} (h : 0 <= k /\ k < 4) (hn : n < 0 \/ 131072 < n) : a0H k n m = 11:=by unfold a0H; rw [if_neg (by omega),if_pos (by omega)]
theorem a7V {k n m : Int} (h : 0 <= k /\ k < 4) (hn : 0 <= n /\ n <= 131072) (hm : mayB k n m = true) : a0H k n m = 0:=by unfold a0H; rw [if_neg (by omega),if_neg (by rw [hm]; simp; omega)]
theorem a7W {k n m : Int} (h : 0 <= k /\ k < 4) (hm : mayB k n m = false) : a0H k n m = 11:=by unfold a0H; rw [if_neg (by omega),if_pos (.inr (.inr hm))]
set_option maxRecDepth 100000 in
theorem c8s (k n m : Int) (w : World) (h : ¬ (0 <= k /\ k < 4)) : Calls Tryz.prog 30 #[.int .i64 k,.int .i64 n,.int .i64 m] w (a1w k n m w):=by
 unfold a1w
 rw [c8q h]
 have hd:=decide_eq_false h
 have HI:=Lib.hid (a2F k w)
 rw [hd] at HI
 clear hd h
 go_enter Tryz.func30,Tryz.ntmps30
 go_wp2_with fail
 refine HI.out.mono ?_
 rintro e w' ⟨rfl,rfl⟩
 go_wp2_with fail
 go_ret
 exact ⟨rfl,Below.refl _ _⟩
set_option maxRecDepth 100000 in
theorem c8t (k n m : Int) (w : World) (h : 0 <= k /\ k < 4) (hn : n < 0 \/ 131072 < n) : Calls Tryz.prog 30 #[.int .i64 k,.int .i64 n,.int .i64 m] w (a1w k n m w):=by
 unfold a1w
 rw [c8r h hn]
 have hd:=decide_eq_true h
 have HI:=Lib.hid (a2F k w)
 rw [hd] at HI
 have hn2 : decide (n < 0) = true \/ (decide (n < 0) = false /\ decide (131072 < n) = true):=by
  by_cases h5 : n < 0
  · exact .inl (decide_eq_true h5)
  · exact .inr ⟨decide_eq_false h5,decide_eq_true (by omega)⟩
 clear hd h hn
 rcases hn2 with h1 | ⟨h1,h2⟩
 all_goals
  go_enter Tryz.func30,Tryz.ntmps30
  go_wp2_with fail
  refine HI.out.mono ?_
  rintro e w' ⟨rfl,rfl⟩
  go_wp2_with fail
  go_ret
  exact ⟨rfl,Below.refl _ _⟩
set_option maxRecDepth 100000 in
theorem c8u (n m : Int) (w : World) (hn : 0 <= n /\ n <= 131072) : Calls Tryz.prog 30 #[.int .i64 0,.int .i64 n,.int .i64 m] w (a1w 0 n m w):=by
 unfold a1w
 have h1 : decide (n < 0) = false:=decide_eq_false (by omega)
 have h2 : decide (131072 < n) = false:=decide_eq_false (by omega)
 obtain ⟨z,hz⟩ : ∃ z,z = mayB 0 n m:=⟨_,rfl⟩
 have HM:=Lib.hid (λ W=>c8o n m W)
 have hE : a0H 0 n m = if z = true then 0 else 11:=by
  cases z with
  | true=>rw [a7V (by decide) hn hz.symm]; rfl
  | false=>rw [a7W (by decide) hz.symm]; rfl
 rw [<- hz] at HM
 rw [hE]
 clear hz hE hn
 go_enter Tryz.func30,Tryz.ntmps30
 go_wp2_with fail
 refine (a2F 0 w).mono ?_
 rintro e w' ⟨rfl,rfl⟩
 go_wp2_with fail
 refine (a2k w).mono ?_
 rintro e w1 ⟨p,q,rfl,-,-,hb⟩
 have HB:=Lib.hid hb
 have hix:=λ W=>b0w p q W
 have hkf:=a7U
 obtain ⟨V,hV⟩ : ∃ V,V = a1s p q:=⟨_,rfl⟩
 rw [<- hV] at hix ⊢
 clear hb hV
 go_wp2_with fail
 refine (HM.out w1).mono ?_
 rintro e w2 ⟨rfl,rfl⟩
 clear hix hkf
 cases z with
 | true=>
  go_wp2_with fail
  go_ret
  exact ⟨rfl,HB.out⟩
 | false=>
  go_wp2_with fail
  go_ret
  exact ⟨rfl,HB.out⟩
set_option maxRecDepth 100000 in
theorem c8v (n m : Int) (w : World) (hn : 0 <= n /\ n <= 131072) : Calls Tryz.prog 30 #[.int .i64 1,.int .i64 n,.int .i64 m] w (a1w 1 n m w):=by
 unfold a1w
 have h1 : decide (n < 0) = false:=decide_eq_false (by omega)
 have h2 : decide (131072 < n) = false:=decide_eq_false (by omega)
 obtain ⟨z,hz⟩ : ∃ z,z = mayB 1 n m:=⟨_,rfl⟩
 have HM:=Lib.hid (λ W=>c8p n m W)
 have hE : a0H 1 n m = if z = true then 0 else 11:=by
  cases z with
  | true=>rw [a7V (by decide) hn hz.symm]; rfl
  | false=>rw [a7W (by decide) hz.symm]; rfl
 rw [<- hz] at HM
 rw [hE]
 clear hz hE hn
 go_enter Tryz.func30,Tryz.ntmps30
 go_wp2_with fail
 refine (a2F 1 w).mono ?_
 rintro e w' ⟨rfl,rfl⟩
 go_wp2_with fail
 refine (a2k w).mono ?_
 rintro e w1 ⟨p,q,rfl,-,-,hb⟩
 have HB:=Lib.hid hb
 have hix:=λ W=>b0x p q W
 have hkf:=a7U
 obtain ⟨V,hV⟩ : ∃ V,V = a1s p q:=⟨_,rfl⟩
 rw [<- hV] at hix ⊢
 clear hb hV
 go_wp2_with fail
 refine (HM.out w1).mono ?_
 rintro e w2 ⟨rfl,rfl⟩
 clear hix hkf
 cases z with
 | true=>
  go_wp2_with fail
  go_ret
  exact ⟨rfl,HB.out⟩
 | false=>
  go_wp2_with fail
  go_ret
  exact ⟨rfl,HB.out⟩
set_option maxRecDepth 100000 in
theorem c8w (n m : Int) (w : World) (hn : 0 <= n /\ n <= 131072) : Calls Tryz.prog 30 #[.int .i64 2,.int .i64 n,.int .i64 m] w (a1w 2 n m w):=by
 unfold a1w
 have h1 : decide (n < 0) = false:=decide_eq_false (by omega)
 have h2 : decide (131072 < n) = false:=decide_eq_false (by omega)
 obtain ⟨z,hz⟩ : ∃ z,z = mayB 2 n m:=⟨_,rfl⟩
 have HM:=Lib.hid (λ W=>b6Z 2 n m (by decide) W)
 have hE : a0H 2 n m = if z = true then 0 else 11:=by
  cases z with
  | true=>rw [a7V (by decide) hn hz.symm]; rfl
  | false=>rw [a7W (by decide) hz.symm]; rfl
 rw [<- hz] at HM
 rw [hE]
 clear hz hE hn
 go_enter Tryz.func30,Tryz.ntmps30
 go_wp2_with fail
 refine (a2F 2 w).mono ?_
 rintro e w' ⟨rfl,rfl⟩
 go_wp2_with fail
 refine (a2k w).mono ?_
 rintro e w1 ⟨p,q,rfl,-,-,hb⟩
 have HB:=Lib.hid hb
 have hix:=λ W=>b0y p q W
 have hkf:=a7U
 obtain ⟨V,hV⟩ : ∃ V,V = a1s p q:=⟨_,rfl⟩
 rw [<- hV] at hix ⊢
 clear hb hV
 go_wp2_with fail
 refine (HM.out w1).mono ?_
 rintro e w2 ⟨rfl,rfl⟩
 clear hix hkf
 cases z with
 | true=>
  go_wp2_with fail
  go_ret
  exact ⟨rfl,HB.out⟩
 | false=>
  go_wp2_with fail
  go_ret
  exact ⟨rfl,HB.out⟩
set_option maxRecDepth 100000 in
theorem c8x (n m : Int) (w : World) (hn : 0 <= n /\ n <= 131072) : Calls Tryz.prog 30 #[.int .i64 3,.int .i64 n,.int .i64 m] w (a1w 3 n m w):=by
 unfold a1w
 have h1 : decide (n < 0) = false:=decide_eq_false (by omega)
 have h2 : decide (131072 < n) = false:=decide_eq_false (by omega)
 obtain ⟨z,hz⟩ : ∃ z,z = mayB 3 n m:=⟨_,rfl⟩
 have HM:=Lib.hid (λ W=>b6Z 3 n m (by decide) W)
 have hE : a0H 3 n m = if z = true then 0 else 11:=by
  cases z with
  | true=>rw [a7V (by decide) hn hz.symm]; rfl
  | false=>rw [a7W (by decide) hz.symm]; rfl
 rw [<- hz] at HM
 rw [hE]
 clear hz hE hn
 go_enter Tryz.func30,Tryz.ntmps30
 go_wp2_with fail
 refine (a2F 3 w).mono ?_
 rintro e w' ⟨rfl,rfl⟩
 go_wp2_with fail
 refine (a2k w).mono ?_
 rintro e w1 ⟨p,q,rfl,-,-,hb⟩
 have HB:=Lib.hid hb
 have hix:=λ W=>b0z p q W
 have hkf:=a7U
 obtain ⟨V,hV⟩ : ∃ V,V = a1s p q:=⟨_,rfl⟩
 rw [<- hV] at hix ⊢
 clear hb hV
 go_wp2_with fail
 refine (HM.out w1).mono ?_
 rintro e w2 ⟨rfl,rfl⟩
 clear hix hkf
 cases z with
 | true=>
  go_wp2_with fail
  go_ret
  exact ⟨rfl,HB.out⟩
 | false=>
  go_wp2_with fail
  go_ret
  exact ⟨rfl,HB.out⟩
theorem a5d (k n m : Int) (w : World) : Calls Tryz.prog 30 #[.int .i64 k,.int .i64 n,.int .i64 m] w (a1w k n m w):=by
 by_cases h : 0 <= k /\ k < 4
 · by_cases hn : 0 <= n /\ n <= 131072
   · by_cases k0 : k = 0
     · subst k0; exact c8u n m w hn
     by_cases k1 : k = 1
     · subst k1; exact c8v n m w hn
     by_cases k2 : k = 2
     · subst k2; exact c8w n m w hn
     · obtain rfl : k = 3:=by omega
       exact c8x n m w hn
   · exact c8t k n m w h (by omega)
 · exact c8s k n m w h
end Go.Proofs.YtflfjpkmjnnodaaGreat
