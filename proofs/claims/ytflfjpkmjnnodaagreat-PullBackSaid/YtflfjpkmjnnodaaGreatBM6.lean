/- The walks of block.Head.length, block.Scan. -/
import Derived.BigQuiet
import Derived.Test.YtflfjpkmjnnodaaGreatBM4
import Derived.Test.YtflfjpkmjnnodaaGreatBM2
import Derived.Test.YtflfjpkmjnnodaaGreatBM1
import Derived.Test.YtflfjpkmjnnodaaGreatBM5
import Derived.Test.YtflfjpkmjnnodaaGreatBS1
import Derived.Test.YtflfjpkmjnnodaaGreatBM0
import Derived.OwnWalk
import Derived.WalkMore
import Derived.ArgAppend
import Derived.Lib.SlBytesConst
import Derived.RangeFuncRecord
import Derived.RangeFuncSeq
import Derived.WalkKit
import Derived.OwnWalkIn
import Derived.TacticsInMore
import Derived.BigFrameIn
import Derived.LoopNIn
import Derived.LoopIn
import Derived.RangeFuncBox
import Derived.Stop.RegionWithIn
import Derived.RangeFuncLeaves
import Derived.RangeFuncCalls
import Derived.Laws.EntriesVeiled
import Derived.Lib.MinMax
import Derived.Deep.RegionHeld3
namespace Go.Proofs.YtflfjpkmjnnodaaGreat
open Go.RowKit Go.IntWalk Go.Proofs.YtflfjpkmjnnodaaGreatW.PrintWords Go.Proofs.YtflfjpkmjnnodaaGreatW.PrintMore
attribute [local go_sem] a1M
theorem c9E : (Tryz.prog.info? 114).map (·.size) = some 5:=by kernel_rfl
def headC (h : HeadT) : Array Value:=#[.int .i64 (h.1 : Nat),.int .i64 (h.2.1 : Nat),.int .i64 (h.2.2.1 : Nat),.bool h.2.2.2.1,.int .u32 (h.2.2.2.2 : Nat)]
theorem cell5 {w : World} {mb : Nat} {a b c d f : Value} {t : Nat} (h : w.heap[mb]? = some (.cells #[a,b,c,d,f] t (0,0))) : (w.cell? ⟨mb,0,none⟩ = some a /\ w.cell? ⟨mb,1,none⟩ = some b /\ w.cell? ⟨mb,2,none⟩ = some c /\ w.cell? ⟨mb,3,none⟩ = some d /\ w.cell? ⟨mb,4,none⟩ = some f) /\ (w.frozen? ⟨mb,0,none⟩ = false /\ w.frozen? ⟨mb,1,none⟩ = false /\ w.frozen? ⟨mb,2,none⟩ = false /\ w.frozen? ⟨mb,3,none⟩ = false /\ w.frozen? ⟨mb,4,none⟩ = false):=
 ⟨⟨(a0a h 0).trans rfl,(a0a h 1).trans rfl,(a0a h 2).trans rfl,(a0a h 3).trans rfl,(a0a h 4).trans rfl⟩,a0e h 0,a0e h 1,a0e h 2,a0e h 3,a0e h 4⟩
theorem a3c {w : World} {g : Nat} {a b c d f : Value} (hg : w.heap[g]? = some (.cells #[a,b,c,d,f] 114 (0,0))) : (loadVar 114 ⟨g,0,none⟩).run Tryz.prog w = .ok (.agg #[a,b,c,d,f]) w:=
 run_loadVar_row w g _ _ _ _ _ hg Tryz.underlying114 rfl c9E
theorem a3t {w : World} {mb : Nat} {t : Nat} {a b c d f : Value} (h : w.heap[mb]? = some (.cells #[a,b,c,d,f] t (0,0))) (x y z u v : Value) : (((((w.setCell ⟨mb,0,none⟩ x).setCell ⟨mb,1,none⟩ y).setCell ⟨mb,2,none⟩ z).setCell ⟨mb,3,none⟩ u).setCell ⟨mb,4,none⟩ v).heap[mb]? = some (.cells #[x,y,z,u,v] t (0,0)):=by
 rw [a0i (a0i (a0i (a0i (a0i h 0 _) 1 _) 2 _) 3 _) 4]; rfl
theorem b1f {B g : Nat} {w W : World} (hb : Below B w W) (hg : B <= g) (x y z u v : Value) : Below B w (((((W.setCell ⟨g,0,none⟩ x).setCell ⟨g,1,none⟩ y).setCell ⟨g,2,none⟩ z).setCell ⟨g,3,none⟩ u).setCell ⟨g,4,none⟩ v):=
 ((((hb.setCell (p:=⟨g,0,none⟩) hg x).setCell (p:=⟨g,1,none⟩) hg y).setCell (p:=⟨g,2,none⟩) hg z).setCell (p:=⟨g,3,none⟩) hg u).setCell (p:=⟨g,4,none⟩) hg v
theorem a3u : headC headZ = #[.int .i64 0,.int .i64 0,.int .i64 0,.bool false,.int .u32 0]:=rfl
set_option maxRecDepth 100000 in
set_option maxHeartbeats 2000000 in
theorem c9F (kind n len sum log : Nat) (last first : Bool) (w : World) (hlog : 10 <= log /\ log <= 17) :
    Calls Tryz.prog 138 #[.agg #[.int .i64 kind,.int .i64 n,.int .i64 len,.bool last,.int .u32 sum],.int .i64 log,.bool first] w (λ e w'=>e = .returned (.bool (a1w log first kind n last)) /\ Below w.heap.size w w'):=by
 obtain ⟨s,hs⟩ : ∃ s : Nat,s = 2 ^ log:=⟨_,rfl⟩
 have hsI : (2 : Int) ^ log = (s : Int):=by rw [hs]; simp
 have hs2 : s <= 131072:=by rw [hs]; exact Nat.le_trans (Nat.pow_le_pow_right (by decide : 2 > 0) hlog.2) (by decide)
 have hE : a1w log first kind n last = (if last = false then decide (n = s) else if n = 0 then first && decide (kind = 0) else decide (n <= s)):=by unfold a1w; rw [Int.toNat_natCast,hs]
 rw [hE]
 have HB : Hid (Below w.heap.size w (w.alloc (.cells #[.int .i64 kind,.int .i64 n,.int .i64 len,.bool last,.int .u32 sum] 114))):=Lib.hid ((Below.refl _ _).alloc (Nat.le_refl _) _)
 clear hs hE
 cases last with
 | false=>
  rw [if_pos rfl]
  go_enter Tryz.func138,Tryz.ntmps138
  go_wp2_with fail
  go_quiet (fail)
  all_goals
   go_wp2_with fail
   go_ret
   refine ⟨a0Z ?_,a0b HB.out _⟩
   rw [Bool.eq_iff_iff]; first | (simp; done) | (simp; omega)
 | true=>
  rw [if_neg (by decide)]
  by_cases h0 : n = 0
  · subst h0
    rw [if_pos rfl]
    cases first with
    | true=>
     go_enter Tryz.func138,Tryz.ntmps138
     go_wp2_with fail
     go_ret
     refine ⟨a0Z ?_,HB.out⟩
     rw [Bool.eq_iff_iff]; first | (simp; done) | (simp; omega)
    | false=>
     go_enter Tryz.func138,Tryz.ntmps138
     go_wp2_with fail
     go_ret
     exact ⟨a0Z (by simp),HB.out⟩
  · rw [if_neg h0]
    have hn0 : ((n : Int) == 0) = false:=by simp; omega
    clear h0
    go_enter Tryz.func138,Tryz.ntmps138
    go_wp2_with fail
    go_quiet (fail)
    all_goals
     go_wp2_with fail
     go_ret
     refine ⟨a0Z ?_,a0b HB.out _⟩
     first | rfl | (rw [Bool.eq_iff_iff]; simp; done)
def b1g (r : Int × HeadT) (w : World) (e : Ending) (w' : World) : Prop:=e = .returned (.tuple #[.agg (headC r.2),.int .i64 r.1]) /\ Below w.heap.size w w'
structure ScanAt (W0 : World) (p h r8 : Nat) (fs : List Int) (sh : Bool) (a b c : Nat) (d : Bool) (W : World) : Prop where
 rd : RdB W0 p fs sh W
 kh : W.heap[h]? = some (.cells #[.int .i64 a,.int .i64 b,.int .i64 c,.bool d,.int .u32 0] 114 (0,0))
 kr : W.heap[r8]? = some (.cells #[.int .i64 0,.int .i64 0,.int .i64 0,.bool false,.int .u32 0] 114 (0,0))
 on : Below r8 W0 W
theorem ScanAt.num {W0 : World} {p h r8 k : Nat} {fs : List Int} {sh : Bool} {a b c : Nat} {d : Bool} {W W' : World} {e : Ending} (hs : ScanAt W0 p h r8 fs sh a b c d W) (hlt : r8 < p /\ p < h) (hn : b7A W0 p k fs sh W e W') : e = .returned (.int .i64 (rdN fs (min k fs.length) : Nat)) /\ ScanAt W0 p h r8 (fs.drop k) (sh || decide (fs.length < k)) a b c d W':=by
 obtain ⟨rfl,h2,h3⟩:=hn
 refine ⟨rfl,h2,(h3.block h (a0f hs.kh) (by omega)).trans hs.kh,(h3.block r8 (a0f hs.kr) (by omega)).trans hs.kr,hs.on.trans (h3.below (Nat.le_of_lt (a0f hs.kr)) (λ k hk=>?_))⟩
 have : k = p:=hk
 omega
theorem ScanAt.below {W0 : World} {p h r8 : Nat} {fs : List Int} {sh : Bool} {a b c : Nat} {d : Bool} {W W' : World} (hs : ScanAt W0 p h r8 fs sh a b c d W) (hb : Below W.heap.size W W') : ScanAt W0 p h r8 fs sh a b c d W':=
 ⟨hs.rd.later (Only.of_below hb),a0g hs.kh hb,a0g hs.kr hb,hs.on.trans (hb.mono (Nat.le_of_lt (a0f hs.kr)))⟩
theorem RdB.set {W0 : World} {p h : Nat} {fs : List Int} {sh : Bool} {W : World} (hr : RdB W0 p fs sh W) (hlt : p < h) (k : Nat) (v : Value) : RdB W0 p fs sh (W.setCell ⟨h,k,none⟩ v):=
 hr.later ((Only.refl _ _).setCell (p:=⟨h,k,none⟩) ⟨by show h ≠ p; omega,by show _ <= h; have:=hr.lo; omega⟩ v)
theorem ScanAt.set0 {W0 : World} {p h r8 : Nat} {fs : List Int} {sh : Bool} {a b c : Nat} {d : Bool} {W : World} (hs : ScanAt W0 p h r8 fs sh a b c d W) (hlt : r8 < p /\ p < h) (a' : Nat) : ScanAt W0 p h r8 fs sh a' b c d (W.setCell ⟨h,0,none⟩ (.int .i64 a')):=
 ⟨hs.rd.set hlt.2 0 _,a0i hs.kh 0 _,a1p hs.kr (p:=⟨h,0,none⟩) (by show r8 ≠ h; omega) _,hs.on.setCell (by show r8 <= h; omega) _⟩
theorem ScanAt.set1 {W0 : World} {p h r8 : Nat} {fs : List Int} {sh : Bool} {a b c : Nat} {d : Bool} {W : World} (hs : ScanAt W0 p h r8 fs sh a b c d W) (hlt : r8 < p /\ p < h) (b' : Nat) : ScanAt W0 p h r8 fs sh a b' c d (W.setCell ⟨h,1,none⟩ (.int .i64 b')):=
 ⟨hs.rd.set hlt.2 1 _,a0i hs.kh 1 _,a1p hs.kr (p:=⟨h,1,none⟩) (by show r8 ≠ h; omega) _,hs.on.setCell (by show r8 <= h; omega) _⟩
theorem ScanAt.set2 {W0 : World} {p h r8 : Nat} {fs : List Int} {sh : Bool} {a b c : Nat} {d : Bool} {W : World} (hs : ScanAt W0 p h r8 fs sh a b c d W) (hlt : r8 < p /\ p < h) (c' : Nat) : ScanAt W0 p h r8 fs sh a b c' d (W.setCell ⟨h,2,none⟩ (.int .i64 c')):=
 ⟨hs.rd.set hlt.2 2 _,a0i hs.kh 2 _,a1p hs.kr (p:=⟨h,2,none⟩) (by show r8 ≠ h; omega) _,hs.on.setCell (by show r8 <= h; omega) _⟩
theorem ScanAt.set3 {W0 : World} {p h r8 : Nat} {fs : List Int} {sh : Bool} {a b c : Nat} {d : Bool} {W : World} (hs : ScanAt W0 p h r8 fs sh a b c d W) (hlt : r8 < p /\ p < h) (d' : Bool) : ScanAt W0 p h r8 fs sh a b c d' (W.setCell ⟨h,3,none⟩ (.bool d')):=
 ⟨hs.rd.set hlt.2 3 _,a0i hs.kh 3 _,a1p hs.kr (p:=⟨h,3,none⟩) (by show r8 ≠ h; omega) _,hs.on.setCell (by show r8 <= h; omega) _⟩
theorem ScanAt.cells {W0 : World} {p h r8 : Nat} {fs : List Int} {sh : Bool} {a b c : Nat} {d : Bool} {W : World} (hs : ScanAt W0 p h r8 fs sh a b c d W) : W.cell? ⟨p,1,none⟩ = some (.bool sh) /\ (W.cell? ⟨h,0,none⟩ = some (.int .i64 a) /\ W.cell? ⟨h,1,none⟩ = some (.int .i64 b) /\ W.cell? ⟨h,2,none⟩ = some (.int .i64 c) /\ W.cell? ⟨h,3,none⟩ = some (.bool d) /\ W.cell? ⟨h,4,none⟩ = some (.int .u32 0)) /\ (W.frozen? ⟨h,0,none⟩ = false /\ W.frozen? ⟨h,1,none⟩ = false /\ W.frozen? ⟨h,2,none⟩ = false /\ W.frozen? ⟨h,3,none⟩ = false /\ W.frozen? ⟨h,4,none⟩ = false) /\ (W.cell? ⟨r8,0,none⟩ = some (.int .i64 0) /\ W.cell? ⟨r8,1,none⟩ = some (.int .i64 0) /\ W.cell? ⟨r8,2,none⟩ = some (.int .i64 0) /\ W.cell? ⟨r8,3,none⟩ = some (.bool false) /\ W.cell? ⟨r8,4,none⟩ = some (.int .u32 0)) /\ (W.frozen? ⟨r8,0,none⟩ = false /\ W.frozen? ⟨r8,1,none⟩ = false /\ W.frozen? ⟨r8,2,none⟩ = false /\ W.frozen? ⟨r8,3,none⟩ = false /\ W.frozen? ⟨r8,4,none⟩ = false):=by
 obtain ⟨A,n,h1,_,_⟩:=hs.rd.ex
 exact ⟨(cell2 h1).1.2,(cell5 hs.kh).1,(cell5 hs.kh).2,(cell5 hs.kr).1,(cell5 hs.kr).2⟩
theorem a4x {W0 w : World} {p h r8 : Nat} {fs : List Int} {sh : Bool} {a b c : Nat} {d : Bool} {W : World} (hs : ScanAt W0 p h r8 fs sh a b c d W) (hb : Below r8 w W0) : Below r8 w (((((W.setCell ⟨r8,0,none⟩ (.int .i64 0)).setCell ⟨r8,1,none⟩ (.int .i64 0)).setCell ⟨r8,2,none⟩ (.int .i64 0)).setCell ⟨r8,3,none⟩ (.bool false)).setCell ⟨r8,4,none⟩ (.int .u32 0)):=
 b1f (hb.trans hs.on) (Nat.le_refl _) _ _ _ _ _
theorem b1h {f : List Int} {i k : Nat} (h : i + k <= 11) : rdN ((f.take 11).drop i) k = rdN (f.drop i) k:=by
 rw [List.drop_take]; exact b0E k (by omega)
theorem b7O (a b : Nat) (ha : a < 4294967296) (hb : b < 4294967296) : bits .and .i64 (a : Int) (b : Int) = ((a &&& b : Nat) : Int):=by
 have hx : a &&& b < 2 ^ 32:=Nat.and_lt_two_pow _ (by omega)
 show IntKind.i64.wrap ((BitVec.ofInt 64 (a : Int) &&& BitVec.ofInt 64 (b : Int)).toNat : Int) = _
 rw [BitVec.toNat_and,a7W a (by omega),a7W b (by omega),IntKind.wrap_i64]
 omega
theorem and_3 (a : Nat) (ha : a < 4294967296) : bits .and .i64 (a : Int) 3 = ((a % 4 : Nat) : Int):=by
 have:=b7O a 3 ha (by decide)
 rw [nat_mask2] at this; exact this
theorem and_4 (a : Nat) (ha : a < 4294967296) : bits .and .i64 (a : Int) 4 = ((a / 4 % 2 * 4 : Nat) : Int):=by
 have:=b7O a 4 ha (by decide)
 rw [show a &&& 4 = a / 4 % 2 * 4 from nat_bit 2 a] at this; exact this
set_option maxRecDepth 100000 in
set_option maxHeartbeats 4000000 in
theorem b7P (A : Option Addr) (c : Nat) (f : List Int) (log : Int) (first : Bool) (room : Int) (w : World) (hr : (Kd.int .u8).C w A f.length f) (hf : Bytes f) (hl : f.length <= 1000000) (hc : f.length <= c) :
    Calls Tryz.prog 91 #[.slice A f.length c,.int .i64 log,.bool first,.int .i64 room] w (b1g (scanM f log first room) w):=by
 obtain ⟨W0,hW0⟩ : ∃ W,W = w.alloc (.cells #[.int .i64 0,.int .i64 0,.int .i64 0,.bool false,.int .u32 0] 114):=⟨_,rfl⟩
 have hk0 : W0.heap[w.heap.size]? = some (.cells #[.int .i64 0,.int .i64 0,.int .i64 0,.bool false,.int .u32 0] 114 (0,0)):=by rw [hW0]; exact a0l _ _
 have hb0 : Below w.heap.size w W0:=by rw [hW0]; exact (Below.refl _ _).alloc (Nat.le_refl _) _
 have hs0 : W0.heap.size = w.heap.size + 1:=by rw [hW0]; simp
 have HK0:=Lib.hid (And.intro hk0 hb0)
 by_cases hg : log < 10 \/ 17 < log \/ room < 0
 · have hE : scanM f log first room = (1,headZ):=by unfold scanM; rw [if_pos hg]
   rw [hE]
   have hd : decide (log < 10) = true \/ (decide (log < 10) = false /\ decide (17 < log) = true) \/ (decide (log < 10) = false /\ decide (17 < log) = false /\ decide (room < 0) = true):=by
    by_cases h1 : log < 10
    · exact .inl (decide_eq_true h1)
    · by_cases h2 : 17 < log
      · exact .inr (.inl ⟨decide_eq_false h1,decide_eq_true h2⟩)
      · exact .inr (.inr ⟨decide_eq_false h1,decide_eq_false h2,decide_eq_true (by omega)⟩)
   clear hr hf hl hc hk0 hb0 hs0 hg hE
   rcases hd with d1 | ⟨d1,d2⟩ | ⟨d1,d2,d3⟩
   all_goals
    go_enter Tryz.func91,Tryz.ntmps91
    go_wp2_with fail
    rw [<- hW0]
    refine bodyPost_ret (a2c (fn:=Tryz.f91) (p:=8) (u:=9) (ty:=114) rfl _ _ _ _ rfl (a3c HK0.out.1)) rfl ?_
    exact ⟨by rw [a3u]; rfl,HK0.out.2⟩
 · have hlr : 10 <= log /\ log <= 17 /\ 0 <= room:=by omega
   have g1 : decide (log < 10) = false:=decide_eq_false (by omega)
   have g2 : decide (17 < log) = false:=decide_eq_false (by omega)
   have g3 : decide (room < 0) = false:=decide_eq_false (by omega)
   obtain ⟨lg,rfl⟩ : ∃ lg : Nat,log = lg:=⟨log.toNat,by omega⟩
   obtain ⟨m,hm⟩ : ∃ m,m = min f.length 11:=⟨_,rfl⟩
   have hmin : Builtin.min2 (.int .i64 (f.length : Int)) (.int .i64 11) = pure (.int .i64 (m : Int)):=by
    rw [a1L]
    by_cases h11 : f.length <= 11
    · rw [if_neg (by omega),hm,Nat.min_eq_left h11]
    · rw [if_pos (by omega),hm,Nat.min_eq_right (by omega)]; rfl
   have hsl : ∀ W : World,(Instr.slice 22 (.slice A f.length c) none (some (.int .i64 (m : Int))) none).run Tryz.prog W = .ok (.slice A m c) W:=λ W=>by
    obtain ⟨i0,hi0,hz0,hz1,hz2⟩:=info_parts a0E
    have:=a8s (P:=Tryz.prog) 22 5 .i64 Tryz.underlying22 hi0 A f.length c (m : Int) (by omega) (by omega) hc W
    simp only [Int.toNat_natCast] at this
    exact this
   obtain ⟨W2,hW2⟩ : ∃ W,W = (W0.alloc (.cells #[.slice A m c,.bool false] 179)).alloc (.cells #[.int .i64 0,.int .i64 0,.int .i64 0,.bool false,.int .u32 0] 114):=⟨_,rfl⟩
   obtain ⟨p,hp⟩ : ∃ p,p = W0.heap.size:=⟨_,rfl⟩
   obtain ⟨r8,hr8⟩ : ∃ r,r = w.heap.size:=⟨_,rfl⟩
   obtain ⟨h,hh⟩ : ∃ h,h = p + 1:=⟨_,rfl⟩
   obtain ⟨fs,hfs⟩ : ∃ fs,fs = f.take 11:=⟨_,rfl⟩
   have hfl : fs.length = m:=by rw [hfs,List.length_take,hm,Nat.min_comm]
   have hC : (Kd.int .u8).C W0 A m fs:=by
    have:=Kd.C_take (m:=m) (Kd.C_below hr hb0) (by omega)
    have e : f.take m = fs:=by
     rw [hfs,hm]
     by_cases h11 : f.length <= 11
     · rw [Nat.min_eq_left h11,List.take_length,List.take_of_length_le h11]
     · rw [Nat.min_eq_right (by omega)]
    rw [e,hfl] at this; exact this
   have HS : Hid (ScanAt W0 p h r8 fs false 0 0 0 false W2):=by
    show ScanAt W0 p h r8 fs false 0 0 0 false W2
    have hb2 : Below W0.heap.size W0 W2:=by rw [hW2]; exact ((Below.refl _ _).alloc (Nat.le_refl _) _).alloc (by simp) _
    refine ⟨⟨⟨A,c,?_,by rw [hfl]; exact hC,by rw [hfl]; omega⟩,by rw [hp]; exact Nat.le_refl _,hb2⟩,?_,?_,?_⟩
    · rw [hW2,hp,hfl]; exact a0h (a0l _ _) _
    · rw [hW2,hh,hp]
      have:=a0l (W0.alloc (.cells #[.slice A m c,.bool false] 179)) (.cells #[.int .i64 0,.int .i64 0,.int .i64 0,.bool false,.int .u32 0] 114 (0,0))
      simp only [World.alloc] at this ⊢
      simpa using this
    · rw [hW2,hr8]; exact a0h (a0h hk0 _) _
    · exact hb2.mono (by omega)
   have HO:=Lib.hid (show r8 < p /\ p < h from ⟨by omega,by omega⟩)
   have HB0:=Lib.hid (show Below r8 w W0 from by rw [hr8]; exact hb0)
   have HBf:=Lib.hid (show Bytes fs from by rw [hfs]; exact λ x hx=>hf x (List.mem_of_mem_take hx))
   have HFl:=Lib.hid (show fs.length <= 1000000 from by omega)
   have HWr:=Lib.hid hr8
   have HLR:=Lib.hid hlr
   have hp' : p = w.heap.size + 1:=by rw [hp,hs0]
   have hh' : h = w.heap.size + 1 + 1:=by rw [hh,hp']
   have HF:=Lib.hid (And.intro hfs (And.intro hfl hm))
   clear hr hf hl hc hk0 hb0 hs0 hg hlr hm hfl hC hfs hp hh
   go_enter Tryz.func91,Tryz.ntmps91
   go_wp2_with fail
   rw [<- hW0,<- hW2,<- hh',<- hp',<- hr8]
   have hne1 : h ≠ p:=by have:=HO.out; omega
   have hne2 : p ≠ h:=by have:=HO.out; omega
   have hne3 : h ≠ r8:=by have:=HO.out; omega
   have hne4 : r8 ≠ h:=by have:=HO.out; omega
   clear hh' hp' hr8 hW0 hW2 hmin hsl
   refine (a4w W0 p 1 fs false W2 HS.out.rd (by decide) HBf.out HFl.out).mono ?_
   intro e w3 hn
   obtain ⟨rfl,hs3⟩:=HS.out.num HO.out hn
   rw [Bool.false_or] at hs3
   have hk1 : rdN fs (min 1 fs.length) < 256:=Nat.lt_of_lt_of_le (a2J HBf.out _) (Nat.le_trans (Nat.pow_le_pow_right (by decide : 256 > 0) (Nat.min_le_left 1 _)) (by decide))
   have HK1:=Lib.hid (show 1 <= fs.length -> rdN fs (min 1 fs.length) = (fs.getD 0 0).toNat from λ h1=>by rw [Nat.min_eq_left h1]; simp [rdN])
   obtain ⟨k1,hk1e⟩ : ∃ k,k = rdN fs (min 1 fs.length):=⟨_,rfl⟩
   rw [<- hk1e] at hk1 HK1 ⊢
   have h3:=and_3 k1 (by omega)
   have h4:=and_4 k1 (by omega)
   obtain ⟨a,ha⟩ : ∃ a,a = k1 % 4:=⟨_,rfl⟩
   obtain ⟨v4,hv4⟩ : ∃ a,a = k1 / 4 % 2 * 4:=⟨_,rfl⟩
   obtain ⟨lb,hlb⟩ : ∃ b,b = ((v4 : Int) != 0):=⟨_,rfl⟩
   have HLB:=Lib.hid (show k1 <= 7 -> lb = decide (4 <= k1) from λ h7=>by
    rw [hlb,hv4,Bool.eq_iff_iff]; simp; omega)
   rw [<- ha] at h3
   rw [<- hv4] at h4
   have hlb2 : ((v4 : Int) != 0) = lb:=hlb.symm
   have HA:=Lib.hid ha
   have HS3:=Lib.hid hs3
   have HX:=Lib.hid ((hs3.set0 HO.out a).set3 HO.out lb)
   obtain ⟨sh1,hsh1⟩ : ∃ b,b = decide (fs.length < 1):=⟨_,rfl⟩
   rw [<- hsh1] at hs3 HX HS3
   obtain ⟨fs1,hfs1⟩ : ∃ l,l = fs.drop 1:=⟨_,rfl⟩
   rw [<- hfs1] at hs3 HX HS3
   have HF1:=Lib.hid (And.intro hfs1 (show fs1.length = fs.length - 1 from by rw [hfs1]; exact List.length_drop))
   have HBf1:=Lib.hid (show Bytes fs1 from by rw [hfs1]; exact λ x hx=>HBf.out x (List.mem_of_mem_drop hx))
   have HFl1:=Lib.hid (show fs1.length <= 1000000 from by have:=HF1.out.2; have:=HFl.out; omega)
   obtain ⟨q1,q2,q3,q4,q5⟩:=HX.out.cells
   obtain ⟨s1,s2,s3,s4,s5⟩:=hs3.cells
   obtain ⟨s20,s21,s22,s23,s24⟩:=s2
   obtain ⟨s30,s31,s32,s33,s34⟩:=s3
   obtain ⟨s40,s41,s42,s43,s44⟩:=s4
   obtain ⟨s50,s51,s52,s53,s54⟩:=s5
   clear hn hs3 hlb hv4 ha hk1e hfs1 q1 q2 q3 q4 q5
   by_cases hL1 : fs.length < 1
   · have HE:=Lib.hid (show scanM f lg first room = (3,headZ) from by
       have:=HF.out
       unfold scanM; rw [if_neg (by have:=HLR.out; omega),if_pos (by omega)])
     rw [decide_eq_true hL1] at hsh1
     subst hsh1
     clear hL1
     go_wp2_with fail
     refine (a4w W0 p 3 fs1 _ _ HX.out.rd (by decide) HBf1.out HFl1.out).mono ?_
     intro e w4 hn
     obtain ⟨rfl,hs4⟩:=HX.out.num HO.out hn
     have hn2 : rdN fs1 (min 3 fs1.length) < 4294967296:=Nat.lt_of_lt_of_le (a2J HBf1.out _) (Nat.le_trans (Nat.pow_le_pow_right (by decide : 256 > 0) (Nat.min_le_left 3 _)) (by decide))
     have Hn2:=Lib.hid (show 3 <= fs1.length -> rdN fs1 (min 3 fs1.length) = rdN fs1 3 from λ h1=>by rw [Nat.min_eq_left h1])
     obtain ⟨n2,n2e⟩ : ∃ k,k = rdN fs1 (min 3 fs1.length):=⟨_,rfl⟩
     rw [<- n2e] at hn2 Hn2 ⊢
     clear n2e hn
     clear s1 s20 s21 s22 s23 s24 s30 s31 s32 s33 s34 s40 s41 s42 s43 s44 s50 s51 s52 s53 s54
     rw [Bool.true_or] at hs4
     obtain ⟨fs2,fs2e⟩ : ∃ l,l = fs1.drop 3:=⟨_,rfl⟩
     rw [<- fs2e] at hs4
     have HF2:=Lib.hid (And.intro fs2e (show fs2.length = fs1.length - 3 from by rw [fs2e]; exact List.length_drop))
     have HBf2:=Lib.hid (show Bytes fs2 from by rw [fs2e]; exact λ x hx=>HBf1.out x (List.mem_of_mem_drop hx))
     have HFl2:=Lib.hid (show fs2.length <= 1000000 from by have:=HF2.out.2; have:=HFl1.out; omega)
     clear fs2e
     have HX4:=Lib.hid (hs4.set1 HO.out n2)
     obtain ⟨s1,s2,s3,s4,s5⟩:=hs4.cells
     obtain ⟨s20,s21,s22,s23,s24⟩:=s2
     obtain ⟨s30,s31,s32,s33,s34⟩:=s3
     obtain ⟨s40,s41,s42,s43,s44⟩:=s4
     obtain ⟨s50,s51,s52,s53,s54⟩:=s5
     clear hs4
     go_wp2_with fail
     refine (a4w W0 p 3 fs2 _ _ HX4.out.rd (by decide) HBf2.out HFl2.out).mono ?_
     intro e w5 hn
     obtain ⟨rfl,hs5⟩:=HX4.out.num HO.out hn
     have hn3 : rdN fs2 (min 3 fs2.length) < 4294967296:=Nat.lt_of_lt_of_le (a2J HBf2.out _) (Nat.le_trans (Nat.pow_le_pow_right (by decide : 256 > 0) (Nat.min_le_left 3 _)) (by decide))
     have Hn3:=Lib.hid (show 3 <= fs2.length -> rdN fs2 (min 3 fs2.length) = rdN fs2 3 from λ h1=>by rw [Nat.min_eq_left h1])
     obtain ⟨n3,n3e⟩ : ∃ k,k = rdN fs2 (min 3 fs2.length):=⟨_,rfl⟩
     rw [<- n3e] at hn3 Hn3 ⊢
     clear n3e hn
     rw [Bool.true_or] at hs5
     have HX5:=Lib.hid (hs5.set2 HO.out n3)
     clear s1 s20 s21 s22 s23 s24 s30 s31 s32 s33 s34 s40 s41 s42 s43 s44 s50 s51 s52 s53 s54
     obtain ⟨s1,s2,s3,s4,s5⟩:=hs5.cells
     obtain ⟨s20,s21,s22,s23,s24⟩:=s2
     obtain ⟨s30,s31,s32,s33,s34⟩:=s3
     obtain ⟨s40,s41,s42,s43,s44⟩:=s4
     obtain ⟨s50,s51,s52,s53,s54⟩:=s5
     clear hs5
     go_wp2_with fail
     refine bodyPost_ret (a2c (fn:=Tryz.f91) (p:=8) (u:=9) (ty:=114) rfl _ _ _ _ rfl (a3c (a3t HX5.out.kr _ _ _ _ _))) rfl ?_
     rw [HE.out]
     exact ⟨by rw [a3u]; rfl,by show Below w.heap.size w _; rw [<- HWr.out]; exact a4x HX5.out HB0.out⟩
   · have hfl1 : 1 <= f.length:=by have:=HF.out; omega
     have hg0 : fs.getD 0 0 = f.getD 0 0:=by rw [HF.out.1,List.getD_eq_getElem?_getD,List.getElem?_take,if_pos (by decide),<- List.getD_eq_getElem?_getD]
     have HKf:=Lib.hid (show (f.getD 0 0).toNat = k1 from by rw [<- hg0]; exact (HK1.out (by omega)).symm)
     have HL1:=Lib.hid (And.intro hL1 hfl1)
     rw [decide_eq_false hL1] at hsh1
     subst hsh1
     clear hg0 hL1 hfl1
     by_cases h7 : 7 < k1
     · have HE:=Lib.hid (show scanM f lg first room = (10,headZ) from by
         unfold scanM; rw [if_neg (by have:=HLR.out; omega),if_neg (by have:=HL1.out.2; omega),if_pos (by rw [HKf.out]; exact h7)])
       have h7I : (7 : Int) < (k1 : Int):=by omega
       clear h7
       go_wp2_with fail
       refine bodyPost_ret (a2c (fn:=Tryz.f91) (p:=8) (u:=9) (ty:=114) rfl _ _ _ _ rfl (a3c (a3t HX.out.kr _ _ _ _ _))) rfl ?_
       rw [HE.out]
       exact ⟨by rw [a3u]; rfl,by show Below w.heap.size w _; rw [<- HWr.out]; exact a4x HX.out HB0.out⟩
     · have hlb4:=HLB.out (by omega)
       have HLB2:=Lib.hid hlb4
       have H7:=Lib.hid h7
       have h7I : ¬ (7 : Int) < (k1 : Int):=by omega
       clear h7 hlb4
       go_wp2_with fail
       refine (a4w W0 p 3 fs1 _ _ HX.out.rd (by decide) HBf1.out HFl1.out).mono ?_
       intro e w4 hn
       obtain ⟨rfl,hs4⟩:=HX.out.num HO.out hn
       have hn2 : rdN fs1 (min 3 fs1.length) < 4294967296:=Nat.lt_of_lt_of_le (a2J HBf1.out _) (Nat.le_trans (Nat.pow_le_pow_right (by decide : 256 > 0) (Nat.min_le_left 3 _)) (by decide))
       have Hn2:=Lib.hid (show 3 <= fs1.length -> rdN fs1 (min 3 fs1.length) = rdN fs1 3 from λ h1=>by rw [Nat.min_eq_left h1])
       obtain ⟨n2,n2e⟩ : ∃ k,k = rdN fs1 (min 3 fs1.length):=⟨_,rfl⟩
       rw [<- n2e] at hn2 Hn2 ⊢
       clear n2e hn
       rw [Bool.false_or] at hs4
       obtain ⟨sh2,hsh2⟩ : ∃ b,b = decide (fs1.length < 3):=⟨_,rfl⟩
       rw [<- hsh2] at hs4
       obtain ⟨fs2,fs2e⟩ : ∃ l,l = fs1.drop 3:=⟨_,rfl⟩
       rw [<- fs2e] at hs4
       have HF2:=Lib.hid (And.intro fs2e (show fs2.length = fs1.length - 3 from by rw [fs2e]; exact List.length_drop))
       have HBf2:=Lib.hid (show Bytes fs2 from by rw [fs2e]; exact λ x hx=>HBf1.out x (List.mem_of_mem_drop hx))
       have HFl2:=Lib.hid (show fs2.length <= 1000000 from by have:=HF2.out.2; have:=HFl1.out; omega)
       clear fs2e
       have HX4:=Lib.hid (hs4.set1 HO.out n2)
       clear s1 s20 s21 s22 s23 s24 s30 s31 s32 s33 s34 s40 s41 s42 s43 s44 s50 s51 s52 s53 s54
       obtain ⟨s1,s2,s3,s4,s5⟩:=hs4.cells
       obtain ⟨s20,s21,s22,s23,s24⟩:=s2
       obtain ⟨s30,s31,s32,s33,s34⟩:=s3
       obtain ⟨s40,s41,s42,s43,s44⟩:=s4
       obtain ⟨s50,s51,s52,s53,s54⟩:=s5
       clear hs4
       by_cases hL4 : fs1.length < 3
       · have HE:=Lib.hid (show scanM f lg first room = (3,headZ) from by
           have h1:=HF.out
           have h2:=HF1.out.2
           have h3:=HL1.out
           unfold scanM
           rw [if_neg (by have:=HLR.out; omega),if_neg (by omega),if_neg (by rw [HKf.out]; exact H7.out),if_pos (by omega)])
         rw [decide_eq_true hL4] at hsh2
         subst hsh2
         clear hL4
         go_wp2_with fail
         refine (a4w W0 p 3 fs2 _ _ HX4.out.rd (by decide) HBf2.out HFl2.out).mono ?_
         intro e w5 hn
         obtain ⟨rfl,hs5⟩:=HX4.out.num HO.out hn
         have hn3 : rdN fs2 (min 3 fs2.length) < 4294967296:=Nat.lt_of_lt_of_le (a2J HBf2.out _) (Nat.le_trans (Nat.pow_le_pow_right (by decide : 256 > 0) (Nat.min_le_left 3 _)) (by decide))
         have Hn3:=Lib.hid (show 3 <= fs2.length -> rdN fs2 (min 3 fs2.length) = rdN fs2 3 from λ h1=>by rw [Nat.min_eq_left h1])
         obtain ⟨n3,n3e⟩ : ∃ k,k = rdN fs2 (min 3 fs2.length):=⟨_,rfl⟩
         rw [<- n3e] at hn3 Hn3 ⊢
         clear n3e hn
         rw [Bool.true_or] at hs5
         have HX5:=Lib.hid (hs5.set2 HO.out n3)
         clear s1 s20 s21 s22 s23 s24 s30 s31 s32 s33 s34 s40 s41 s42 s43 s44 s50 s51 s52 s53 s54
         obtain ⟨s1,s2,s3,s4,s5⟩:=hs5.cells
         obtain ⟨s20,s21,s22,s23,s24⟩:=s2
         obtain ⟨s30,s31,s32,s33,s34⟩:=s3
         obtain ⟨s40,s41,s42,s43,s44⟩:=s4
         obtain ⟨s50,s51,s52,s53,s54⟩:=s5
         clear hs5
         go_wp2_with fail
         refine bodyPost_ret (a2c (fn:=Tryz.f91) (p:=8) (u:=9) (ty:=114) rfl _ _ _ _ rfl (a3c (a3t HX5.out.kr _ _ _ _ _))) rfl ?_
         rw [HE.out]
         exact ⟨by rw [a3u]; rfl,by show Below w.heap.size w _; rw [<- HWr.out]; exact a4x HX5.out HB0.out⟩
       · have HL4:=Lib.hid (show 4 <= f.length /\ 3 <= fs1.length from by
           have h1:=HF.out
           have h2:=HF1.out.2
           have h3:=HL1.out
           omega)
         have HN:=Lib.hid (show rdN (f.drop 1) 3 = n2 from by
          rw [Hn2.out HL4.out.2,HF1.out.1,HF.out.1]; exact (b1h (by decide)).symm)
         rw [decide_eq_false hL4] at hsh2
         subst hsh2
         clear hL4
         have HLen:=Lib.hid (λ (W : World)=>c9F a n2 0 0 lg lb first W (by have:=HLR.out; omega))
         obtain ⟨z,hz⟩ : ∃ z,z = a1w lg first a n2 lb:=⟨_,rfl⟩
         rw [<- hz] at HLen
         have HZ:=Lib.hid hz
         clear hz
         go_wp2_with fail
         refine (HLen.out _).mono ?_
         rintro e w5 ⟨rfl,hb5⟩
         have hs5:=HX4.out.below hb5
         have HX5:=Lib.hid hs5
         clear s1 s20 s21 s22 s23 s24 s30 s31 s32 s33 s34 s40 s41 s42 s43 s44 s50 s51 s52 s53 s54
         obtain ⟨s1,s2,s3,s4,s5⟩:=hs5.cells
         obtain ⟨s20,s21,s22,s23,s24⟩:=s2
         obtain ⟨s30,s31,s32,s33,s34⟩:=s3
         obtain ⟨s40,s41,s42,s43,s44⟩:=s4
         obtain ⟨s50,s51,s52,s53,s54⟩:=s5
         clear hb5 hs5
         have hpre : (if ((lg : Int) < 10 \/ 17 < (lg : Int) \/ room < 0) then ((1,headZ) : Int × HeadT) else (0,headZ)) = (0,headZ):=if_neg (by have:=HLR.out; omega)
         clear hpre
         cases z with
         | false=>
          have HE:=Lib.hid (show scanM f lg first room = (11,headZ) from by
           have h1:=HL4.out.1
           unfold scanM
           rw [if_neg (by have:=HLR.out; omega),if_neg (by omega),if_neg (by rw [HKf.out]; exact H7.out),if_neg (by omega),HKf.out,HN.out,<- HA.out,<- HLB2.out,if_pos HZ.out.symm])
          go_wp2_with fail
          refine bodyPost_ret (a2c (fn:=Tryz.f91) (p:=8) (u:=9) (ty:=114) rfl _ _ _ _ rfl (a3c (a3t HX5.out.kr _ _ _ _ _))) rfl ?_
          rw [HE.out]
          exact ⟨by rw [a3u]; rfl,by show Below w.heap.size w _; rw [<- HWr.out]; exact a4x HX5.out HB0.out⟩
         | true=>
          go_wp2_with fail
          refine (a4w W0 p 3 fs2 _ _ HX5.out.rd (by decide) HBf2.out HFl2.out).mono ?_
          intro e w6 hn
          obtain ⟨rfl,hs6⟩:=HX5.out.num HO.out hn
          have hn3 : rdN fs2 (min 3 fs2.length) < 4294967296:=Nat.lt_of_lt_of_le (a2J HBf2.out _) (Nat.le_trans (Nat.pow_le_pow_right (by decide : 256 > 0) (Nat.min_le_left 3 _)) (by decide))
          have Hn3:=Lib.hid (show 3 <= fs2.length -> rdN fs2 (min 3 fs2.length) = rdN fs2 3 from λ h1=>by rw [Nat.min_eq_left h1])
          obtain ⟨n3,n3e⟩ : ∃ k,k = rdN fs2 (min 3 fs2.length):=⟨_,rfl⟩
          rw [<- n3e] at hn3 Hn3 ⊢
          clear n3e hn
          rw [Bool.false_or] at hs6
          obtain ⟨sh3,hsh3⟩ : ∃ b,b = decide (fs2.length < 3):=⟨_,rfl⟩
          rw [<- hsh3] at hs6
          obtain ⟨fs3,fs3e⟩ : ∃ l,l = fs2.drop 3:=⟨_,rfl⟩
          rw [<- fs3e] at hs6
          have HF3:=Lib.hid (And.intro fs3e (show fs3.length = fs2.length - 3 from by rw [fs3e]; exact List.length_drop))
          have HBf3:=Lib.hid (show Bytes fs3 from by rw [fs3e]; exact λ x hx=>HBf2.out x (List.mem_of_mem_drop hx))
          have HFl3:=Lib.hid (show fs3.length <= 1000000 from by have:=HF3.out.2; have:=HFl2.out; omega)
          clear fs3e
          have HX6:=Lib.hid (hs6.set2 HO.out n3)
          clear s1 s20 s21 s22 s23 s24 s30 s31 s32 s33 s34 s40 s41 s42 s43 s44 s50 s51 s52 s53 s54
          obtain ⟨s1,s2,s3,s4,s5⟩:=hs6.cells
          obtain ⟨s20,s21,s22,s23,s24⟩:=s2
          obtain ⟨s30,s31,s32,s33,s34⟩:=s3
          obtain ⟨s40,s41,s42,s43,s44⟩:=s4
          obtain ⟨s50,s51,s52,s53,s54⟩:=s5
          clear hs6
          have HPre:=Lib.hid (show scanM f lg first room = (if f.length < 7 then (3,headZ) else
              if a0C (a : Nat) n2 (rdN (f.drop 4) 3) ≠ 0 then (a0C (a : Nat) n2 (rdN (f.drop 4) 3),headZ) else
              if room < n2 then (7,headZ) else
              if f.length < 11 then (3,headZ) else
              (0,a,n2,rdN (f.drop 4) 3,lb,rdN (f.drop 7) 4)) from by
           have h1:=HL4.out.1
           unfold scanM
           rw [if_neg (by have:=HLR.out; omega),if_neg (by omega),if_neg (by rw [HKf.out]; exact H7.out),if_neg (by omega),HKf.out,HN.out,<- HA.out,<- HLB2.out,if_neg (by rw [<- HZ.out]; decide)])
          have HFL:=Lib.hid (show fs2.length = min f.length 11 - 4 from by
           have h1:=HF.out.2
           have h2:=HF1.out.2
           have h3:=HF2.out.2
           omega)
          by_cases hL7 : fs2.length < 3
          · have HE:=Lib.hid (show scanM f lg first room = (3,headZ) from by
              have:=HFL.out
              have:=HL4.out.1
              rw [HPre.out,if_pos (by omega)])
            rw [decide_eq_true hL7] at hsh3
            subst hsh3
            clear hL7
            go_wp2_with fail
            refine bodyPost_ret (a2c (fn:=Tryz.f91) (p:=8) (u:=9) (ty:=114) rfl _ _ _ _ rfl (a3c (a3t HX6.out.kr _ _ _ _ _))) rfl ?_
            rw [HE.out]
            exact ⟨by rw [a3u]; rfl,by show Below w.heap.size w _; rw [<- HWr.out]; exact a4x HX6.out HB0.out⟩
          · have HL7:=Lib.hid (show 7 <= f.length /\ 3 <= fs2.length from by have:=HFL.out; omega)
            have HM:=Lib.hid (show rdN (f.drop 4) 3 = n3 from by
             rw [Hn3.out HL7.out.2,HF2.out.1,HF1.out.1,List.drop_drop,HF.out.1]; exact (b1h (by decide)).symm)
            rw [HM.out,if_neg (by have:=HL7.out.1; omega)] at HPre
            rw [decide_eq_false hL7] at hsh3
            subst hsh3
            clear hL7
            have HChk:=Lib.hid (λ (W : World)=>a5r a n2 n3 W)
            obtain ⟨ck,hck⟩ : ∃ z,z = a0C a n2 n3:=⟨_,rfl⟩
            unfold a1x at HChk
            rw [<- hck] at HChk HPre
            clear hck
            go_wp2_with fail
            refine (HChk.out _).mono ?_
            rintro e w7 ⟨rfl,hb7⟩
            have hs7:=HX6.out.below hb7
            have HX7:=Lib.hid hs7
            clear s1 s20 s21 s22 s23 s24 s30 s31 s32 s33 s34 s40 s41 s42 s43 s44 s50 s51 s52 s53 s54
            obtain ⟨s1,s2,s3,s4,s5⟩:=hs7.cells
            obtain ⟨s20,s21,s22,s23,s24⟩:=s2
            obtain ⟨s30,s31,s32,s33,s34⟩:=s3
            obtain ⟨s40,s41,s42,s43,s44⟩:=s4
            obtain ⟨s50,s51,s52,s53,s54⟩:=s5
            clear hb7 hs7
            by_cases hc0 : ck = 0
            · subst hc0
              rw [if_neg (λ h=>h rfl)] at HPre
              by_cases hrm : room < n2
              · have HE:=Lib.hid (show scanM f lg first room = (7,headZ) from by rw [HPre.out,if_pos hrm])
                clear HPre
                go_wp2_with fail
                refine bodyPost_ret (a2c (fn:=Tryz.f91) (p:=8) (u:=9) (ty:=114) rfl _ _ _ _ rfl (a3c (a3t HX7.out.kr _ _ _ _ _))) rfl ?_
                rw [HE.out]
                exact ⟨by rw [a3u]; rfl,by show Below w.heap.size w _; rw [<- HWr.out]; exact a4x HX7.out HB0.out⟩
              · rw [if_neg hrm] at HPre
                go_wp2_with fail
                refine (a4w W0 p 4 fs3 _ _ HX7.out.rd (by decide) HBf3.out HFl3.out).mono ?_
                intro e w8 hn
                obtain ⟨rfl,hs8⟩:=HX7.out.num HO.out hn
                have hn4 : rdN fs3 (min 4 fs3.length) < 4294967296:=Nat.lt_of_lt_of_le (a2J HBf3.out _) (Nat.le_trans (Nat.pow_le_pow_right (by decide : 256 > 0) (Nat.min_le_left 4 _)) (by decide))
                have Hn4:=Lib.hid (show 4 <= fs3.length -> rdN fs3 (min 4 fs3.length) = rdN fs3 4 from λ h1=>by rw [Nat.min_eq_left h1])
                obtain ⟨n4,n4e⟩ : ∃ k,k = rdN fs3 (min 4 fs3.length):=⟨_,rfl⟩
                rw [<- n4e] at hn4 Hn4 ⊢
                clear n4e hn
                rw [Bool.false_or] at hs8
                obtain ⟨sh4,hsh4⟩ : ∃ b,b = decide (fs3.length < 4):=⟨_,rfl⟩
                rw [<- hsh4] at hs8
                have HX8:=Lib.hid hs8
                clear s1 s20 s21 s22 s23 s24 s30 s31 s32 s33 s34 s40 s41 s42 s43 s44 s50 s51 s52 s53 s54
                obtain ⟨s1,s2,s3,s4,s5⟩:=hs8.cells
                obtain ⟨s20,s21,s22,s23,s24⟩:=s2
                obtain ⟨s30,s31,s32,s33,s34⟩:=s3
                obtain ⟨s40,s41,s42,s43,s44⟩:=s4
                obtain ⟨s50,s51,s52,s53,s54⟩:=s5
                clear hs8
                have hw4 : IntKind.u32.wrap (n4 : Int) = (n4 : Int):=by rw [IntKind.wrap_u32']; omega
                have HFL3:=Lib.hid (show fs3.length = min f.length 11 - 7 from by
                 have:=HFL.out
                 have:=HF3.out.2
                 omega)
                by_cases hL11 : fs3.length < 4
                · have HE:=Lib.hid (show scanM f lg first room = (3,headZ) from by
                    have:=HFL3.out
                    rw [HPre.out,if_pos (by omega)])
                  rw [decide_eq_true hL11] at hsh4
                  subst hsh4
                  clear hL11 HPre
                  go_wp2_with fail
                  refine bodyPost_ret (a2c (fn:=Tryz.f91) (p:=8) (u:=9) (ty:=114) rfl _ _ _ _ rfl (a3c (a3t (a1p HX8.out.kr (p:=⟨h,4,none⟩) (by show r8 ≠ h; have:=HO.out; omega) _) _ _ _ _ _))) rfl ?_
                  rw [HE.out]
                  exact ⟨by rw [a3u]; rfl,by show Below w.heap.size w _; rw [<- HWr.out]; exact b1f ((HB0.out.trans HX8.out.on).setCell (p:=⟨h,4,none⟩) (by show r8 <= h; have:=HO.out; omega) _) (Nat.le_refl _) _ _ _ _ _⟩
                · have hM4 : rdN (f.drop 7) 4 = n4:=by
                    rw [Hn4.out (by omega),HF3.out.1,HF2.out.1,HF1.out.1,List.drop_drop,List.drop_drop,HF.out.1]; exact (b1h (by decide)).symm
                  have HE:=Lib.hid (show scanM f lg first room = (0,a,n2,n3,lb,n4) from by
                   have:=HFL3.out
                   rw [HPre.out,if_neg (by omega),hM4])
                  rw [decide_eq_false hL11] at hsh4
                  subst hsh4
                  clear hL11 HPre hM4
                  go_wp2_with fail
                  refine bodyPost_ret (a2c (fn:=Tryz.f91) (p:=8) (u:=9) (ty:=114) rfl _ _ _ _ rfl (a3c (a3t (a1p HX8.out.kr (p:=⟨h,4,none⟩) (by show r8 ≠ h; have:=HO.out; omega) _) _ _ _ _ _))) rfl ?_
                  rw [HE.out]
                  exact ⟨rfl,by show Below w.heap.size w _; rw [<- HWr.out]; exact b1f ((HB0.out.trans HX8.out.on).setCell (p:=⟨h,4,none⟩) (by show r8 <= h; have:=HO.out; omega) _) (Nat.le_refl _) _ _ _ _ _⟩
            · have HE:=Lib.hid (show scanM f lg first room = (ck,headZ) from by rw [HPre.out,if_pos hc0])
              have hc2 : (ck != 0) = true:=by simpa using hc0
              clear HPre hc0
              go_wp2_with fail
              refine bodyPost_ret (a2c (fn:=Tryz.f91) (p:=8) (u:=9) (ty:=114) rfl _ _ _ _ rfl (a3c (a3t HX7.out.kr _ _ _ _ _))) rfl ?_
              rw [HE.out]
              exact ⟨by rw [a3u]; rfl,by show Below w.heap.size w _; rw [<- HWr.out]; exact a4x HX7.out HB0.out⟩
end Go.Proofs.YtflfjpkmjnnodaaGreat
namespace Go.Proofs.YtflfjpkmjnnodaaGreat
open Go.RowKit Go.IntWalk Go.Proofs.YtflfjpkmjnnodaaGreatW.PrintWords
def bestN (b : List Int) : Nat -> Int × List Int
 | 0=>(0,b)
 | k + 1=>a0Y ((k + 1 : Nat) : Int) b (bestN b k)
theorem c9G (b : List Int) : bestN b 3 = bestP b:=rfl
theorem b7Q (b : List Int) : ∀ k,(bestN b k).2.length <= b.length
 | 0=>Nat.le_refl _
 | k + 1=>Nat.le_trans (a7L _ b _).1 (b7Q b k)
theorem b7R {k : Int} {b : List Int} {x : Int × List Int} (h0 : (pickE k b).1 = 0) (h1 : (pickE k b).2.length < x.2.length) : a0Y k b x = (k,(pickE k b).2):=by unfold a0Y; rw [if_pos ⟨h0,h1⟩]
theorem a8e {k : Int} {b : List Int} {x : Int × List Int} (h : ¬ ((pickE k b).1 = 0 /\ (pickE k b).2.length < x.2.length)) : a0Y k b x = x:=by unfold a0Y; rw [if_neg h]
def BestPost (b : List Int) (w : World) (e : Ending) (w' : World) : Prop:=
 ∃ A c,e = .returned (.tuple #[.int .i64 (bestP b).1,.slice A (bestP b).2.length c,.int .i64 0]) /\ (Kd.int .u8).R 5 w' w.heap.size (λ _=>True) (.slice A (bestP b).2.length c) (bestP b).2 /\ Below w.heap.size w w'
set_option maxRecDepth 100000 in
set_option maxHeartbeats 1000000 in
theorem a5s (A : Option Addr) (c : Nat) (b : List Int) (w : World) (hr : (Kd.int .u8).C w A b.length b) (hb : Bytes b) (hl : b.length <= 40000) :
    Calls Tryz.prog 79 #[.slice A b.length c] w (BestPost b w):=by
 have HE:=Lib.hid (λ (k : Int) (W : World) (hB : Below w.heap.size w W)=>c9t A c k b W (Kd.C_below hr hB) hb hl)
 have HE0:=Lib.hid (HE.out 0 w (Below.refl _ _))
 have e0 : pickE 0 b = (0,b):=by rw [a5q (by decide) (by decide),b0Y hl]
 rw [e0] at HE0
 have HL:=Lib.hid (And.intro hl e0)
 clear hr hb hl e0
 go_enter Tryz.func79,Tryz.ntmps79
 go_wp2_with fail
 refine HE0.out.mono ?_
 rintro e w1 ⟨A1,c1,rfl,hv1,hb1⟩
 have H1:=Lib.hid (And.intro hv1 hb1)
 clear hv1 hb1
 dsimp only
 go_wp2_with fail
 go_loopw [2,3,5,6,7] (λ nv bv kv xv fv wr=>∃ (k n : Nat) (y : List Int) (B : Option Addr) (cb : Nat),nv = .int .i64 n /\ bv = .slice B y.length cb /\ kv = .int .i64 ((k + 1 : Nat) : Int) /\ k <= 3 /\ Hid (bestN b k = ((n : Int),y) /\ (Kd.int .u8).R 5 wr w.heap.size (λ _=>True) (.slice B y.length cb) y /\ Below w.heap.size w wr)) (λ _ _ kv _ _ _=>4 - (intOf kv).toNat)
 case atStart=>exact ⟨0,0,b,A1,c1,rfl,rfl,rfl,by omega,Lib.hid ⟨rfl,H1.out.1,H1.out.2⟩⟩
 case round=>
  obtain ⟨k,n,y,B,cb,rfl,rfl,rfl,hk,H⟩:=hrel
  by_cases hlt : k < 3
  · have hI : ((k + 1 : Nat) : Int) < 4:=by omega
    have HC:=Lib.hid (HE.out ((k + 1 : Nat) : Int) wr H.out.2.2)
    have hyl:=b7Q b k
    rw [H.out.1] at hyl
    have hyl2 : y.length <= b.length:=hyl
    obtain ⟨x,hx⟩ : ∃ x,x = pickE ((k + 1 : Nat) : Int) b:=⟨_,rfl⟩
    have HX:=Lib.hid hx
    rw [<- hx] at HC
    obtain ⟨f,z⟩:=x
    have hz : Hid (f = 0 -> z.length <= 1000000 \/ True):=Lib.hid (λ _=>.inr trivial)
    clear hx hyl hz
    go_wp2_with fail
    refine HC.out.mono ?_
    rintro e w2 ⟨A2,c2,rfl,hv2,hb2⟩
    have H2:=Lib.hid (And.intro hv2 hb2)
    clear hv2 hb2
    dsimp only at H2 ⊢
    have HB2:=Lib.hid (a0k H.out.2.2 H2.out.2)
    have HR2:=Lib.hid (Kd.R_below H.out.2.1 H2.out.2)
    by_cases h0 : f = 0
    · subst h0
      by_cases h1 : z.length < y.length
      · have hI1 : decide (z.length < y.length) = true:=decide_eq_true h1
        have HN:=Lib.hid (show bestN b (k + 1) = (((k + 1 : Nat) : Int),z) from by
         have e1 : bestN b (k + 1) = a0Y ((k + 1 : Nat) : Int) b (bestN b k):=rfl
         rw [e1,b7R (by rw [<- HX.out]) (by rw [<- HX.out,H.out.1]; exact h1),<- HX.out])
        clear h1
        go_wp2_with fail
        go_roundw
        case rel=>exact ⟨k + 1,k + 1,z,A2,c2,rfl,rfl,by go_num,by omega,Lib.hid ⟨HN.out,Kd.R_lower H2.out.1 H.out.2.2.size,HB2.out⟩⟩
        case measure=>simp [intOf]; omega
      · have hI1 : decide (z.length < y.length) = false:=decide_eq_false h1
        have HN:=Lib.hid (show bestN b (k + 1) = ((n : Int),y) from by
         have e1 : bestN b (k + 1) = a0Y ((k + 1 : Nat) : Int) b (bestN b k):=rfl
         rw [e1,a8e (by rw [<- HX.out,H.out.1]; exact λ h=>h1 h.2),H.out.1])
        clear h1
        go_wp2_with fail
        go_roundw
        case rel=>exact ⟨k + 1,n,y,B,cb,rfl,rfl,by go_num,by omega,Lib.hid ⟨HN.out,HR2.out,HB2.out⟩⟩
        case measure=>simp [intOf]; omega
    · have hf : (f == 0) = false:=by simpa using h0
      have HN:=Lib.hid (show bestN b (k + 1) = ((n : Int),y) from by
       have e1 : bestN b (k + 1) = a0Y ((k + 1 : Nat) : Int) b (bestN b k):=rfl
       rw [e1,a8e (by rw [<- HX.out]; exact λ h=>h0 h.1),H.out.1])
      clear h0
      go_wp2_with fail
      go_roundw
      case rel=>exact ⟨k + 1,n,y,B,cb,rfl,rfl,by go_num,by omega,Lib.hid ⟨HN.out,HR2.out,HB2.out⟩⟩
      case measure=>simp [intOf]; omega
  · obtain rfl : k = 3:=by omega
    go_wp2_with fail
    go_ret3
    have e3:=H.out.1
    rw [c9G] at e3
    unfold BestPost
    rw [e3]
    exact ⟨B,cb,rfl,H.out.2.1,H.out.2.2⟩
theorem c9I {k : Int} {b : List Int} (hb : Bytes b) (hl : b.length <= 40000) (h0 : 0 < b.length) (he : (pickE k b).1 = 0) : 0 < (pickE k b).2.length:=by
 by_cases h : 0 <= k /\ k < 4
 · by_cases k0 : k = 0
   · subst k0; rw [a5q (by decide) (by decide),b0Y hl]; exact h0
   by_cases k1 : k = 1
   · subst k1
     rw [a5q (by decide) (by decide)] at he ⊢
     cases ha : a1R b with
     | false=>rw [b7F ha] at he; cases he
     | true=>rw [b0Z hl ha]; exact Nat.one_pos
   by_cases k2 : k = 2
   · subst k2; rw [b7J h0]; have:=b6v hb hl h0; show 0 < (a1r b).length; omega
   · obtain rfl : k = 3:=by omega
     rw [b7K h0]; have:=b6H hb hl h0; show 0 < (a1n b).length; omega
 · rw [b7I h] at he; cases he
theorem b7S {k : Int} {b : List Int} {x : Int × List Int} (hb : Bytes b) (hl : b.length <= 40000) (h0 : 0 < b.length) (h1 : x.2.length <= 1) : a0Y k b x = x:=by
 refine a8e ?_
 rintro ⟨he,hlt⟩
 have:=c9I hb hl h0 he
 omega
theorem b7U {b : List Int} (hb : Bytes b) (hl : b.length <= 40000) (ha : a1R b = true) : bestP b = (1,[b.getD 0 0]):=by
 have h0:=(b0y ha).2
 have e : a0Y 1 b (0,b) = (1,[b.getD 0 0]):=by
  have e1 : pickE 1 b = (0,[b.getD 0 0]):=by rw [a5q (by decide) (by decide),b0Z hl ha]
  rw [b7R (by rw [e1]) (by rw [e1]; exact h0),e1]
 unfold bestP
 have hs : ∀ k,a0Y k b (1,[b.getD 0 0]) = (1,[b.getD 0 0]):=λ k=>b7S hb hl (by omega) (Nat.le_refl 1)
 rw [e,hs,hs]
theorem b4 : Bytes [4]:=by intro x hx; simp at hx; omega
theorem BestPost.out {b : List Int} {w : World} {e : Ending} {w' : World} (h : BestPost b w e w') (hb : Bytes b) : ∃ A c,e = .returned (.tuple #[.int .i64 (bestP b).1,.slice A (bestP b).2.length c,.int .i64 0]) /\ BSl w' A c (bestP b).2 /\ Below w.heap.size w w':=by
 obtain ⟨A,c,he,hr,hbl⟩:=h
 exact ⟨A,c,he,BSl.of hr (a6a hb),hbl⟩
theorem or_4 {k : Nat} (h : k <= 3) : bits .or .i64 (k : Int) 4 = ((k + 4 : Nat) : Int):=by
 have h1:=b7z k 4 (by omega) (by decide)
 have h2 : k ||| 4 = k + 4:=by
  have : k = 0 \/ k = 1 \/ k = 2 \/ k = 3:=by omega
  rcases this with rfl | rfl | rfl | rfl <;> rfl
 rw [h2] at h1; exact h1
structure PutF (k kk sm : Nat) (x e1 e2 e3 B : List Int) : Prop where
 kk7 : kk <= 7
 sm' : sm = a0F 0 x
 e1l : e1.length = 3
 e2l : e2.length = 3
 e3l : e3.length = 4
 all : B = (([(kk : Int)] ++ e1) ++ e2) ++ e3 ++ x
theorem putF {b : List Int} (hl : b.length <= 40000) (last : Bool) : ∃ k kk sm : Nat,(bestP b).1 = k /\ k <= 3 /\ kk = k + (if last then 4 else 0) /\ sm < 4294967296 /\ PutF k kk sm (bestP b).2 (leN b.length 3) (leN (bestP b).2.length 3) (leN sm 4) (putM b last):=by
 obtain ⟨k,hk,hk3⟩:=b0F (b:=b) (by omega)
 have hcl:=a4s 0 (bestP b).2
 refine ⟨k,_,a0F 0 (bestP b).2,hk,hk3,rfl,by omega,by split <;> omega,rfl,a1T _ _,a1T _ _,a1T _ _,?_⟩
 unfold putM
 rw [hk]
 cases last <;> simp
set_option maxRecDepth 100000 in
set_option maxHeartbeats 2000000 in
theorem c9K (A : Option Addr) (c : Nat) (b : List Int) (w : World) (hr : (Kd.int .u8).C w A b.length b) (hb : Bytes b) (hl : b.length <= 40000) (h0 : 0 < b.length) :
    Calls Tryz.prog 33 #[.slice A b.length c,.bool false] w (Told 0 (putM b false) w):=by
 have d1 : decide ((131072 : Int) < (b.length : Int)) = false:=decide_eq_false (by omega)
 have hn0 : ((b.length : Int) == 0) = false:=by simp; intro e; subst e; simp at h0
 have HBest:=Lib.hid (a5s A c b w hr hb hl)
 have HBy:=Lib.hid (a6a hb)
 have hbl:=a2H b
 obtain ⟨k,kk,sm,hk,hk3,hkk,hsm4,hF⟩:=putF hl false
 have HF:=Lib.hid hF
 obtain ⟨x,hx⟩ : ∃ x,x = (bestP b).2:=⟨_,rfl⟩
 unfold BestPost at HBest
 rw [hk,<- hx] at HBest
 rw [<- hx] at HBy hbl HF
 have hxl : x.length <= 40000:=by omega
 have hw1 : IntKind.u32.wrap (b.length : Int) = (b.length : Int):=by rw [IntKind.wrap_u32']; omega
 have hw2 : IntKind.u32.wrap (x.length : Int) = (x.length : Int):=by rw [IntKind.wrap_u32']; omega
 have hkk7:=hF.kk7
 have hw3 : IntKind.u8.wrap (kk : Int) = (kk : Int):=by rw [IntKind.wrap_u8']; omega
 have HLit1:=Lib.hid (λ W : World=>a3s b.length 3 W (by omega) (by decide))
 have HLit2:=Lib.hid (λ W : World=>a3s x.length 3 W (by omega) (by decide))
 have HLit3:=Lib.hid (λ W : World=>a3s sm 4 W hsm4 (by decide))
 obtain ⟨e1,he1⟩ : ∃ l,l = leN b.length 3:=⟨_,rfl⟩
 obtain ⟨e2,he2⟩ : ∃ l,l = leN x.length 3:=⟨_,rfl⟩
 obtain ⟨e3,he3⟩ : ∃ l,l = leN sm 4:=⟨_,rfl⟩
 rw [<- he1] at HF HLit1
 rw [<- he2] at HF HLit2
 rw [<- he3] at HF HLit3
 have hk2 : kk = k:=by rw [hkk]; rfl
 subst hk2
 obtain ⟨B,hB⟩ : ∃ l,l = putM b false:=⟨_,rfl⟩
 rw [<- hB] at HF ⊢
 have HXl:=Lib.hid hxl
 clear hr hb hk hk3 hkk hx he1 he2 he3 hl hbl hkk7 hsm4 hF hB
 go_enter Tryz.func33,Tryz.ntmps33
 go_wp2_with fail
 refine HBest.out.mono ?_
 rintro e w1 ⟨Ax,cx,rfl,hvx,hb1⟩
 have HX1:=Lib.hid (Kd.R_reads' hvx).2.2
 have HB1:=Lib.hid hb1
 have hbl2 : Below w1.heap.size w1 (w1.alloc (.cells #[.int .u8 (kk : Int)] 5)):=(Below.refl _ _).alloc (Nat.le_refl _) _
 have HO1 : Hid ((Kd.int .u8).R 5 (w1.alloc (.cells #[.int .u8 (kk : Int)] 5)) w1.heap.size (λ _=>True) (.slice (some ⟨w1.heap.size,0,none⟩) 1 1) [(kk : Int)]):=Lib.hid (a2j .u8 5 w1 w1.heap.size (λ _=>True) trivial (Nat.le_refl _) [(kk : Int)] (by simp))
 have HBl2:=Lib.hid hbl2
 clear hvx hb1 hbl2
 go_wp2_with fail
 refine (HLit1.out _).mono ?_
 rintro e w2 ⟨v2,rfl,hv2,hb2⟩
 obtain ⟨A2,c2,rfl⟩:=Kd.R_slice hv2
 have HO2:=Lib.hid (Kd.R_below HO1.out hb2)
 have HD2 : Hid ((Kd.int .u8).C w2 A2 3 e1):=Lib.hid (by have:=(Kd.R_reads' hv2).2.2; rw [HF.out.e1l] at this; exact this)
 have HB2:=Lib.hid (a0k HBl2.out hb2)
 have HS2:=Lib.hid (a0k HBl2.out hb2).size
 have HN2 : Hid (([(kk : Int)].length + 3) * 1 <= 140737488355328):=Lib.hid (by simp)
 have HZ2 : Hid (([(kk : Int)] ++ e1).length = 4):=Lib.hid (by rw [List.length_append,HF.out.e1l]; rfl)
 rw [HF.out.e1l]
 clear hv2 hb2
 go_wp2_with (at_builtin; refine Kd.R_append_rows (Kd.int .u8) (Rr:=(Kd.int .u8).K w2) (w0:=w1) (W:=w2) w1.heap.size rfl (.tmp 33) (.tmp 37) 22 5 (.int .u8 0) 1 rfl Tryz.underlying22 a0E rfl (by decide) (by decide) (.slice (some ⟨w1.heap.size,0,none⟩) 1 1) ([(kk : Int)]) (e1) A2 3 c2 (λ _=>True) (λ _=>False) rfl rfl HO2.out HD2.out (λ _ _ h=>h) (λ _ h=>h.elim) (λ _ _=>trivial) HB2.out HS2.out HN2.out ?_; intro v3 w3 hr3 hb3 hg3 hat3; obtain ⟨A3,c3,rfl⟩:=Kd.R_slice hr3; rw [HZ2.out] at hr3 ⊢; have HR3:=Lib.hid (And.intro hr3 hb3); clear hr3 hb3 hg3 hat3)
 obtain ⟨L1,hL1⟩ : ∃ l,l = [(kk : Int)] ++ e1:=⟨_,rfl⟩
 rw [<- hL1] at HR3 HZ2
 have HL1:=Lib.hid hL1
 clear hL1
 refine (HLit2.out _).mono ?_
 rintro e w4 ⟨v4,rfl,hv4,hb4⟩
 obtain ⟨A4,c4,rfl⟩:=Kd.R_slice hv4
 have HO4:=Lib.hid (Kd.R_below HR3.out.1 hb4)
 have HD4 : Hid ((Kd.int .u8).C w4 A4 3 e2):=Lib.hid (by have:=(Kd.R_reads' hv4).2.2; rw [HF.out.e2l] at this; exact this)
 have HB4:=Lib.hid (HR3.out.2.trans (hb4.mono HR3.out.2.size))
 have HS4:=Lib.hid HB4.out.size
 have HN4 : Hid ((L1.length + 3) * 1 <= 140737488355328):=Lib.hid (by rw [HZ2.out]; decide)
 have HZ4 : Hid ((L1 ++ e2).length = 7):=Lib.hid (by rw [List.length_append,HZ2.out,HF.out.e2l])
 rw [HF.out.e2l]
 clear hv4 hb4
 go_wp2_with (at_builtin; refine Kd.R_append_rows (Kd.int .u8) (Rr:=(Kd.int .u8).K w4) (w0:=w1) (W:=w4) w1.heap.size rfl (.tmp 39) (.tmp 43) 22 5 (.int .u8 0) 1 rfl Tryz.underlying22 a0E rfl (by decide) (by decide) (.slice A3 4 c3) (L1) (e2) A4 3 c4 (λ _=>True) (λ _=>False) rfl rfl HO4.out HD4.out (λ _ _ h=>h) (λ _ h=>h.elim) (λ _ _=>trivial) HB4.out HS4.out HN4.out ?_; intro v5 w5 hr5 hb5 hg5 hat5; obtain ⟨A5,c5,rfl⟩:=Kd.R_slice hr5; rw [HZ4.out] at hr5 ⊢; have HR5:=Lib.hid (And.intro hr5 hb5); clear hr5 hb5 hg5 hat5)
 obtain ⟨L2,hL2⟩ : ∃ l,l = L1 ++ e2:=⟨_,rfl⟩
 rw [<- hL2] at HR5 HZ4
 have HL2:=Lib.hid hL2
 clear hL2
 refine (a3O w5).mono ?_
 rintro e w6 ⟨p,rfl,hp6,ht6,hb6⟩
 have HT6:=Lib.hid ht6
 have HB6:=Lib.hid (HR5.out.2.trans (hb6.mono HR5.out.2.size))
 have HO6:=Lib.hid (Kd.R_below HR5.out.1 hb6)
 have HX6:=Lib.hid (Kd.C_below HX1.out HB6.out)
 have HCr:=Lib.hid (a6g p Ax cx x w6 HT6.out HX6.out (by have:=HXl.out; omega) HBy.out)
 rw [<- HF.out.sm'] at HCr
 clear hp6 ht6 hb6
 go_wp2_with fail
 refine HCr.out.mono ?_
 rintro e w6' ⟨rfl,rfl⟩
 go_wp2_with fail
 refine (HLit3.out _).mono ?_
 rintro e w7 ⟨v7,rfl,hv7,hb7⟩
 obtain ⟨A7,c7,rfl⟩:=Kd.R_slice hv7
 have HO7:=Lib.hid (Kd.R_below HO6.out hb7)
 have HD7 : Hid ((Kd.int .u8).C w7 A7 4 e3):=Lib.hid (by have:=(Kd.R_reads' hv7).2.2; rw [HF.out.e3l] at this; exact this)
 have HB7:=Lib.hid (HB6.out.trans (hb7.mono HB6.out.size))
 have HS7:=Lib.hid HB7.out.size
 have HN7 : Hid ((L2.length + 4) * 1 <= 140737488355328):=Lib.hid (by rw [HZ4.out]; decide)
 have HZ7 : Hid ((L2 ++ e3).length = 11):=Lib.hid (by rw [List.length_append,HZ4.out,HF.out.e3l])
 have HALL : Hid (L2 ++ e3 ++ x = B):=Lib.hid (by rw [HL2.out,HL1.out]; exact HF.out.all.symm)
 rw [HF.out.e3l]
 clear hv7 hb7
 go_wp2_with (at_builtin; first
  | (refine Kd.R_append_rows (Kd.int .u8) (Rr:=(Kd.int .u8).K w7) (w0:=w1) (W:=w7) w1.heap.size rfl (.tmp 45) (.tmp 49) 22 5 (.int .u8 0) 1 rfl Tryz.underlying22 a0E rfl (by decide) (by decide) (.slice A5 7 c5) (L2) (e3) A7 4 c7 (λ _=>True) (λ _=>False) rfl rfl HO7.out HD7.out (λ _ _ h=>h) (λ _ h=>h.elim) (λ _ _=>trivial) HB7.out HS7.out HN7.out ?_; intro v8 w8 hr8 hb8 hg8 hat8; obtain ⟨A8,c8,rfl⟩:=Kd.R_slice hr8; rw [HZ7.out] at hr8 ⊢; have HR8:=Lib.hid (And.intro hr8 hb8); clear hr8 hb8 hg8 hat8; have HS8:=Lib.hid HR8.out.2.size; have HX8:=Lib.hid (Kd.C_below HX1.out HR8.out.2); have HN8 : Hid (((L2 ++ e3).length + x.length) * 1 <= 140737488355328):=Lib.hid (by rw [HZ7.out]; have:=HXl.out; omega))
  | (refine Kd.R_append_rows (Kd.int .u8) (Rr:=(Kd.int .u8).K w8) (w0:=w1) (W:=w8) w1.heap.size rfl (.tmp 51) (.tmp 52) 22 5 (.int .u8 0) 1 rfl Tryz.underlying22 a0E rfl (by decide) (by decide) (.slice A8 11 c8) (L2 ++ e3) x Ax x.length cx (λ _=>True) (λ _=>False) rfl rfl HR8.out.1 HX8.out (λ _ _ h=>h) (λ _ h=>h.elim) (λ _ _=>trivial) HR8.out.2 HS8.out HN8.out ?_; intro v9 w9 hr9 hb9 hg9 hat9; rw [HALL.out] at hr9; obtain ⟨A9,c9,rfl⟩:=Kd.R_slice hr9; have HR9:=Lib.hid (And.intro hr9 hb9); clear hr9 hb9 hg9 hat9))
 go_ret2
 exact ⟨A9,c9,rfl,Kd.R_lower HR9.out.1 HB1.out.size,a0k HB1.out HR9.out.2⟩
set_option maxRecDepth 100000 in
set_option maxHeartbeats 2000000 in
theorem c9L (A : Option Addr) (c : Nat) (b : List Int) (w : World) (hr : (Kd.int .u8).C w A b.length b) (hb : Bytes b) (hl : b.length <= 40000) (h0 : 0 < b.length) :
    Calls Tryz.prog 33 #[.slice A b.length c,.bool true] w (Told 0 (putM b true) w):=by
 have d1 : decide ((131072 : Int) < (b.length : Int)) = false:=decide_eq_false (by omega)
 have hn0 : ((b.length : Int) == 0) = false:=by simp; intro e; subst e; simp at h0
 have HBest:=Lib.hid (a5s A c b w hr hb hl)
 have HBy:=Lib.hid (a6a hb)
 have hbl:=a2H b
 obtain ⟨k,kk,sm,hk,hk3,hkk,hsm4,hF⟩:=putF hl true
 have HF:=Lib.hid hF
 obtain ⟨x,hx⟩ : ∃ x,x = (bestP b).2:=⟨_,rfl⟩
 unfold BestPost at HBest
 rw [hk,<- hx] at HBest
 rw [<- hx] at HBy hbl HF
 have hxl : x.length <= 40000:=by omega
 have hw1 : IntKind.u32.wrap (b.length : Int) = (b.length : Int):=by rw [IntKind.wrap_u32']; omega
 have hw2 : IntKind.u32.wrap (x.length : Int) = (x.length : Int):=by rw [IntKind.wrap_u32']; omega
 have hkk7:=hF.kk7
 have hw3 : IntKind.u8.wrap (kk : Int) = (kk : Int):=by rw [IntKind.wrap_u8']; omega
 have HLit1:=Lib.hid (λ W : World=>a3s b.length 3 W (by omega) (by decide))
 have HLit2:=Lib.hid (λ W : World=>a3s x.length 3 W (by omega) (by decide))
 have HLit3:=Lib.hid (λ W : World=>a3s sm 4 W hsm4 (by decide))
 obtain ⟨e1,he1⟩ : ∃ l,l = leN b.length 3:=⟨_,rfl⟩
 obtain ⟨e2,he2⟩ : ∃ l,l = leN x.length 3:=⟨_,rfl⟩
 obtain ⟨e3,he3⟩ : ∃ l,l = leN sm 4:=⟨_,rfl⟩
 rw [<- he1] at HF HLit1
 rw [<- he2] at HF HLit2
 rw [<- he3] at HF HLit3
 have hor : bits .or .i64 (k : Int) 4 = (kk : Int):=by rw [hkk]; exact or_4 hk3
 obtain ⟨B,hB⟩ : ∃ l,l = putM b true:=⟨_,rfl⟩
 rw [<- hB] at HF ⊢
 have HXl:=Lib.hid hxl
 clear hr hb hk hk3 hkk hx he1 he2 he3 hl hbl hkk7 hsm4 hF hB
 go_enter Tryz.func33,Tryz.ntmps33
 go_wp2_with fail
 refine HBest.out.mono ?_
 rintro e w1 ⟨Ax,cx,rfl,hvx,hb1⟩
 have HX1:=Lib.hid (Kd.R_reads' hvx).2.2
 have HB1:=Lib.hid hb1
 have hbl2 : Below w1.heap.size w1 (w1.alloc (.cells #[.int .u8 (kk : Int)] 5)):=(Below.refl _ _).alloc (Nat.le_refl _) _
 have HO1 : Hid ((Kd.int .u8).R 5 (w1.alloc (.cells #[.int .u8 (kk : Int)] 5)) w1.heap.size (λ _=>True) (.slice (some ⟨w1.heap.size,0,none⟩) 1 1) [(kk : Int)]):=Lib.hid (a2j .u8 5 w1 w1.heap.size (λ _=>True) trivial (Nat.le_refl _) [(kk : Int)] (by simp))
 have HBl2:=Lib.hid hbl2
 clear hvx hb1 hbl2
 go_wp2_with fail
 refine (HLit1.out _).mono ?_
 rintro e w2 ⟨v2,rfl,hv2,hb2⟩
 obtain ⟨A2,c2,rfl⟩:=Kd.R_slice hv2
 have HO2:=Lib.hid (Kd.R_below HO1.out hb2)
 have HD2 : Hid ((Kd.int .u8).C w2 A2 3 e1):=Lib.hid (by have:=(Kd.R_reads' hv2).2.2; rw [HF.out.e1l] at this; exact this)
 have HB2:=Lib.hid (a0k HBl2.out hb2)
 have HS2:=Lib.hid (a0k HBl2.out hb2).size
 have HN2 : Hid (([(kk : Int)].length + 3) * 1 <= 140737488355328):=Lib.hid (by simp)
 have HZ2 : Hid (([(kk : Int)] ++ e1).length = 4):=Lib.hid (by rw [List.length_append,HF.out.e1l]; rfl)
 rw [HF.out.e1l]
 clear hv2 hb2
 go_wp2_with (at_builtin; refine Kd.R_append_rows (Kd.int .u8) (Rr:=(Kd.int .u8).K w2) (w0:=w1) (W:=w2) w1.heap.size rfl (.tmp 33) (.tmp 37) 22 5 (.int .u8 0) 1 rfl Tryz.underlying22 a0E rfl (by decide) (by decide) (.slice (some ⟨w1.heap.size,0,none⟩) 1 1) ([(kk : Int)]) (e1) A2 3 c2 (λ _=>True) (λ _=>False) rfl rfl HO2.out HD2.out (λ _ _ h=>h) (λ _ h=>h.elim) (λ _ _=>trivial) HB2.out HS2.out HN2.out ?_; intro v3 w3 hr3 hb3 hg3 hat3; obtain ⟨A3,c3,rfl⟩:=Kd.R_slice hr3; rw [HZ2.out] at hr3 ⊢; have HR3:=Lib.hid (And.intro hr3 hb3); clear hr3 hb3 hg3 hat3)
 obtain ⟨L1,hL1⟩ : ∃ l,l = [(kk : Int)] ++ e1:=⟨_,rfl⟩
 rw [<- hL1] at HR3 HZ2
 have HL1:=Lib.hid hL1
 clear hL1
 refine (HLit2.out _).mono ?_
 rintro e w4 ⟨v4,rfl,hv4,hb4⟩
 obtain ⟨A4,c4,rfl⟩:=Kd.R_slice hv4
 have HO4:=Lib.hid (Kd.R_below HR3.out.1 hb4)
 have HD4 : Hid ((Kd.int .u8).C w4 A4 3 e2):=Lib.hid (by have:=(Kd.R_reads' hv4).2.2; rw [HF.out.e2l] at this; exact this)
 have HB4:=Lib.hid (HR3.out.2.trans (hb4.mono HR3.out.2.size))
 have HS4:=Lib.hid HB4.out.size
 have HN4 : Hid ((L1.length + 3) * 1 <= 140737488355328):=Lib.hid (by rw [HZ2.out]; decide)
 have HZ4 : Hid ((L1 ++ e2).length = 7):=Lib.hid (by rw [List.length_append,HZ2.out,HF.out.e2l])
 rw [HF.out.e2l]
 clear hv4 hb4
 go_wp2_with (at_builtin; refine Kd.R_append_rows (Kd.int .u8) (Rr:=(Kd.int .u8).K w4) (w0:=w1) (W:=w4) w1.heap.size rfl (.tmp 39) (.tmp 43) 22 5 (.int .u8 0) 1 rfl Tryz.underlying22 a0E rfl (by decide) (by decide) (.slice A3 4 c3) (L1) (e2) A4 3 c4 (λ _=>True) (λ _=>False) rfl rfl HO4.out HD4.out (λ _ _ h=>h) (λ _ h=>h.elim) (λ _ _=>trivial) HB4.out HS4.out HN4.out ?_; intro v5 w5 hr5 hb5 hg5 hat5; obtain ⟨A5,c5,rfl⟩:=Kd.R_slice hr5; rw [HZ4.out] at hr5 ⊢; have HR5:=Lib.hid (And.intro hr5 hb5); clear hr5 hb5 hg5 hat5)
 obtain ⟨L2,hL2⟩ : ∃ l,l = L1 ++ e2:=⟨_,rfl⟩
 rw [<- hL2] at HR5 HZ4
 have HL2:=Lib.hid hL2
 clear hL2
 refine (a3O w5).mono ?_
 rintro e w6 ⟨p,rfl,hp6,ht6,hb6⟩
 have HT6:=Lib.hid ht6
 have HB6:=Lib.hid (HR5.out.2.trans (hb6.mono HR5.out.2.size))
 have HO6:=Lib.hid (Kd.R_below HR5.out.1 hb6)
 have HX6:=Lib.hid (Kd.C_below HX1.out HB6.out)
 have HCr:=Lib.hid (a6g p Ax cx x w6 HT6.out HX6.out (by have:=HXl.out; omega) HBy.out)
 rw [<- HF.out.sm'] at HCr
 clear hp6 ht6 hb6
 go_wp2_with fail
 refine HCr.out.mono ?_
 rintro e w6' ⟨rfl,rfl⟩
 go_wp2_with fail
 refine (HLit3.out _).mono ?_
 rintro e w7 ⟨v7,rfl,hv7,hb7⟩
 obtain ⟨A7,c7,rfl⟩:=Kd.R_slice hv7
 have HO7:=Lib.hid (Kd.R_below HO6.out hb7)
 have HD7 : Hid ((Kd.int .u8).C w7 A7 4 e3):=Lib.hid (by have:=(Kd.R_reads' hv7).2.2; rw [HF.out.e3l] at this; exact this)
 have HB7:=Lib.hid (HB6.out.trans (hb7.mono HB6.out.size))
 have HS7:=Lib.hid HB7.out.size
 have HN7 : Hid ((L2.length + 4) * 1 <= 140737488355328):=Lib.hid (by rw [HZ4.out]; decide)
 have HZ7 : Hid ((L2 ++ e3).length = 11):=Lib.hid (by rw [List.length_append,HZ4.out,HF.out.e3l])
 have HALL : Hid (L2 ++ e3 ++ x = B):=Lib.hid (by rw [HL2.out,HL1.out]; exact HF.out.all.symm)
 rw [HF.out.e3l]
 clear hv7 hb7
 go_wp2_with (at_builtin; first
  | (refine Kd.R_append_rows (Kd.int .u8) (Rr:=(Kd.int .u8).K w7) (w0:=w1) (W:=w7) w1.heap.size rfl (.tmp 45) (.tmp 49) 22 5 (.int .u8 0) 1 rfl Tryz.underlying22 a0E rfl (by decide) (by decide) (.slice A5 7 c5) (L2) (e3) A7 4 c7 (λ _=>True) (λ _=>False) rfl rfl HO7.out HD7.out (λ _ _ h=>h) (λ _ h=>h.elim) (λ _ _=>trivial) HB7.out HS7.out HN7.out ?_; intro v8 w8 hr8 hb8 hg8 hat8; obtain ⟨A8,c8,rfl⟩:=Kd.R_slice hr8; rw [HZ7.out] at hr8 ⊢; have HR8:=Lib.hid (And.intro hr8 hb8); clear hr8 hb8 hg8 hat8; have HS8:=Lib.hid HR8.out.2.size; have HX8:=Lib.hid (Kd.C_below HX1.out HR8.out.2); have HN8 : Hid (((L2 ++ e3).length + x.length) * 1 <= 140737488355328):=Lib.hid (by rw [HZ7.out]; have:=HXl.out; omega))
  | (refine Kd.R_append_rows (Kd.int .u8) (Rr:=(Kd.int .u8).K w8) (w0:=w1) (W:=w8) w1.heap.size rfl (.tmp 51) (.tmp 52) 22 5 (.int .u8 0) 1 rfl Tryz.underlying22 a0E rfl (by decide) (by decide) (.slice A8 11 c8) (L2 ++ e3) x Ax x.length cx (λ _=>True) (λ _=>False) rfl rfl HR8.out.1 HX8.out (λ _ _ h=>h) (λ _ h=>h.elim) (λ _ _=>trivial) HR8.out.2 HS8.out HN8.out ?_; intro v9 w9 hr9 hb9 hg9 hat9; rw [HALL.out] at hr9; obtain ⟨A9,c9,rfl⟩:=Kd.R_slice hr9; have HR9:=Lib.hid (And.intro hr9 hb9); clear hr9 hb9 hg9 hat9))
 go_ret2
 exact ⟨A9,c9,rfl,Kd.R_lower HR9.out.1 HB1.out.size,a0k HB1.out HR9.out.2⟩
set_option maxRecDepth 100000 in
set_option maxHeartbeats 2000000 in
theorem c9M (A : Option Addr) (c : Nat) (b : List Int) (w : World) (hr : (Kd.int .u8).C w A b.length b) (hb : Bytes b) (hl : b.length <= 40000) (h0 : b = []) :
    Calls Tryz.prog 33 #[.slice A 0 c,.bool true] w (Told 0 (putM b true) w):=by
 have hb0 : b.length = 0:=by rw [h0]; rfl
 have HBest:=Lib.hid (a5s A c b w hr hb hl)
 have HBy:=Lib.hid (a6a hb)
 have hbl:=a2H b
 obtain ⟨k,kk,sm,hk,hk3,hkk,hsm4,hF⟩:=putF hl true
 have HF:=Lib.hid hF
 obtain ⟨x,hx⟩ : ∃ x,x = (bestP b).2:=⟨_,rfl⟩
 unfold BestPost at HBest
 rw [hb0] at HBest
 rw [hk,<- hx] at HBest
 rw [<- hx] at HBy hbl HF
 have hxl : x.length <= 40000:=by omega
 have hw2 : IntKind.u32.wrap (x.length : Int) = (x.length : Int):=by rw [IntKind.wrap_u32']; omega
 have hkk7:=hF.kk7
 have hw3 : IntKind.u8.wrap (kk : Int) = (kk : Int):=by rw [IntKind.wrap_u8']; omega
 have HLit1:=Lib.hid (λ W : World=>a3s b.length 3 W (by omega) (by decide))
 rw [hb0] at HLit1 HF
 have HLit2:=Lib.hid (λ W : World=>a3s x.length 3 W (by omega) (by decide))
 have HLit3:=Lib.hid (λ W : World=>a3s sm 4 W hsm4 (by decide))
 obtain ⟨e1,he1⟩ : ∃ l,l = leN 0 3:=⟨_,rfl⟩
 obtain ⟨e2,he2⟩ : ∃ l,l = leN x.length 3:=⟨_,rfl⟩
 obtain ⟨e3,he3⟩ : ∃ l,l = leN sm 4:=⟨_,rfl⟩
 rw [<- he1] at HF HLit1
 rw [<- he2] at HF HLit2
 rw [<- he3] at HF HLit3
 have hor : bits .or .i64 (k : Int) 4 = (kk : Int):=by rw [hkk]; exact or_4 hk3
 obtain ⟨B,hB⟩ : ∃ l,l = putM b true:=⟨_,rfl⟩
 rw [<- hB] at HF ⊢
 have HXl:=Lib.hid hxl
 clear hr hb hk hk3 hkk hx he1 he2 he3 hl hbl hkk7 hsm4 hF hB
 go_enter Tryz.func33,Tryz.ntmps33
 go_wp2_with fail
 refine HBest.out.mono ?_
 rintro e w1 ⟨Ax,cx,rfl,hvx,hb1⟩
 have HX1:=Lib.hid (Kd.R_reads' hvx).2.2
 have HB1:=Lib.hid hb1
 have hbl2 : Below w1.heap.size w1 (w1.alloc (.cells #[.int .u8 (kk : Int)] 5)):=(Below.refl _ _).alloc (Nat.le_refl _) _
 have HO1 : Hid ((Kd.int .u8).R 5 (w1.alloc (.cells #[.int .u8 (kk : Int)] 5)) w1.heap.size (λ _=>True) (.slice (some ⟨w1.heap.size,0,none⟩) 1 1) [(kk : Int)]):=Lib.hid (a2j .u8 5 w1 w1.heap.size (λ _=>True) trivial (Nat.le_refl _) [(kk : Int)] (by simp))
 have HBl2:=Lib.hid hbl2
 clear hvx hb1 hbl2
 go_wp2_with fail
 refine (HLit1.out _).mono ?_
 rintro e w2 ⟨v2,rfl,hv2,hb2⟩
 obtain ⟨A2,c2,rfl⟩:=Kd.R_slice hv2
 have HO2:=Lib.hid (Kd.R_below HO1.out hb2)
 have HD2 : Hid ((Kd.int .u8).C w2 A2 3 e1):=Lib.hid (by have:=(Kd.R_reads' hv2).2.2; rw [HF.out.e1l] at this; exact this)
 have HB2:=Lib.hid (a0k HBl2.out hb2)
 have HS2:=Lib.hid (a0k HBl2.out hb2).size
 have HN2 : Hid (([(kk : Int)].length + 3) * 1 <= 140737488355328):=Lib.hid (by simp)
 have HZ2 : Hid (([(kk : Int)] ++ e1).length = 4):=Lib.hid (by rw [List.length_append,HF.out.e1l]; rfl)
 rw [HF.out.e1l]
 clear hv2 hb2
 go_wp2_with (at_builtin; refine Kd.R_append_rows (Kd.int .u8) (Rr:=(Kd.int .u8).K w2) (w0:=w1) (W:=w2) w1.heap.size rfl (.tmp 33) (.tmp 37) 22 5 (.int .u8 0) 1 rfl Tryz.underlying22 a0E rfl (by decide) (by decide) (.slice (some ⟨w1.heap.size,0,none⟩) 1 1) ([(kk : Int)]) (e1) A2 3 c2 (λ _=>True) (λ _=>False) rfl rfl HO2.out HD2.out (λ _ _ h=>h) (λ _ h=>h.elim) (λ _ _=>trivial) HB2.out HS2.out HN2.out ?_; intro v3 w3 hr3 hb3 hg3 hat3; obtain ⟨A3,c3,rfl⟩:=Kd.R_slice hr3; rw [HZ2.out] at hr3 ⊢; have HR3:=Lib.hid (And.intro hr3 hb3); clear hr3 hb3 hg3 hat3)
 obtain ⟨L1,hL1⟩ : ∃ l,l = [(kk : Int)] ++ e1:=⟨_,rfl⟩
 rw [<- hL1] at HR3 HZ2
 have HL1:=Lib.hid hL1
 clear hL1
 refine (HLit2.out _).mono ?_
 rintro e w4 ⟨v4,rfl,hv4,hb4⟩
 obtain ⟨A4,c4,rfl⟩:=Kd.R_slice hv4
 have HO4:=Lib.hid (Kd.R_below HR3.out.1 hb4)
 have HD4 : Hid ((Kd.int .u8).C w4 A4 3 e2):=Lib.hid (by have:=(Kd.R_reads' hv4).2.2; rw [HF.out.e2l] at this; exact this)
 have HB4:=Lib.hid (HR3.out.2.trans (hb4.mono HR3.out.2.size))
 have HS4:=Lib.hid HB4.out.size
 have HN4 : Hid ((L1.length + 3) * 1 <= 140737488355328):=Lib.hid (by rw [HZ2.out]; decide)
 have HZ4 : Hid ((L1 ++ e2).length = 7):=Lib.hid (by rw [List.length_append,HZ2.out,HF.out.e2l])
 rw [HF.out.e2l]
 clear hv4 hb4
 go_wp2_with (at_builtin; refine Kd.R_append_rows (Kd.int .u8) (Rr:=(Kd.int .u8).K w4) (w0:=w1) (W:=w4) w1.heap.size rfl (.tmp 39) (.tmp 43) 22 5 (.int .u8 0) 1 rfl Tryz.underlying22 a0E rfl (by decide) (by decide) (.slice A3 4 c3) (L1) (e2) A4 3 c4 (λ _=>True) (λ _=>False) rfl rfl HO4.out HD4.out (λ _ _ h=>h) (λ _ h=>h.elim) (λ _ _=>trivial) HB4.out HS4.out HN4.out ?_; intro v5 w5 hr5 hb5 hg5 hat5; obtain ⟨A5,c5,rfl⟩:=Kd.R_slice hr5; rw [HZ4.out] at hr5 ⊢; have HR5:=Lib.hid (And.intro hr5 hb5); clear hr5 hb5 hg5 hat5)
 obtain ⟨L2,hL2⟩ : ∃ l,l = L1 ++ e2:=⟨_,rfl⟩
 rw [<- hL2] at HR5 HZ4
 have HL2:=Lib.hid hL2
 clear hL2
 refine (a3O w5).mono ?_
 rintro e w6 ⟨p,rfl,hp6,ht6,hb6⟩
 have HT6:=Lib.hid ht6
 have HB6:=Lib.hid (HR5.out.2.trans (hb6.mono HR5.out.2.size))
 have HO6:=Lib.hid (Kd.R_below HR5.out.1 hb6)
 have HX6:=Lib.hid (Kd.C_below HX1.out HB6.out)
 have HCr:=Lib.hid (a6g p Ax cx x w6 HT6.out HX6.out (by have:=HXl.out; omega) HBy.out)
 rw [<- HF.out.sm'] at HCr
 clear hp6 ht6 hb6
 go_wp2_with fail
 refine HCr.out.mono ?_
 rintro e w6' ⟨rfl,rfl⟩
 go_wp2_with fail
 refine (HLit3.out _).mono ?_
 rintro e w7 ⟨v7,rfl,hv7,hb7⟩
 obtain ⟨A7,c7,rfl⟩:=Kd.R_slice hv7
 have HO7:=Lib.hid (Kd.R_below HO6.out hb7)
 have HD7 : Hid ((Kd.int .u8).C w7 A7 4 e3):=Lib.hid (by have:=(Kd.R_reads' hv7).2.2; rw [HF.out.e3l] at this; exact this)
 have HB7:=Lib.hid (HB6.out.trans (hb7.mono HB6.out.size))
 have HS7:=Lib.hid HB7.out.size
 have HN7 : Hid ((L2.length + 4) * 1 <= 140737488355328):=Lib.hid (by rw [HZ4.out]; decide)
 have HZ7 : Hid ((L2 ++ e3).length = 11):=Lib.hid (by rw [List.length_append,HZ4.out,HF.out.e3l])
 have HALL : Hid (L2 ++ e3 ++ x = B):=Lib.hid (by rw [HL2.out,HL1.out]; exact HF.out.all.symm)
 rw [HF.out.e3l]
 clear hv7 hb7
 go_wp2_with (at_builtin; first
  | (refine Kd.R_append_rows (Kd.int .u8) (Rr:=(Kd.int .u8).K w7) (w0:=w1) (W:=w7) w1.heap.size rfl (.tmp 45) (.tmp 49) 22 5 (.int .u8 0) 1 rfl Tryz.underlying22 a0E rfl (by decide) (by decide) (.slice A5 7 c5) (L2) (e3) A7 4 c7 (λ _=>True) (λ _=>False) rfl rfl HO7.out HD7.out (λ _ _ h=>h) (λ _ h=>h.elim) (λ _ _=>trivial) HB7.out HS7.out HN7.out ?_; intro v8 w8 hr8 hb8 hg8 hat8; obtain ⟨A8,c8,rfl⟩:=Kd.R_slice hr8; rw [HZ7.out] at hr8 ⊢; have HR8:=Lib.hid (And.intro hr8 hb8); clear hr8 hb8 hg8 hat8; have HS8:=Lib.hid HR8.out.2.size; have HX8:=Lib.hid (Kd.C_below HX1.out HR8.out.2); have HN8 : Hid (((L2 ++ e3).length + x.length) * 1 <= 140737488355328):=Lib.hid (by rw [HZ7.out]; have:=HXl.out; omega))
  | (refine Kd.R_append_rows (Kd.int .u8) (Rr:=(Kd.int .u8).K w8) (w0:=w1) (W:=w8) w1.heap.size rfl (.tmp 51) (.tmp 52) 22 5 (.int .u8 0) 1 rfl Tryz.underlying22 a0E rfl (by decide) (by decide) (.slice A8 11 c8) (L2 ++ e3) x Ax x.length cx (λ _=>True) (λ _=>False) rfl rfl HR8.out.1 HX8.out (λ _ _ h=>h) (λ _ h=>h.elim) (λ _ _=>trivial) HR8.out.2 HS8.out HN8.out ?_; intro v9 w9 hr9 hb9 hg9 hat9; rw [HALL.out] at hr9; obtain ⟨A9,c9,rfl⟩:=Kd.R_slice hr9; have HR9:=Lib.hid (And.intro hr9 hb9); clear hr9 hb9 hg9 hat9))
 go_ret2
 exact ⟨A9,c9,rfl,Kd.R_lower HR9.out.1 HB1.out.size,a0k HB1.out HR9.out.2⟩
theorem a5t (A : Option Addr) (c : Nat) (b : List Int) (last : Bool) (w : World) (hr : (Kd.int .u8).C w A b.length b) (hb : Bytes b) (hl : b.length <= 40000) (h0 : last = true \/ 0 < b.length) :
    Calls Tryz.prog 33 #[.slice A b.length c,.bool last] w (Told 0 (putM b last) w):=by
 rcases Nat.eq_zero_or_pos b.length with hz | hz
 · obtain rfl : last = true:=by rcases h0 with h | h; (· exact h); (· omega)
   have:=c9M A c b w hr hb hl (List.eq_nil_of_length_eq_zero hz)
   rw [hz]; exact this
 · cases last with
   | false=>exact c9K A c b w hr hb hl hz
   | true=>exact c9L A c b w hr hb hl hz
def logP (log : Int) : Bool:=decide (10 <= log) && decide (log <= 17)
theorem logP_iff {log : Int} : logP log = true ↔ 10 <= log /\ log <= 17:=by unfold logP; rw [Bool.and_eq_true,decide_eq_true_eq,decide_eq_true_eq]
set_option maxRecDepth 100000 in
theorem b1i (log : Int) (w : World) : Calls Tryz.prog 92 #[.int .i64 log] w (λ e w'=>e = .returned (.bool (logP log)) /\ Drawn0 w w'):=by
 go_enter Tryz.func92,Tryz.ntmps92
 go_wp2_with fail
 all_goals
  go_ret
  refine ⟨a0Z ?_,Drawn0.refl _⟩
  unfold logP
  first | rfl | (rw [Bool.eq_iff_iff]; simp; done) | (rw [Bool.eq_iff_iff]; simp; omega)
set_option maxRecDepth 100000 in
set_option maxHeartbeats 1000000 in
theorem c9N (n : Nat) (w : World) (hn : n < 4294967296) :
    Calls Tryz.prog 93 #[.int .u32 n] w (λ e w'=>∃ A c,e = .returned (.slice A 4 c) /\ (Kd.int .u8).R 5 w' w.heap.size (λ _=>True) (.slice A 4 c) (leN n 4) /\ Below w.heap.size w w'):=by
 have hk : (4 : Nat) <= 4:=by omega
 go_enter Tryz.func93,Tryz.ntmps93
 go_wp2_with fail
 go_loopw [3,4,5] (λ v _ kv wr=>∃ i : Nat,i <= 4 /\ kv = .int .i64 i /\ Hid ((Kd.int .u8).R 5 wr w.heap.size (λ _=>True) v (leN n i) /\ Below w.heap.size w wr)) (λ _ _ kv _=>4 - (intOf kv).toNat)
 case atStart=>exact ⟨0,by omega,rfl,Lib.hid ⟨Kd.R_nil _ _ _ _ _,Below.refl _ _⟩⟩
 case round=>
  obtain ⟨i,hi,rfl,H⟩:=hrel
  by_cases hlt : i < 4
  · obtain ⟨Av,cv,rfl⟩:=Kd.R_slice H.out.1
    have hI : (i : Int) < 4:=by omega
    have HN:=Lib.hid (b0C n i)
    have hLl : (leN n i).length = i:=a1T n i
    obtain ⟨L,hL⟩ : ∃ L,L = leN n i:=⟨_,rfl⟩
    rw [<- hL] at H HN hLl ⊢
    have HLn : Hid (L.length + 1 <= 140737488355328):=Lib.hid (by omega)
    have HO:=Lib.hid H.out.1
    have HB:=Lib.hid H.out.2
    have HE : Hid (∀ y : Int,y = ((n / 256 ^ i % 256 : Nat) : Int) -> leN n (i + 1) = L ++ [y]):=Lib.hid (λ y hy=>by rw [hy]; exact HN.out)
    have hi4 : i = 0 \/ i = 1 \/ i = 2 \/ i = 3:=by omega
    clear hL HN
    rcases hi4 with rfl | rfl | rfl | rfl
    all_goals
     go_wp2_with (at_builtin; refine app8i rfl rfl rfl rfl HO HB HB.out.size HLn ?_; intro A1 c1 w3 hr3 hb3 _; have HA:=Lib.hid (And.intro hr3 hb3); clear hr3 hb3)
     go_roundw
     case rel=>
      have hnn:=hn
      have HV:=HA.out.1
      rw [hLl] at HV
      first
       | exact ⟨0 + 1,by omega,by go_num,Lib.hid ⟨by rw [HE.out ((n : Int) % 256) (by clear HA HV; first | rfl | (simp; done) | (simp; omega))]; exact HV,HA.out.2⟩⟩
       | exact ⟨1 + 1,by omega,by go_num,Lib.hid ⟨by rw [HE.out ((n : Int) / 256 % 256) (by clear HA HV; first | rfl | (simp; done) | (simp; omega))]; exact HV,HA.out.2⟩⟩
       | exact ⟨2 + 1,by omega,by go_num,Lib.hid ⟨by rw [HE.out ((n : Int) / 65536 % 256) (by clear HA HV; first | rfl | (simp; done) | (simp; omega))]; exact HV,HA.out.2⟩⟩
       | exact ⟨3 + 1,by omega,by go_num,Lib.hid ⟨by rw [HE.out ((n : Int) / 16777216) (by clear HA HV; simp; omega)]; exact HV,HA.out.2⟩⟩
     case measure=>first | (simp [intOf]; done) | (simp [intOf]; omega)
  · obtain rfl : i = 4:=by omega
    obtain ⟨Av,cv,rfl⟩:=Kd.R_slice H.out.1
    rw [a1T] at H ⊢
    go_wp2_with fail
    go_ret
    exact ⟨_,_,rfl,H.out.1,H.out.2⟩
set_option maxRecDepth 100000 in
theorem b7V (A : Option Addr) (c : Nat) (b : List Int) (w : World) (hr : (Kd.int .u8).C w A b.length b) (hl : b.length <= 1000000000000) (hb : Bytes b) :
    Calls Tryz.prog 43 #[.slice A b.length c] w (λ e w'=>∃ A c,e = .returned (.slice A 4 c) /\ (Kd.int .u8).R 5 w' w.heap.size (λ _=>True) (.slice A 4 c) (tailL b) /\ Below w.heap.size w w'):=by
 have HR:=Lib.hid hr
 have HX:=Lib.hid hb
 have HS : Hid (a0F 0 b < 4294967296):=Lib.hid (by have:=a4s 0 b; omega)
 clear hr hb
 go_enter Tryz.func43,Tryz.ntmps43
 go_wp2_with fail
 refine (a3O w).mono ?_
 rintro e w1 ⟨p,rfl,hp1,ht1,hb1⟩
 have HC:=Lib.hid (a6g p A c b w1 ht1 (Kd.C_below HR.out hb1) hl HX.out)
 have HB1:=Lib.hid hb1
 clear hp1 ht1 hb1
 go_wp2_with fail
 refine HC.out.mono ?_
 rintro e w1' ⟨rfl,rfl⟩
 go_wp2_with fail
 refine (c9N (a0F 0 b) w1 HS.out).mono ?_
 rintro e w2 ⟨A2,c2,rfl,h2,hb2⟩
 have H2:=Lib.hid (And.intro h2 hb2)
 clear h2 hb2
 go_wp2_with fail
 go_ret
 exact ⟨A2,c2,rfl,Kd.R_lower H2.out.1 HB1.out.size,a0k HB1.out H2.out.2⟩
theorem b7X (w : World) (cs : List Value) (e : TypeId) (fr : Nat × Nat) (j : Nat) (u : Value) (h : cs[j]? = some u) : (w.alloc (.cells cs.toArray e fr)).cell? ((⟨w.heap.size,0,none⟩ : Addr).add j) = some u:=by
 have h1 : (w.alloc (.cells cs.toArray e fr)).heap[w.heap.size]? = some (.cells cs.toArray e fr):=World.alloc_heap_new w _
 have e1 : ((⟨w.heap.size,0,none⟩ : Addr).add j) = ⟨w.heap.size,j,none⟩:=by
  unfold Addr.add
  split
  · rename_i h0; rw [h0]
  · simp
 rw [e1]
 unfold World.cell?
 rw [h1]
 simpa using h
set_option maxRecDepth 100000 in
theorem a8f (L : Nat) (w : World) (hL : 10 <= L /\ L <= 17) : Calls Tryz.prog 41 #[.int .i64 L] w (Told 0 (headL L) w):=by
 have h : logP (L : Int) = true:=logP_iff.2 (by omega)
 have hw8 : IntKind.u8.wrap (L : Int) = (L : Int):=by rw [IntKind.wrap_u8']; omega
 go_enter Tryz.func41,Tryz.ntmps41
 go_wp2_with fail
 refine (b1i L w).mono ?_
 rintro e w1 ⟨rfl,hd⟩
 rw [h]
 have HB:=Lib.hid hd.below
 clear hd
 have hcv:=Lib.run_convert_bytes_const (P:=Tryz.prog) w1 22 5 #[.int .u8 80,.int .u8 78,.int .u8 67,.int .u8 72] 4 4 Tryz.underlying22 Tryz.underlying5
 obtain ⟨w2,hw2⟩ : ∃ w2,w2 = w1.alloc (.cells #[.int .u8 80,.int .u8 78,.int .u8 67,.int .u8 72] 5 (4,5)):=⟨_,rfl⟩
 have hcv2 : (convert 22 22 (.slice (some ⟨w1.heap.size,0,none⟩) 4 4)).run Tryz.prog (w1.alloc (.cells #[.int .u8 80,.int .u8 78,.int .u8 67,.int .u8 72] 5)) = .ok (.slice (some ⟨w1.heap.size,0,none⟩) 4 4) w2:=by rw [hw2]; exact hcv
 have hb2 : Below w1.heap.size w1 w2:=by rw [hw2]; exact (Below.refl _ _).alloc (Nat.le_refl _) _
 have HC1 : Hid (∀ o : Obj,∀ j u,([.int .u8 80,.int .u8 78,.int .u8 67,.int .u8 72] : List Value)[j]? = some u -> (w2.alloc o).cell? ((⟨w1.heap.size,0,none⟩ : Addr).add j) = some u):=Lib.hid (λ o j u h=>a0q ((Below.refl _ _).alloc (Nat.le_refl _) o) (by rw [hw2]; exact b7X w1 _ 5 (4,5) j u h))
 have HC2 : Hid (∀ j u,([.int .u8 1,.int .u8 L,.int .u8 0,.int .u8 0] : List Value)[j]? = some u -> (w2.alloc (.cells #[.int .u8 1,.int .u8 L,.int .u8 0,.int .u8 0] 5)).cell? ((⟨w2.heap.size,0,none⟩ : Addr).add j) = some u):=Lib.hid (λ j u h=>b7X w2 _ 5 (0,0) j u h)
 have HB2 : Hid (Below w1.heap.size w1 (w2.alloc (.cells #[.int .u8 1,.int .u8 L,.int .u8 0,.int .u8 0] 5))):=Lib.hid (hb2.alloc hb2.size _)
 obtain ⟨i0,hi0,hz0,hz1,hz2⟩:=info_parts a0E
 have H0:=Lib.hid (And.intro hi0 (And.intro hz0 (And.intro hz1 hz2)))
 clear hcv hw2 hb2 hi0 hz0 hz1 hz2
 go_wp2_with (at_builtin; refine wpList_append_grows _ rfl (.tmp 8) (.tmp 11) 22 rfl 5 i0 (.int .u8 0) 1 1 Tryz.underlying22 H0.out.1 H0.out.2.1 H0.out.2.2.1 H0.out.2.2.2 rfl (by decide) (some ⟨w1.heap.size,0,none⟩) 4 4 [.int .u8 80,.int .u8 78,.int .u8 67,.int .u8 72] rfl (λ h=>by cases h) rfl (λ b hb j u h=>by injection hb with e; rw [<- e]; exact HC1.out _ j u h) ⟨w2.heap.size,0,none⟩ 4 4 [.int .u8 1,.int .u8 L,.int .u8 0,.int .u8 0] rfl rfl HC2.out (by simp [Value.oneCell']) (by decide) (by decide) (by decide) ?_; intro v4 w4 ho4 hg4; have HR4:=Lib.hid (And.intro ho4 hg4); clear ho4 hg4)
 have hr4 : (Kd.int .u8).R 5 w4 (w2.alloc (.cells #[.int .u8 1,.int .u8 L,.int .u8 0,.int .u8 0] 5)).heap.size (λ _=>True) v4 (headL L):=Kd.R_of_own (h1:=λ _=>rfl) HR4.out.1 (λ _ _=>trivial)
 obtain ⟨A4,c4,rfl⟩:=Kd.R_slice hr4
 have H4:=Lib.hid (Kd.R_lower hr4 (Nat.le_trans HB.out.size HB2.out.size))
 have HB4 : Hid (Below w.heap.size w w4):=Lib.hid (b2T (a0k HB.out HB2.out) HR4.out.2 (λ k hk=>by cases hk) (Nat.le_trans HB.out.size HB2.out.size))
 clear hr4
 go_ret2
 exact ⟨A4,c4,rfl,H4.out,HB4.out⟩
end Go.Proofs.YtflfjpkmjnnodaaGreat
namespace Go.Proofs.YtflfjpkmjnnodaaGreat
open Go.RowKit
theorem a4y (s : Nat) : ∀ n l : Nat,nBlks s n l <= n + 1
 | 0,_=>Nat.le_refl _
 | n + 1,l=>by
  unfold nBlks
  have:=a4y s n (l - s)
  split <;> omega
theorem c9P {L : Nat} (hL : L <= 17) {x : List Int} (hb : Bytes x) (hl : x.length <= 131072) : Bytes (goneL L x):=by
 unfold goneL
 refine a1K (λ y hy=>?_) (b0K _ _ hb hl)
 simp [headL] at hy; omega
theorem a4z (L : Nat) (x : List Int) : (leftL L x).length <= x.length:=(b6Z (Nat.two_pow_pos L) x.length x (Nat.le_refl _)).2.1
theorem b1j (L : Nat) {x : List Int} (h : Bytes x) : Bytes (leftL L x):=b7a _ _ h
theorem b1l {L : Nat} (hL : L <= 17) {x : List Int} (hb : Bytes x) (hl : x.length <= 40000) : Bytes (encM x L):=by
 rw [b0M]
 exact a1K (c9P hL hb (by omega)) (a1K (a7P (b1j L hb) (by have:=a4z L x; omega) true) (a5h _ _))
open Go.IntWalk Go.Proofs.YtflfjpkmjnnodaaGreatW.PrintWords
theorem BSl.from_ {w : World} {A : Option Addr} {c : Nat} {p : List Int} (h : BSl w A c p) {k : Nat} (hk : k <= p.length) : BSl w (if c = k then A else A.map (·.add (k * 1))) (c - k) (p.drop k):=
 ⟨Kd.C_drop h.row hk h.cap,by rw [List.length_drop]; have:=h.cap; omega,λ ha=>by
  have h0 : A = none:=by
   split at ha
   · exact ha
   · exact Option.map_eq_none_iff.1 ha
  have:=h.nil h0; omega,λ x hx=>h.by' x (List.mem_of_mem_drop hx)⟩
def slN : Value -> Nat
 | .slice _ n _=>n
 | _=>0
theorem c9S {s m : Nat} {r : List Int} (hs : 0 < s) (h : r.length <= m) (hl : s < r.length) : ∃ m',blksM s m r = putM (r.take s) false ++ blksM s m' (r.drop s) /\ (r.drop s).length <= m':=by
 obtain ⟨m,rfl⟩ : ∃ j,m = j + 1:=⟨m - 1,by omega⟩
 refine ⟨m,?_,by rw [List.length_drop]; omega⟩
 conv=>lhs; unfold blksM
 rw [if_pos hl]
theorem c9T {s : Nat} {r : List Int} (hl : ¬ s < r.length) : ∀ m,blksM s m r = putM r true
 | 0=>rfl
 | m + 1=>by unfold blksM; rw [if_neg hl]
theorem c9U (s : Nat) {x : List Int} (hl : x.length <= 40000) (L : Nat) : (headL L ++ blksM s x.length x).length <= 1000000:=by
 have h:=(a7R s x.length x).2
 have h2:=a4y s x.length x.length
 rw [List.length_append,a2M]
 omega
set_option maxRecDepth 100000 in
set_option maxHeartbeats 2000000 in
theorem a6l (A : Option Addr) (c : Nat) (x : List Int) (L : Nat) (w : World) (hx : BSl w A c x) (hl : x.length <= 40000) (hL : 10 <= L /\ L <= 17) :
    Calls Tryz.prog 40 #[.slice A x.length c,.int .i64 L] w (Told 0 (encM x L) w):=by
 obtain ⟨s,hs⟩ : ∃ s : Nat,s = 2 ^ L:=⟨_,rfl⟩
 have hsI : (2 : Int) ^ L = (s : Int):=by rw [hs]; simp
 have hL0 : ¬ (L : Int) < 0:=by omega
 have hs2 : s <= 131072:=by rw [hs]; exact Nat.le_trans (Nat.pow_le_pow_right (by decide : 2 > 0) hL.2) (by decide)
 have hs1 : 1024 <= s:=by rw [hs]; exact Nat.le_trans (by decide) (Nat.pow_le_pow_right (by decide : 2 > 0) hL.1)
 have hsw : IntKind.i64.wrap (s : Int) = (s : Int):=i64_in _ (by omega)
 have d1 : decide ((1073741824 : Int) < (x.length : Int)) = false:=decide_eq_false (by omega)
 have hTl:=c9U s hl L
 obtain ⟨T,hT⟩ : ∃ T,T = headL L ++ blksM s x.length x:=⟨_,rfl⟩
 have HE : Hid (encM x L = T ++ tailL x):=Lib.hid (by rw [hT,hs]; unfold encM; rw [List.append_assoc])
 rw [<- hT] at hTl
 have HT:=Lib.hid (And.intro hT hTl)
 have HX:=Lib.hid (And.intro hx hl)
 have HL:=Lib.hid hL
 clear hx hTl hT hs
 go_enter Tryz.func40,Tryz.ntmps40
 go_wp2_with fail
 refine (a8f L w hL).mono ?_
 rintro e w1 ⟨A1,c1,rfl,hr1,hb1⟩
 have H1:=Lib.hid (And.intro hr1 hb1)
 clear hr1 hb1
 go_wp2_with fail
 go_loopw [6,9,10,11] (λ ov rv _ _ wr=>∃ (Lo r : List Int) (m : Nat) (Ao Ar : Option Addr) (co cr : Nat),ov = .slice Ao Lo.length co /\ rv = .slice Ar r.length cr /\ Hid ((Kd.int .u8).R 5 wr w.heap.size (λ _=>True) (.slice Ao Lo.length co) Lo /\ Below w.heap.size w wr /\ BSl w Ar cr r /\ r.length <= m /\ r.length <= 40000 /\ Lo ++ blksM s m r = T)) (λ _ rv _ _ _=>slN rv)
 case atStart=>exact ⟨headL L,x,x.length,A1,A,c1,c,rfl,rfl,Lib.hid ⟨H1.out.1,H1.out.2,HX.out.1,Nat.le_refl _,HX.out.2,HT.out.1.symm⟩⟩
 case round=>
  obtain ⟨Lo,r,m,Ao,Ar,co,cr,rfl,rfl,H⟩:=hrel
  by_cases hlt : s < r.length
  · have hI : (s : Int) < (r.length : Int):=by omega
    obtain ⟨m',hm1,hm2⟩:=c9S (by omega) H.out.2.2.2.1 hlt
    have hsl:=a3L Ar r.length cr s (by omega) H.out.2.2.1.cap
    have hsf:=a2f Ar r.length cr s (by omega)
    have htl : (r.take s).length = s:=by rw [List.length_take]; omega
    have hdl : (r.drop s).length = r.length - s:=List.length_drop
    have HP:=Lib.hid (a5t Ar cr (r.take s) false wr ((H.out.2.2.1.cut (k:=s) (by omega)).below H.out.2.1).row (H.out.2.2.1.cut (k:=s) (by omega)).by' (by rw [htl]; have:=H.out.2.2.2.2.1; omega) (.inr (by omega)))
    rw [htl] at HP
    obtain ⟨y,hy⟩ : ∃ y,y = putM (r.take s) false:=⟨_,rfl⟩
    rw [<- hy] at HP hm1
    have HTl : Hid (Lo.length + y.length <= 1000000):=Lib.hid (by
     have h1:=HT.out.2
     rw [<- H.out.2.2.2.2.2,hm1,List.length_append,List.length_append] at h1
     omega)
    have HM:=Lib.hid (And.intro hm1 hm2)
    have HDr:=Lib.hid (H.out.2.2.1.from_ (k:=s) (by omega))
    obtain ⟨Ad,hAd⟩ : ∃ Ad,Ad = (if cr = s then Ar else Ar.map (·.add (s * 1))):=⟨_,rfl⟩
    rw [<- hAd] at HDr hsf
    obtain ⟨rd,hrd⟩ : ∃ rd,rd = r.drop s:=⟨_,rfl⟩
    rw [<- hrd] at HDr hdl HM
    have hrl : r.length - s = rd.length:=hdl.symm
    rw [hrl] at hsf
    have hrds : rd.length < r.length:=by omega
    clear hm1 hm2 htl hy hAd hrd hlt hrl hdl
    go_wp2_with fail
    refine HP.out.mono ?_
    rintro e w3 ⟨A3,c3,rfl,hr3,hb3⟩
    have HO3:=Lib.hid (Kd.R_below H.out.1 hb3)
    have HC3:=Lib.hid (Kd.R_reads' hr3).2.2
    have HB3:=Lib.hid (H.out.2.1.trans (hb3.mono H.out.2.1.size))
    have HZ3 : Hid (Lo.length + y.length <= 140737488355328):=Lib.hid (by have:=HTl.out; omega)
    clear hr3 hb3
    go_wp2_with (at_builtin; refine app8 rfl rfl rfl rfl HO3 HC3 HB3 HB3.out.size HZ3 ?_; intro A4 c4 w4 hr4 hb4 _; have HR4:=Lib.hid (And.intro hr4 hb4); clear hr4 hb4)
    go_roundw
    case rel=>exact ⟨Lo ++ y,rd,m',A4,Ad,c4,cr - s,by rw [List.length_append],rfl,Lib.hid ⟨by rw [List.length_append]; exact HR4.out.1,HR4.out.2,HDr.out,HM.out.2,by have:=H.out.2.2.2.2.1; omega,by rw [List.append_assoc,<- HM.out.1]; exact H.out.2.2.2.2.2⟩⟩
    case measure=>simp [slN]; omega
  · have hI : ¬ (s : Int) < (r.length : Int):=by omega
    have hm:=c9T hlt m
    have HP:=Lib.hid (a5t Ar cr r true wr (H.out.2.2.1.below H.out.2.1).row H.out.2.2.1.by' (by have:=H.out.2.2.2.2.1; omega) (.inl rfl))
    obtain ⟨y,hy⟩ : ∃ y,y = putM r true:=⟨_,rfl⟩
    rw [<- hy] at HP hm
    have hT2:=H.out.2.2.2.2.2
    rw [hm] at hT2
    have HT2:=Lib.hid hT2
    have HTl : Hid (Lo.length + y.length <= 140737488355328):=Lib.hid (by
     have h1:=HT.out.2
     rw [<- hT2,List.length_append] at h1
     omega)
    have HTm : Hid (Lo.length + y.length + 4 <= 140737488355328):=Lib.hid (by
     have h1:=HT.out.2
     rw [<- hT2,List.length_append] at h1
     omega)
    clear hm hy hlt hT2
    go_wp2_with fail
    refine HP.out.mono ?_
    rintro e w3 ⟨A3,c3,rfl,hr3,hb3⟩
    have HO3:=Lib.hid (Kd.R_below H.out.1 hb3)
    have HC3:=Lib.hid (Kd.R_reads' hr3).2.2
    have HB3:=Lib.hid (H.out.2.1.trans (hb3.mono H.out.2.1.size))
    clear hr3 hb3
    go_wp2_with (at_builtin; refine app8 rfl rfl rfl rfl HO3 HC3 HB3 HB3.out.size HTl ?_; intro A4 c4 w4 hr4 hb4 _; have HR4:=Lib.hid (And.intro hr4 hb4); clear hr4 hb4)
    refine (b7V A c x w4 (HX.out.1.below HR4.out.2).row (by omega) HX.out.1.by').mono ?_
    rintro e w5 ⟨A5,c5,rfl,hr5,hb5⟩
    have HO5:=Lib.hid (Kd.R_below HR4.out.1 hb5)
    have HC5 : Hid ((Kd.int .u8).C w5 A5 4 (tailL x)):=Lib.hid (by have:=(Kd.R_reads' hr5).2.2; rw [a1C] at this; exact this)
    have HB5:=Lib.hid (HR4.out.2.trans (hb5.mono HR4.out.2.size))
    have HL5 : Hid ((Lo ++ y).length + 4 <= 140737488355328):=Lib.hid (by rw [List.length_append]; exact HTm.out)
    clear hr5 hb5
    go_wp2_with (at_builtin; refine app8 rfl rfl rfl rfl HO5 HC5 HB5 HB5.out.size HL5 ?_; intro A6 c6 w6 hr6 hb6 _; have HR6:=Lib.hid (And.intro hr6 hb6); clear hr6 hb6)
    go_ret2
    have hfin : (encM x L).length = Lo.length + y.length + 4:=by rw [HE.out,<- HT2.out,List.length_append,List.length_append,a1C]
    have hT4 : T.length + 4 = (encM x L).length:=by rw [HE.out,List.length_append,a1C]
    refine ⟨A6,c6,?_,?_,HR6.out.2⟩
    · rw [hfin]; rfl
    · have h6:=HR6.out.1
      rw [HT2.out,<- HE.out,hT4] at h6
      exact h6
def someL (b : List Int) (fill : Int) (k : Nat) : List Int:=b ++ List.replicate k fill
theorem a6m (b : List Int) (fill : Int) (k : Nat) : (someL b fill k).length = b.length + k:=by simp [someL]
theorem b1m {b : List Int} (h : Bytes b) {fill : Int} (hf : 0 <= fill /\ fill < 256) (k : Nat) : Bytes (someL b fill k):=λ x hx=>by
 rcases List.mem_append.1 hx with h1 | h1
 · exact h x h1
 · rw [List.eq_of_mem_replicate h1]; exact hf
theorem c9V (b : List Int) (fill : Int) (k : Nat) : someL b fill (k + 1) = someL b fill k ++ [fill]:=by unfold someL; rw [List.replicate_succ',List.append_assoc]
set_option maxRecDepth 100000 in
set_option maxHeartbeats 1000000 in
theorem b8a (A : Option Addr) (c : Nat) (b : List Int) (fill : Int) (more : Nat) (w : World) (hb : BSl w A c b) (hl : b.length <= 60) (hf : 0 <= fill /\ fill < 256) (hm : more < 65536) :
    Calls Tryz.prog 39 #[.slice A b.length c,.int .u8 fill,.int .u16 more] w (λ e w'=>∃ A' c',e = .returned (.slice A' (b.length + more % 2600) c') /\ BSl w' A' c' (someL b fill (more % 2600)) /\ Below w.heap.size w w'):=by
 have HX:=Lib.hid hb
 have HF:=Lib.hid hf
 have hw1 : IntKind.i64.wrap (more : Int) = (more : Int):=i64_in _ (by omega)
 obtain ⟨N,hN⟩ : ∃ N,N = more % 2600:=⟨_,rfl⟩
 have hm1 : (more : Int).tmod 2600 = (N : Int):=by rw [Int.tmod_eq_emod_of_nonneg (by omega),hN]; simp
 have hm2 : (more : Int) % 2600 = (N : Int):=by rw [hN]; simp
 have hNl : N < 2600:=by rw [hN]; exact Nat.mod_lt _ (by decide)
 rw [<- hN]
 have HE0 : Hid ((Kd.int .u8).R 5 (w.alloc (.cells #[] 5)) w.heap.size (λ _=>True) (.slice (some ⟨w.heap.size,0,none⟩) 0 0) []):=a2j .u8 5 w w.heap.size (λ _=>True) trivial (Nat.le_refl _) [] (by decide)
 have HB0 : Hid (Below w.heap.size w (w.alloc (.cells #[] 5))):=(Below.refl _ _).alloc (Nat.le_refl _) _
 have HRow0 : Hid ((Kd.int .u8).C (w.alloc (.cells #[] 5)) A b.length b):=Kd.C_alloc hb.row _
 have HL0 : Hid (([] : List Int).length + b.length <= 140737488355328):=Lib.hid (by simp; omega)
 have HN:=Lib.hid hN
 clear hb hf hN
 go_enter Tryz.func39,Tryz.ntmps39
 go_wp2_with (at_builtin; refine app8 rfl rfl rfl rfl HE0 HRow0 HB0 HB0.out.size HL0 ?_; intro A4 c4 w4 hr4 hb4 _; have HR4:=Lib.hid (And.intro hr4 hb4); clear hr4 hb4)
 go_loopw [7,8] (λ ov kv wr=>∃ (i : Nat) (Ao : Option Addr) (co : Nat),i <= N /\ ov = .slice Ao (b.length + i) co /\ kv = .int .i64 i /\ Hid ((Kd.int .u8).R 5 wr w.heap.size (λ _=>True) (.slice Ao (b.length + i) co) (someL b fill i) /\ Below w.heap.size w wr)) (λ _ kv _=>N - (intOf kv).toNat)
 case atStart=>exact ⟨0,A4,c4,by omega,by simp,rfl,Lib.hid ⟨by have:=HR4.out.1; simpa [someL] using this,HR4.out.2⟩⟩
 case round=>
  obtain ⟨i,Ao,co,hi,rfl,rfl,H⟩:=hrel
  by_cases hlt : i < N
  · have hI : (i : Int) < (N : Int):=by omega
    have HO:=Lib.hid H.out.1
    have HB:=Lib.hid H.out.2
    have HLn : Hid ((someL b fill i).length + 1 <= 140737488355328):=Lib.hid (by rw [a6m]; omega)
    have HNx:=Lib.hid (c9V b fill i)
    clear hlt
    go_wp2_with (at_builtin; refine app8i rfl rfl rfl rfl HO HB HB.out.size HLn ?_; intro A1 c1 w3 hr3 hb3 _; have HA:=Lib.hid (And.intro hr3 hb3); clear hr3 hb3)
    go_roundw
    case rel=>exact ⟨i + 1,A1,c1,by omega,by rw [a6m]; rfl,by go_num,Lib.hid ⟨by have:=HA.out.1; rw [a6m] at this; rw [HNx.out]; exact this,HA.out.2⟩⟩
    case measure=>simp [intOf]; omega
  · obtain rfl : i = N:=by omega
    go_wp2_with fail
    go_ret
    exact ⟨Ao,co,rfl,BSl.of H.out.1 (b1m HX.out.by' HF.out _),H.out.2⟩
end Go.Proofs.YtflfjpkmjnnodaaGreat
namespace Go.Proofs.YtflfjpkmjnnodaaGreat
open Go.RowKit
theorem b8b {ps : List Int} {T : Nat} : ∀ (f at_ n most : Nat),(runT ps T f at_ n most).1 ≠ 16
 | 0,_,_,_=>by show (3 : Int) ≠ 16; decide
 | f + 1,at_,n,most=>by
  unfold runT
  split
  · show (3 : Int) ≠ 16; decide
  · split
    · show (13 : Int) ≠ 16; decide
    · split
      · exact b8b f _ _ _
      · show (0 : Int) ≠ 16; decide
theorem b1n {ps : List Int} {T : Nat} : ∀ (d : Nat) (q : List Int) (s left : Nat) (again : Bool) (at_ : Nat),(hdrT ps T d q s left again at_).1 ≠ 16
 | 0,_,_,_,_,_=>by show (13 : Int) ≠ 16; decide
 | d + 1,q,s,left,again,at_=>by
  unfold hdrT
  repeat' split
  all_goals first
   | (show (13 : Int) ≠ 16; decide)
   | (show (3 : Int) ≠ 16; decide)
   | (show (0 : Int) ≠ 16; decide)
   | exact b8b _ _ _ _
   | exact b1n d _ _ _ _ _
theorem b8c {one : Bool} {qs : List (List Int)} {ps : List Int} : ∀ (n i : Nat) (la x0 x1 : Int) (left : Nat) (out : List Int),(decGo one qs ps n i la x0 x1 left out).1 ≠ 16
 | 0,i,la,x0,x1,left,out=>by
  unfold decGo
  split
  · show (0 : Int) ≠ 16; decide
  · show (14 : Int) ≠ 16; decide
 | n + 1,i,la,x0,x1,left,out=>by
  unfold decGo
  dsimp only
  split
  · show (13 : Int) ≠ 16; decide
  · split
    · show (3 : Int) ≠ 16; decide
    · exact b8c n _ _ _ _ _ _
theorem b8d {lg : Int} {one : Bool} {qs : List (List Int)} {ps : List Int} {n : Int} : (decM lg one qs ps n).1 ≠ 16:=by
 unfold decM
 repeat' split
 all_goals first
  | (show (1 : Int) ≠ 16; decide)
  | (show (2 : Int) ≠ 16; decide)
  | (show (3 : Int) ≠ 16; decide)
  | exact b8c _ _ _ _ _ _ _
theorem c9W {ps : List Int} : (a0w ps).1 ≠ 16:=by
 unfold a0w
 dsimp only
 repeat' split
 all_goals first
  | (show (3 : Int) ≠ 16; decide)
  | (show (13 : Int) ≠ 16; decide)
  | (show (4 : Int) ≠ 16; decide)
  | (show (0 : Int) ≠ 16; decide)
  | exact b1n _ _ _ _ _ _
theorem b8e {ps : List Int} {r : Nat} : ∀ (l : List Int) (qs : List (List Int)) (at_ : Nat),(hdrsT ps r l qs at_).1 ≠ 16
 | [],_,_=>by show (0 : Int) ≠ 16; decide
 | c :: l,qs,at_=>by
  unfold hdrsT
  split
  · exact b1n _ _ _ _ _ _
  · exact b8e l _ _
theorem c9X {ps : List Int} : (dirT ps).1 ≠ 16:=by
 unfold dirT
 repeat' split
 all_goals first
  | (show (3 : Int) ≠ 16; decide)
  | (show (13 : Int) ≠ 16; decide)
  | (show (0 : Int) ≠ 16; decide)
theorem c9Y {ps : List Int} : (a0D ps).1 ≠ 16:=by
 unfold a0D
 repeat' split
 all_goals first
  | (show (3 : Int) ≠ 16; decide)
  | (show (13 : Int) ≠ 16; decide)
  | (show (4 : Int) ≠ 16; decide)
  | (show (0 : Int) ≠ 16; decide)
  | exact c9X
  | exact b8e _ _ _
theorem b8f {k n l : Int} : a0C k n l ≠ 16:=by
 unfold a0C
 repeat' split
 all_goals decide
theorem c9Z {k : Int} {b : List Int} {n : Int} : (pickD k b n).1 ≠ 16:=by
 unfold pickD
 split
 · exact b8f
 · split
   · unfold a2Y
     repeat' split
     all_goals first
      | (show (1 : Int) ≠ 16; decide)
      | (show (11 : Int) ≠ 16; decide)
      | (show (0 : Int) ≠ 16; decide)
   · split
     · unfold dec0M
       split
       · exact c9W
       · exact b8d
     · unfold dec1M
       split
       · exact c9Y
       · exact b8d
theorem d0a {f : List Int} {log room : Int} {first : Bool} : (scanM f log first room).1 ≠ 16:=by
 unfold scanM
 repeat' split
 all_goals first
  | (show (1 : Int) ≠ 16; decide)
  | (show (3 : Int) ≠ 16; decide)
  | (show (10 : Int) ≠ 16; decide)
  | (show (11 : Int) ≠ 16; decide)
  | (show (7 : Int) ≠ 16; decide)
  | (show (0 : Int) ≠ 16; decide)
  | exact b8f
theorem d0b {f : List Int} {log room : Int} {first : Bool} : (openM f log first room).1 ≠ 16:=by
 unfold openM
 repeat' split
 all_goals first
  | exact d0a
  | exact c9Z
  | (show (3 : Int) ≠ 16; decide)
  | (show (12 : Int) ≠ 16; decide)
  | (show (0 : Int) ≠ 16; decide)
theorem d0c (i : Nat) (c : Int) : headE i c ≠ 16:=by
 unfold headE
 repeat' split
 all_goals decide
theorem b8g {f : List Int} : ∀ (d i : Nat),headG f d i ≠ 16
 | 0,_=>by show (0 : Int) ≠ 16; decide
 | d + 1,i=>by
  unfold headG
  split
  · decide
  · split
    · exact d0c _ _
    · exact b8g d _
theorem d0d {f : List Int} : headM f ≠ 16:=b8g 8 0
open Go.IntWalk Go.Proofs.YtflfjpkmjnnodaaGreatW.PrintWords
theorem b8h {f : List Int} {i : Nat} (d : Nat) (h : i < f.length) : headG f (d + 1) i = if headE i (f.getD i 0) ≠ 0 then headE i (f.getD i 0) else headG f d (i + 1):=by
 conv=>lhs; unfold headG
 rw [if_neg (by omega)]
theorem a3Q {f : List Int} {i d : Nat} {k : Int} (h : i < f.length) (he : headE i (f.getD i 0) = k) (hk : k ≠ 0) : headG f (d + 1) i = k:=by
 rw [b8h d h,he,if_pos hk]
theorem a3R {f : List Int} {i d : Nat} (h : i < f.length) (he : headE i (f.getD i 0) = 0) : headG f (d + 1) i = headG f d (i + 1):=by
 rw [b8h d h,he,if_neg (by decide)]
def a2g (f : List Int) : Int:=if headM f = 0 then f.getD 5 0 else 0
theorem a3v {f : List Int} {k : Int} (h : headM f = k) (hk : k ≠ 0) : a2g f = 0:=by unfold a2g; rw [h,if_neg hk]
set_option maxRecDepth 100000 in
set_option maxHeartbeats 4000000 in
theorem b8i (A : Option Addr) (c : Nat) (f : List Int) (w : World) (hf : BSl w A c f) (hl : f.length <= 1000000) :
    Calls Tryz.prog 97 #[.slice A f.length c] w (λ e w'=>e = .returned (.tuple #[.int .i64 (a2g f),.int .i64 (headM f)]) /\ Below w.heap.size w w'):=by
 have HF:=Lib.hid hf
 obtain ⟨n,hn⟩ : ∃ n,n = f.length:=⟨_,rfl⟩
 rw [<- hn] at hl ⊢
 have HN:=Lib.hid hn
 clear hf hn
 go_enter Tryz.func97,Tryz.ntmps97
 go_wp2_with fail
 go_loopw [2,4,5,6,17,26,33,42,49] (λ lv _ _ kv _ _ _ _ _ wr=>∃ i : Nat,i <= 8 /\ kv = .int .i64 i /\ lv = .int .i64 (if 5 < i then f.getD 5 0 else 0) /\ Hid (headG f (8 - i) i = headM f /\ Below w.heap.size w wr /\ i <= f.length)) (λ _ _ _ kv _ _ _ _ _ _=>8 - (intOf kv).toNat)
 case atStart=>exact ⟨0,by omega,rfl,rfl,Lib.hid ⟨rfl,Below.refl _ _,Nat.zero_le _⟩⟩
 case round=>
  obtain ⟨i,hi,rfl,rfl,H⟩:=hrel
  by_cases hlt : i < 8
  · by_cases hle : i < n
    · obtain ⟨ad,hA,hcx⟩:=a0x (Kd.C_below HF.out.row H.out.2.1) i (by have:=HN.out; omega)
      subst hA
      have hbx:=HF.out.by'.get i
      obtain ⟨x,hx⟩ : ∃ x,x = f.getD i 0:=⟨_,rfl⟩
      rw [<- hx] at hcx hbx
      have HX:=Lib.hid hx
      have HL:=Lib.hid (show i < f.length by have:=HN.out; omega)
      have hi8 : i = 0 \/ i = 1 \/ i = 2 \/ i = 3 \/ i = 4 \/ i = 5 \/ i = 6 \/ i = 7:=by omega
      clear hx hi hlt
      rcases hi8 with rfl | rfl | rfl | rfl | rfl | rfl | rfl | rfl
      · have hI : ¬ n = 0:=by omega
        have e0 : ad.add 0 = ad:=by simp [Addr.add]
        rw [e0] at hcx
        have hmg : (((ByteArray.mk #[80,78,67,72])[0]'(by decide)).toNat : Int) = 80:=rfl
        by_cases hx : x = 80
        · have he : headE 0 (f.getD 0 0) = 0:=by rw [<- HX.out,hx]; decide
          have HE:=Lib.hid (a3R (d:=7) HL.out he)
          have hq : (x != 80) = false:=by rw [hx]; rfl
          clear he hle hx
          go_wp2_with fail
          go_roundw
          case rel=>exact ⟨0 + 1,by omega,by go_num,rfl,Lib.hid ⟨by rw [<- HE.out]; exact H.out.1,H.out.2.1,HL.out⟩⟩
          case measure=>first | (simp [intOf]; done) | (simp [intOf]; omega)
        · have he : headE 0 (f.getD 0 0) = 8:=by
            rw [<- HX.out]; unfold headE; rw [if_pos ⟨by decide,hx⟩]
          have HE:=Lib.hid (a3Q (d:=7) HL.out he (by decide))
          have hq : (x != 80) = true:=by simpa using hx
          clear he hle hx
          go_wp2_with fail
          go_ret2
          have hM : headM f = 8:=by rw [<- H.out.1]; exact HE.out
          rw [a3v hM (by decide),hM]
          exact ⟨rfl,H.out.2.1⟩
      · have hI : ¬ (n : Int) <= 1:=by omega
        have e1 : ad.add 1 = ⟨ad.block,ad.off + 1,none⟩:=rfl
        rw [e1] at hcx
        have hmg : (((ByteArray.mk #[80,78,67,72])[1]'(by decide)).toNat : Int) = 78:=rfl
        by_cases hx : x = 78
        · have he : headE 1 (f.getD 1 0) = 0:=by rw [<- HX.out,hx]; decide
          have HE:=Lib.hid (a3R (d:=6) HL.out he)
          have hq : (x != 78) = false:=by rw [hx]; rfl
          clear he hle hx
          go_wp2_with fail
          go_roundw
          case rel=>exact ⟨1 + 1,by omega,by go_num,rfl,Lib.hid ⟨by rw [<- HE.out]; exact H.out.1,H.out.2.1,HL.out⟩⟩
          case measure=>first | (simp [intOf]; done) | (simp [intOf]; omega)
        · have he : headE 1 (f.getD 1 0) = 8:=by
            rw [<- HX.out]; unfold headE; rw [if_pos ⟨by decide,hx⟩]
          have HE:=Lib.hid (a3Q (d:=6) HL.out he (by decide))
          have hq : (x != 78) = true:=by simpa using hx
          clear he hle hx
          go_wp2_with fail
          go_ret2
          have hM : headM f = 8:=by rw [<- H.out.1]; exact HE.out
          rw [a3v hM (by decide),hM]
          exact ⟨rfl,H.out.2.1⟩
      · have hI : ¬ (n : Int) <= 2:=by omega
        have e1 : ad.add 2 = ⟨ad.block,ad.off + 2,none⟩:=rfl
        rw [e1] at hcx
        have hmg : (((ByteArray.mk #[80,78,67,72])[2]'(by decide)).toNat : Int) = 67:=rfl
        by_cases hx : x = 67
        · have he : headE 2 (f.getD 2 0) = 0:=by rw [<- HX.out,hx]; decide
          have HE:=Lib.hid (a3R (d:=5) HL.out he)
          have hq : (x != 67) = false:=by rw [hx]; rfl
          clear he hle hx
          go_wp2_with fail
          go_roundw
          case rel=>exact ⟨2 + 1,by omega,by go_num,rfl,Lib.hid ⟨by rw [<- HE.out]; exact H.out.1,H.out.2.1,HL.out⟩⟩
          case measure=>first | (simp [intOf]; done) | (simp [intOf]; omega)
        · have he : headE 2 (f.getD 2 0) = 8:=by
            rw [<- HX.out]; unfold headE; rw [if_pos ⟨by decide,hx⟩]
          have HE:=Lib.hid (a3Q (d:=5) HL.out he (by decide))
          have hq : (x != 67) = true:=by simpa using hx
          clear he hle hx
          go_wp2_with fail
          go_ret2
          have hM : headM f = 8:=by rw [<- H.out.1]; exact HE.out
          rw [a3v hM (by decide),hM]
          exact ⟨rfl,H.out.2.1⟩
      · have hI : ¬ (n : Int) <= 3:=by omega
        have e1 : ad.add 3 = ⟨ad.block,ad.off + 3,none⟩:=rfl
        rw [e1] at hcx
        have hmg : (((ByteArray.mk #[80,78,67,72])[3]'(by decide)).toNat : Int) = 72:=rfl
        by_cases hx : x = 72
        · have he : headE 3 (f.getD 3 0) = 0:=by rw [<- HX.out,hx]; decide
          have HE:=Lib.hid (a3R (d:=4) HL.out he)
          have hq : (x != 72) = false:=by rw [hx]; rfl
          clear he hle hx
          go_wp2_with fail
          go_roundw
          case rel=>exact ⟨3 + 1,by omega,by go_num,rfl,Lib.hid ⟨by rw [<- HE.out]; exact H.out.1,H.out.2.1,HL.out⟩⟩
          case measure=>first | (simp [intOf]; done) | (simp [intOf]; omega)
        · have he : headE 3 (f.getD 3 0) = 8:=by
            rw [<- HX.out]; unfold headE; rw [if_pos ⟨by decide,hx⟩]
          have HE:=Lib.hid (a3Q (d:=4) HL.out he (by decide))
          have hq : (x != 72) = true:=by simpa using hx
          clear he hle hx
          go_wp2_with fail
          go_ret2
          have hM : headM f = 8:=by rw [<- H.out.1]; exact HE.out
          rw [a3v hM (by decide),hM]
          exact ⟨rfl,H.out.2.1⟩
      · have hI : ¬ (n : Int) <= 4:=by omega
        have e1 : ad.add 4 = ⟨ad.block,ad.off + 4,none⟩:=rfl
        rw [e1] at hcx
        by_cases hx : x = 1
        · have he : headE 4 (f.getD 4 0) = 0:=by rw [<- HX.out,hx]; decide
          have HE:=Lib.hid (a3R (d:=3) HL.out he)
          have hq : (x != 1) = false:=by rw [hx]; rfl
          clear he hle hx
          go_wp2_with fail
          go_roundw
          case rel=>exact ⟨4 + 1,by omega,by go_num,rfl,Lib.hid ⟨by rw [<- HE.out]; exact H.out.1,H.out.2.1,HL.out⟩⟩
          case measure=>first | (simp [intOf]; done) | (simp [intOf]; omega)
        · have he : headE 4 (f.getD 4 0) = 9:=by
            rw [<- HX.out]; unfold headE; rw [if_neg (by omega),if_pos ⟨rfl,hx⟩]
          have HE:=Lib.hid (a3Q (d:=3) HL.out he (by decide))
          have hq : (x != 1) = true:=by simpa using hx
          clear he hle hx
          go_wp2_with fail
          go_ret2
          have hM : headM f = 9:=by rw [<- H.out.1]; exact HE.out
          rw [a3v hM (by decide),hM]
          exact ⟨rfl,H.out.2.1⟩
      · have hI : ¬ (n : Int) <= 5:=by omega
        have e1 : ad.add 5 = ⟨ad.block,ad.off + 5,none⟩:=rfl
        rw [e1] at hcx
        have hw64 : IntKind.i64.wrap x = x:=i64_in _ (by omega)
        have HG:=Lib.hid (b1i x wr)
        cases hp : logP x with
        | true=>
         have he : headE 5 (f.getD 5 0) = 0:=by
          rw [<- HX.out]
          have:=logP_iff.1 hp
          simp [headE,this]
         have HE:=Lib.hid (a3R (d:=2) HL.out he)
         clear he hle
         go_wp2_with fail
         refine HG.out.mono ?_
         rintro e w2 ⟨rfl,hd⟩
         rw [hp]
         have HB:=Lib.hid (H.out.2.1.trans (hd.below.mono H.out.2.1.size))
         clear hd
         go_wp2_with fail
         go_roundw
         case rel=>exact ⟨5 + 1,by omega,by go_num,by rw [if_pos (by decide),<- HX.out],Lib.hid ⟨by rw [<- HE.out]; exact H.out.1,HB.out,HL.out⟩⟩
         case measure=>first | (simp [intOf]; done) | (simp [intOf]; omega)
        | false=>
         have he : headE 5 (f.getD 5 0) = 5:=by
          rw [<- HX.out]
          have h5 : ¬ (10 <= x /\ x <= 17):=λ h=>by rw [logP_iff.2 h] at hp; cases hp
          unfold headE
          rw [if_neg (by omega),if_neg (by omega),if_pos ⟨rfl,h5⟩]
         have HE:=Lib.hid (a3Q (d:=2) HL.out he (by decide))
         clear he hle
         go_wp2_with fail
         refine HG.out.mono ?_
         rintro e w2 ⟨rfl,hd⟩
         rw [hp]
         have HB:=Lib.hid (H.out.2.1.trans (hd.below.mono H.out.2.1.size))
         clear hd
         go_wp2_with fail
         go_ret2
         have hM : headM f = 5:=by rw [<- H.out.1]; exact HE.out
         rw [a3v hM (by decide),hM]
         exact ⟨rfl,HB.out⟩
      · have hI : ¬ (n : Int) <= 6:=by omega
        have e1 : ad.add 6 = ⟨ad.block,ad.off + 6,none⟩:=rfl
        rw [e1] at hcx
        by_cases hx : x = 0
        · have he : headE 6 (f.getD 6 0) = 0:=by rw [<- HX.out,hx]; decide
          have HE:=Lib.hid (a3R (d:=1) HL.out he)
          have hq : (x != 0) = false:=by rw [hx]; rfl
          clear he hle hx
          go_wp2_with fail
          go_roundw
          case rel=>exact ⟨6 + 1,by omega,by go_num,rfl,Lib.hid ⟨by rw [<- HE.out]; exact H.out.1,H.out.2.1,HL.out⟩⟩
          case measure=>first | (simp [intOf]; done) | (simp [intOf]; omega)
        · have he : headE 6 (f.getD 6 0) = 4:=by
            rw [<- HX.out]; unfold headE; rw [if_neg (by omega),if_neg (by omega),if_neg (by omega),if_pos ⟨by decide,hx⟩]
          have HE:=Lib.hid (a3Q (d:=1) HL.out he (by decide))
          have hq : (x != 0) = true:=by simpa using hx
          clear he hle hx
          go_wp2_with fail
          go_ret2
          have hM : headM f = 4:=by rw [<- H.out.1]; exact HE.out
          rw [a3v hM (by decide),hM]
          exact ⟨rfl,H.out.2.1⟩
      · have hI : ¬ (n : Int) <= 7:=by omega
        have e1 : ad.add 7 = ⟨ad.block,ad.off + 7,none⟩:=rfl
        rw [e1] at hcx
        by_cases hx : x = 0
        · have he : headE 7 (f.getD 7 0) = 0:=by rw [<- HX.out,hx]; decide
          have HE:=Lib.hid (a3R (d:=0) HL.out he)
          have hq : (x != 0) = false:=by rw [hx]; rfl
          clear he hle hx
          go_wp2_with fail
          go_roundw
          case rel=>exact ⟨7 + 1,by omega,by go_num,rfl,Lib.hid ⟨by rw [<- HE.out]; exact H.out.1,H.out.2.1,HL.out⟩⟩
          case measure=>first | (simp [intOf]; done) | (simp [intOf]; omega)
        · have he : headE 7 (f.getD 7 0) = 4:=by
            rw [<- HX.out]; unfold headE; rw [if_neg (by omega),if_neg (by omega),if_neg (by omega),if_pos ⟨by decide,hx⟩]
          have HE:=Lib.hid (a3Q (d:=0) HL.out he (by decide))
          have hq : (x != 0) = true:=by simpa using hx
          clear he hle hx
          go_wp2_with fail
          go_ret2
          have hM : headM f = 4:=by rw [<- H.out.1]; exact HE.out
          rw [a3v hM (by decide),hM]
          exact ⟨rfl,H.out.2.1⟩
    · have hI : (n : Int) <= (i : Int):=by omega
      have hM : headM f = 3:=by
       rw [<- H.out.1,show 8 - i = (7 - i) + 1 by omega]
       unfold headG
       rw [if_pos (by have:=HN.out; omega)]
      have HM:=Lib.hid hM
      clear hM hle
      go_wp2_with fail
      go_ret2
      rw [a3v HM.out (by decide),HM.out]
      exact ⟨rfl,H.out.2.1⟩
  · obtain rfl : i = 8:=by omega
    have hM : headM f = 0:=by rw [<- H.out.1]; rfl
    have HM:=Lib.hid hM
    clear hM hlt
    go_wp2_with fail
    go_ret2
    unfold a2g
    rw [HM.out,if_pos rfl]
    exact ⟨rfl,H.out.2.1⟩
set_option maxRecDepth 100000 in
set_option maxHeartbeats 1000000 in
theorem d0e (A : Option Addr) (c : Nat) (b : List Int) (w : World) (hr : (Kd.int .u8).C w A b.length b) (hl : b.length <= 131072) (hb : Bytes b) :
    Calls Tryz.prog 179 #[.int .i64 0,.slice A b.length c,.int .i64 b.length] w (Told 0 b w):=by
 have HR:=Lib.hid (And.intro hr (And.intro hl hb))
 have d1 : decide ((b.length : Int) < 0) = false:=decide_eq_false (by omega)
 have d2 : decide ((131072 : Int) < (b.length : Int)) = false:=decide_eq_false (by omega)
 clear hr hl hb
 go_enter Tryz.func179,Tryz.ntmps179
 go_wp2_with fail
 refine (a6j 0 w).mono ?_
 rintro e w' ⟨rfl,rfl⟩
 go_wp2_with fail
 go_loopw [8,9,45] (λ v _ kv wr=>∃ i : Nat,i <= b.length /\ kv = .int .i64 i /\ Hid ((Kd.int .u8).R 5 wr w.heap.size (λ _=>True) v (b.take i) /\ Below w.heap.size w wr)) (λ _ _ kv _=>b.length - (intOf kv).toNat)
 case atStart=>exact ⟨0,by omega,rfl,Lib.hid ⟨by rw [List.take_zero]; exact Kd.R_nil _ _ _ _ _,Below.refl _ _⟩⟩
 case round=>
  obtain ⟨i,hi,rfl,H⟩:=hrel
  by_cases hlt : i < b.length
  · obtain ⟨Av,cv,rfl⟩:=Kd.R_slice H.out.1
    obtain ⟨ad,hA,hcx⟩:=a0x (Kd.C_below HR.out.1 H.out.2) i hlt
    subst hA
    obtain ⟨y,hy⟩ : ∃ y,y = b.getD i 0:=⟨_,rfl⟩
    rw [<- hy] at hcx
    have hl6 : b.length <= 131072:=HR.out.2.1
    have hI : (i : Int) < (b.length : Int):=by omega
    have HN : Hid (b.take (i + 1) = b.take i ++ [y]):=Lib.hid (by rw [List.take_succ_eq_append_getElem hlt,hy,List.getD_eq_getElem?_getD,List.getElem?_eq_getElem hlt]; rfl)
    obtain ⟨L,hL⟩ : ∃ L,L = b.take i:=⟨_,rfl⟩
    have hLl : L.length = i:=by rw [hL,List.length_take]; omega
    rw [<- hL] at H HN ⊢
    have HLn : Hid ((L.length + 1) * 1 <= 140737488355328):=Lib.hid (by omega)
    have HS:=Lib.hid H.out.2.size
    clear hy hL
    go_wp2_with (at_builtin; refine Kd.R_append (Kd.int .u8) (w0:=w) (W:=wr) w.heap.size rfl (.tmp 48) (.tmp 56) 22 5 (.int .u8 0) 1 rfl Tryz.underlying22 a0E rfl (by decide) (by decide) _ _ y [.int .u8 y] (λ _=>True) (λ _=>False) rfl rfl rfl (λ _ h=>h.elim) (λ _ _=>trivial) H.out.1 H.out.2 HS.out HLn.out ?_; intro v1 w3 hr3 hb3 hg3 hat3; have HA:=Lib.hid (And.intro hr3 hb3); clear hr3 hb3 hg3 hat3)
    go_roundw
    case rel=>exact ⟨i + 1,by omega,by go_num,Lib.hid ⟨by rw [HN.out]; exact HA.out.1,HA.out.2⟩⟩
    case measure=>simp [intOf]; omega
  · obtain rfl : i = b.length:=by omega
    obtain ⟨Av,cv,rfl⟩:=Kd.R_slice H.out.1
    go_wp2_with fail
    go_ret2
    have h1:=H.out.1
    rw [List.take_length] at h1
    rw [List.take_length]
    exact ⟨Av,cv,rfl,h1,H.out.2⟩
set_option maxRecDepth 100000 in
set_option maxHeartbeats 1000000 in
theorem d0f (A : Option Addr) (c : Nat) (x : Int) (N : Nat) (w : World) (hr : (Kd.int .u8).C w A 1 [x]) (hl : N <= 131072) (h2 : 2 <= N) :
    Calls Tryz.prog 179 #[.int .i64 1,.slice A 1 c,.int .i64 N] w (Told 0 (List.replicate N x) w):=by
 have HR:=Lib.hid (And.intro hr (And.intro hl h2))
 have d3 : decide ((N : Int) < 2) = false:=decide_eq_false (by omega)
 have d1 : decide ((N : Int) < 0) = false:=decide_eq_false (by omega)
 have d2 : decide ((131072 : Int) < (N : Int)) = false:=decide_eq_false (by omega)
 clear hr hl h2
 go_enter Tryz.func179,Tryz.ntmps179
 go_wp2_with fail
 refine (a6j 1 w).mono ?_
 rintro e w' ⟨rfl,rfl⟩
 go_wp2_with fail
 go_loopw [8,9,45] (λ v _ kv wr=>∃ i : Nat,i <= N /\ kv = .int .i64 i /\ Hid ((Kd.int .u8).R 5 wr w.heap.size (λ _=>True) v (List.replicate i x) /\ Below w.heap.size w wr)) (λ _ _ kv _=>N - (intOf kv).toNat)
 case atStart=>exact ⟨0,by omega,rfl,Lib.hid ⟨by exact Kd.R_nil _ _ _ _ _,Below.refl _ _⟩⟩
 case round=>
  obtain ⟨i,hi,rfl,H⟩:=hrel
  by_cases hlt : i < N
  · obtain ⟨Av,cv,rfl⟩:=Kd.R_slice H.out.1
    obtain ⟨ad,hA,hcx⟩:=a0x (Kd.C_below HR.out.1 H.out.2) 0 (by decide)
    subst hA
    have e0 : ad.add 0 = ad:=by simp [Addr.add]
    have hcy : wr.cell? ad = some (.int .u8 x):=by rw [e0] at hcx; exact hcx
    have hl6 : N <= 131072:=HR.out.2.1
    have hI : (i : Int) < (N : Int):=by omega
    have HN : Hid (List.replicate (i + 1) x = List.replicate i x ++ [x]):=Lib.hid List.replicate_succ'
    clear e0
    obtain ⟨L,hL⟩ : ∃ L,L = List.replicate i x:=⟨_,rfl⟩
    have hLl : L.length = i:=by rw [hL,List.length_replicate]
    rw [<- hL] at H HN ⊢
    have HLn : Hid ((L.length + 1) * 1 <= 140737488355328):=Lib.hid (by omega)
    have HS:=Lib.hid H.out.2.size
    clear hL
    go_wp2_with (at_builtin; refine Kd.R_append (Kd.int .u8) (w0:=w) (W:=wr) w.heap.size rfl (.tmp 48) (.tmp 56) 22 5 (.int .u8 0) 1 rfl Tryz.underlying22 a0E rfl (by decide) (by decide) _ _ x [.int .u8 x] (λ _=>True) (λ _=>False) rfl rfl rfl (λ _ h=>h.elim) (λ _ _=>trivial) H.out.1 H.out.2 HS.out HLn.out ?_; intro v1 w3 hr3 hb3 hg3 hat3; have HA:=Lib.hid (And.intro hr3 hb3); clear hr3 hb3 hg3 hat3)
    go_roundw
    case rel=>exact ⟨i + 1,by omega,by go_num,Lib.hid ⟨by rw [HN.out]; exact HA.out.1,HA.out.2⟩⟩
    case measure=>simp [intOf]; omega
  · obtain rfl : i = N:=by omega
    obtain ⟨Av,cv,rfl⟩:=Kd.R_slice H.out.1
    go_wp2_with fail
    go_ret2
    have h1:=H.out.1
    exact ⟨Av,cv,rfl,h1,H.out.2⟩
def d0g (r : Nat) (qs : List (List Int)) (p : List Int) (w : World) (e : Ending) (w' : World) : Prop:=
 ∃ Am cm Ap cp,e = .returned (.tuple #[.agg #[.int .i64 r,.bool false,.slice Am qs.length cm],.slice Ap p.length cp,.int .i64 0]) /\ kq.R 84 w' w.heap.size (λ _=>True) (.slice Am qs.length cm) qs /\ (Kd.int .u8).R 5 w' w.heap.size (λ _=>True) (.slice Ap p.length cp) p /\ Below w.heap.size w w'
theorem d0h (A : Option Addr) (c : Nat) (ps : List Int) {r : Nat} {qs : List (List Int)} {p : List Int} (w : World) (hr : (Kd.int .u8).C w A ps.length ps) (hps : Bytes ps) (hl : ps.length <= 1000000) (hc : ps.length <= c) (h : a0D ps = (0,r,qs,p)) :
    Calls Tryz.prog 21 #[.slice A ps.length c] w (d0g r qs p w):=by
 refine (b7y A c ps w hr hps hl hc).mono ?_
 intro e w' hp
 unfold a6h at hp
 rw [h] at hp
 obtain ⟨vm,vp,rfl,hm,hv⟩:=hp.1 rfl
 obtain ⟨Am,cm,rfl⟩:=Kd.R_slice hm
 obtain ⟨Ap,cp,rfl⟩:=Kd.R_slice hv
 exact ⟨Am,cm,Ap,cp,rfl,hm,hv,hp.2.2⟩
theorem d0i (A : Option Addr) (c : Nat) (ps : List Int) {k : Int} (w : World) (hr : (Kd.int .u8).C w A ps.length ps) (hps : Bytes ps) (hl : ps.length <= 1000000) (hc : ps.length <= c) (h : (a0D ps).1 = k) (hk : k ≠ 0) :
    Calls Tryz.prog 21 #[.slice A ps.length c] w (λ e w'=>e = .returned (.tuple #[.agg #[.int .i64 0,.bool false,.slice none 0 0],.slice none 0 0,.int .i64 k]) /\ Below w.heap.size w w'):=by
 refine (b7y A c ps w hr hps hl hc).mono ?_
 intro e w' hp
 unfold a6h at hp
 rw [h] at hp
 exact ⟨hp.2.1 hk,hp.2.2⟩
set_option maxRecDepth 100000 in
set_option maxHeartbeats 1000000 in
theorem b8j (A : Option Addr) (c : Nat) (ps : List Int) (n : Int) (w : World) (hr : (Kd.int .u8).C w A ps.length ps) (hps : Bytes ps) (hl : ps.length <= 1000000) (hc : ps.length <= c) :
    Calls Tryz.prog 23 #[.slice A ps.length c,.int .i64 n] w (ReadPost (dec1M ps n) w):=by
 obtain ⟨k,r,q,p,hS⟩ : ∃ k r q p,a0D ps = (k,r,q,p):=⟨_,_,_,_,rfl⟩
 have hpb:=b0t hps
 have hpl:=(b6E ps).1
 have hql:=(b6E ps).2
 rw [hS] at hpb hpl hql
 by_cases hk : k = 0
 · subst hk
   have HD : Hid (dec1M ps n = decM (r : Nat) false q p n):=by show _ = _; unfold dec1M; rw [hS,if_neg (λ h=>h rfl)]
   have HS:=Lib.hid (d0h A c ps w hr hps hl hc hS)
   have HP:=Lib.hid (And.intro hpb (And.intro (Nat.le_trans hpl hl) (show q.length <= 256 from hql)))
   rw [HD.out]
   clear hr hps hl hc hS hpb hpl hql
   go_enter Tryz.func23,Tryz.ntmps23
   go_wp2_with fail
   refine HS.out.mono ?_
   rintro e w1 ⟨Am,cm,Ap,cp,rfl,hm,hv,hb1⟩
   obtain ⟨w2,hw2⟩ : ∃ w2,w2 = w1.alloc (.cells #[.int .i64 r,.bool false,.slice Am q.length cm] 26):=⟨_,rfl⟩
   have hb2 : Below w1.heap.size w1 w2:=by rw [hw2]; exact (Below.refl _ _).alloc (Nat.le_refl _) _
   have HB2:=Lib.hid (hb1.trans (hb2.mono hb1.size))
   have HM:=Lib.hid (Kd.C_below (Kd.R_reads' hm).2.2 hb2)
   have HV:=Lib.hid (Kd.C_below (Kd.R_reads' hv).2.2 hb2)
   clear hm hv hb1 hb2
   go_wp2_with fail
   rw [<- hw2]
   clear hw2
   refine (b4w r false Am cm q Ap cp p n w2 HM.out (by have:=HP.out.2.2; omega) HV.out HP.out.1 HP.out.2.1).mono ?_
   rintro e w3 ⟨⟨v,rfl,hv⟩,hb3⟩
   have H3:=Lib.hid (And.intro hv hb3)
   clear hv hb3
   go_wp2_with fail
   go_ret2
   exact ⟨⟨v,rfl,Kd.R_lower H3.out.1 HB2.out.size⟩,HB2.out.trans (H3.out.2.mono HB2.out.size)⟩
 · have HD : Hid (dec1M ps n = (k,[])):=by show _ = _; unfold dec1M; rw [hS,if_pos hk]
   have HS:=Lib.hid (d0i A c ps w hr hps hl hc (by rw [hS]) hk)
   have hkb : (k == 0) = false:=beq_eq_false_iff_ne.2 hk
   have hkn : (k != 0) = true:=by simp [hk]
   rw [HD.out]
   clear hr hps hl hc hS hpb hpl hql
   go_enter Tryz.func23,Tryz.ntmps23
   go_wp2_with fail
   refine HS.out.mono ?_
   rintro e w1 ⟨rfl,hb1⟩
   have HB1:=Lib.hid hb1
   clear hb1
   go_wp2_with fail
   go_ret2
   exact ⟨⟨_,rfl,Kd.R_nil _ _ _ _ _⟩,HB1.out.alloc HB1.out.size _⟩
set_option maxRecDepth 100000 in
theorem b8k {x : Int × List Int} (A : Option Addr) (c p : Nat) (k n : Int) (m : Nat) (w : World) (hp : w.cell? ⟨p,0,none⟩ = some (.int .i64 k)) (h : Calls Tryz.prog 179 #[.int .i64 k,.slice A m c,.int .i64 n] w (Told x.1 x.2 w)) :
    Calls Tryz.prog 178 #[.slice A m c,.int .i64 n,.pointer (some ⟨p,0,none⟩)] w (Told x.1 x.2 w):=by
 have H:=Lib.hid h
 clear h
 go_enter Tryz.func178,Tryz.ntmps178
 go_wp2_with fail
 refine H.out.mono ?_
 rintro e w' ⟨A1,c1,rfl,hv,hb⟩
 have H1:=Lib.hid (And.intro hv hb)
 clear hv hb
 go_wp2_with fail
 go_ret2
 exact ⟨A1,c1,rfl,H1.out.1,H1.out.2⟩
set_option maxRecDepth 100000 in
theorem d0j (A : Option Addr) (c m : Nat) (k n : Int) (w : World) (h : a0C k n m ≠ 0) :
    Calls Tryz.prog 28 #[.int .i64 k,.slice A m c,.int .i64 n] w (Told (a0C k n m) [] w):=by
 have HI:=Lib.hid (a5r k n m w)
 unfold a1x at HI
 obtain ⟨z,hz⟩ : ∃ z,z = a0C k n m:=⟨_,rfl⟩
 rw [<- hz] at HI h ⊢
 have hz2 : (z != 0) = true:=by simpa using h
 clear hz h
 go_enter Tryz.func28,Tryz.ntmps28
 go_wp2_with fail
 refine HI.out.mono ?_
 rintro e w' ⟨rfl,hb⟩
 have HB:=Lib.hid hb
 clear hb
 go_wp2_with fail
 go_ret2
 exact Told.nil z HB.out
set_option maxRecDepth 100000 in
theorem d0k {x : Int × List Int} (A : Option Addr) (c m : Nat) (n : Int) (w : World) (h0 : a0C 0 n m = 0) (h : ∀ (W : World) (p q : Nat),Below w.heap.size w W -> W.cell? ⟨p,0,none⟩ = some (.int .i64 0) -> W.cell? ⟨q,0,none⟩ = some (.int .i64 1) -> Calls Tryz.prog 178 #[.slice A m c,.int .i64 n,.pointer (some ⟨p,0,none⟩)] W (Told x.1 x.2 W)) :
    Calls Tryz.prog 28 #[.int .i64 0,.slice A m c,.int .i64 n] w (Told x.1 x.2 w):=by
 have H:=Lib.hid h
 have HI:=Lib.hid (a5r 0 n m w)
 unfold a1x at HI
 rw [h0] at HI
 clear h h0
 go_enter Tryz.func28,Tryz.ntmps28
 go_wp2_with fail
 refine HI.out.mono ?_
 rintro e w0 ⟨rfl,hb0⟩
 have HB0:=Lib.hid hb0
 clear hb0
 go_wp2_with fail
 refine (a2s w0).mono ?_
 rintro e w1 ⟨p,q,rfl,hp,hq,hb⟩
 have HB:=Lib.hid (a0k HB0.out hb)
 have H1:=Lib.hid (H.out w1 p q HB.out hp hq)
 have hix:=λ W=>b1b p q W
 have hkf:=a8a
 obtain ⟨V,hV⟩ : ∃ V,V = a1o p q:=⟨_,rfl⟩
 rw [<- hV] at hix ⊢
 clear hb hp hq hV
 go_wp2_with fail
 refine H1.out.mono ?_
 rintro e w2 ⟨A1,c1,rfl,hv,hb⟩
 have H2:=Lib.hid (And.intro hv hb)
 clear hv hb hix hkf
 go_wp2_with fail
 go_ret2
 exact ⟨A1,c1,rfl,Kd.R_lower H2.out.1 HB.out.size,a0k HB.out H2.out.2⟩
set_option maxRecDepth 100000 in
theorem d0l {x : Int × List Int} (A : Option Addr) (c m : Nat) (n : Int) (w : World) (h0 : a0C 1 n m = 0) (h : ∀ (W : World) (p q : Nat),Below w.heap.size w W -> W.cell? ⟨p,0,none⟩ = some (.int .i64 0) -> W.cell? ⟨q,0,none⟩ = some (.int .i64 1) -> Calls Tryz.prog 178 #[.slice A m c,.int .i64 n,.pointer (some ⟨q,0,none⟩)] W (Told x.1 x.2 W)) :
    Calls Tryz.prog 28 #[.int .i64 1,.slice A m c,.int .i64 n] w (Told x.1 x.2 w):=by
 have H:=Lib.hid h
 have HI:=Lib.hid (a5r 1 n m w)
 unfold a1x at HI
 rw [h0] at HI
 clear h h0
 go_enter Tryz.func28,Tryz.ntmps28
 go_wp2_with fail
 refine HI.out.mono ?_
 rintro e w0 ⟨rfl,hb0⟩
 have HB0:=Lib.hid hb0
 clear hb0
 go_wp2_with fail
 refine (a2s w0).mono ?_
 rintro e w1 ⟨p,q,rfl,hp,hq,hb⟩
 have HB:=Lib.hid (a0k HB0.out hb)
 have H1:=Lib.hid (H.out w1 p q HB.out hp hq)
 have hix:=λ W=>b1c p q W
 have hkf:=a8a
 obtain ⟨V,hV⟩ : ∃ V,V = a1o p q:=⟨_,rfl⟩
 rw [<- hV] at hix ⊢
 clear hb hp hq hV
 go_wp2_with fail
 refine H1.out.mono ?_
 rintro e w2 ⟨A1,c1,rfl,hv,hb⟩
 have H2:=Lib.hid (And.intro hv hb)
 clear hv hb hix hkf
 go_wp2_with fail
 go_ret2
 exact ⟨A1,c1,rfl,Kd.R_lower H2.out.1 HB.out.size,a0k HB.out H2.out.2⟩
set_option maxRecDepth 100000 in
theorem d0m {x : Int × List Int} (A : Option Addr) (c m : Nat) (n : Int) (w : World) (h0 : a0C 2 n m = 0) (h : ∀ (W : World) (p q : Nat),Below w.heap.size w W -> W.cell? ⟨p,0,none⟩ = some (.int .i64 0) -> W.cell? ⟨q,0,none⟩ = some (.int .i64 1) -> Calls Tryz.prog 131 #[.slice A m c,.int .i64 n] W (Told x.1 x.2 W)) :
    Calls Tryz.prog 28 #[.int .i64 2,.slice A m c,.int .i64 n] w (Told x.1 x.2 w):=by
 have H:=Lib.hid h
 have HI:=Lib.hid (a5r 2 n m w)
 unfold a1x at HI
 rw [h0] at HI
 clear h h0
 go_enter Tryz.func28,Tryz.ntmps28
 go_wp2_with fail
 refine HI.out.mono ?_
 rintro e w0 ⟨rfl,hb0⟩
 have HB0:=Lib.hid hb0
 clear hb0
 go_wp2_with fail
 refine (a2s w0).mono ?_
 rintro e w1 ⟨p,q,rfl,hp,hq,hb⟩
 have HB:=Lib.hid (a0k HB0.out hb)
 have H1:=Lib.hid (H.out w1 p q HB.out hp hq)
 have hix:=λ W=>b1d p q W
 have hkf:=a8a
 obtain ⟨V,hV⟩ : ∃ V,V = a1o p q:=⟨_,rfl⟩
 rw [<- hV] at hix ⊢
 clear hb hp hq hV
 go_wp2_with fail
 refine H1.out.mono ?_
 rintro e w2 ⟨A1,c1,rfl,hv,hb⟩
 have H2:=Lib.hid (And.intro hv hb)
 clear hv hb hix hkf
 go_wp2_with fail
 go_ret2
 exact ⟨A1,c1,rfl,Kd.R_lower H2.out.1 HB.out.size,a0k HB.out H2.out.2⟩
set_option maxRecDepth 100000 in
theorem d0n {x : Int × List Int} (A : Option Addr) (c m : Nat) (n : Int) (w : World) (h0 : a0C 3 n m = 0) (h : ∀ (W : World) (p q : Nat),Below w.heap.size w W -> W.cell? ⟨p,0,none⟩ = some (.int .i64 0) -> W.cell? ⟨q,0,none⟩ = some (.int .i64 1) -> Calls Tryz.prog 23 #[.slice A m c,.int .i64 n] W (Told x.1 x.2 W)) :
    Calls Tryz.prog 28 #[.int .i64 3,.slice A m c,.int .i64 n] w (Told x.1 x.2 w):=by
 have H:=Lib.hid h
 have HI:=Lib.hid (a5r 3 n m w)
 unfold a1x at HI
 rw [h0] at HI
 clear h h0
 go_enter Tryz.func28,Tryz.ntmps28
 go_wp2_with fail
 refine HI.out.mono ?_
 rintro e w0 ⟨rfl,hb0⟩
 have HB0:=Lib.hid hb0
 clear hb0
 go_wp2_with fail
 refine (a2s w0).mono ?_
 rintro e w1 ⟨p,q,rfl,hp,hq,hb⟩
 have HB:=Lib.hid (a0k HB0.out hb)
 have H1:=Lib.hid (H.out w1 p q HB.out hp hq)
 have hix:=λ W=>b1e p q W
 have hkf:=a8a
 obtain ⟨V,hV⟩ : ∃ V,V = a1o p q:=⟨_,rfl⟩
 rw [<- hV] at hix ⊢
 clear hb hp hq hV
 go_wp2_with fail
 refine H1.out.mono ?_
 rintro e w2 ⟨A1,c1,rfl,hv,hb⟩
 have H2:=Lib.hid (And.intro hv hb)
 clear hv hb hix hkf
 go_wp2_with fail
 go_ret2
 exact ⟨A1,c1,rfl,Kd.R_lower H2.out.1 HB.out.size,a0k HB.out H2.out.2⟩
theorem b8l {k n m : Int} (h : a0C k n m = 0) : 0 <= k /\ k < 4 /\ 0 <= n /\ n <= 131072 /\ mayB k n m = true:=by
 unfold a0C at h
 by_cases h1 : k < 0 \/ 3 < k
 · rw [if_pos h1] at h; cases h
 rw [if_neg h1] at h
 by_cases h2 : n < 0 \/ 131072 < n \/ mayB k n m = false
 · rw [if_pos h2] at h; cases h
 refine ⟨by omega,by omega,by omega,by omega,?_⟩
 cases e : mayB k n m with
 | true=>rfl
 | false=>exact absurd (.inr (.inr e)) h2
theorem d0o (A : Option Addr) (c : Nat) (k n : Int) (ps : List Int) (w : World) (hr : (Kd.int .u8).C w A ps.length ps) (hps : Bytes ps) (hl : ps.length <= 1000000) (hc : ps.length <= c) (hnil : A = none -> c = 0) :
    Calls Tryz.prog 28 #[.int .i64 k,.slice A ps.length c,.int .i64 n] w (Told (pickD k ps n).1 (pickD k ps n).2 w):=by
 by_cases h0 : a0C k n ps.length = 0
 · obtain ⟨k0,k4,n0,n1,hm⟩:=b8l h0
   have e : pickD k ps n = if k <= 1 then a2Y k ps n else if k = 2 then dec0M ps n else dec1M ps n:=by unfold pickD; rw [if_neg (λ h=>h h0)]
   rw [e]
   by_cases e0 : k = 0
   · subst e0
     have hn : n = ps.length:=by unfold mayB at hm; rw [if_pos rfl] at hm; exact of_decide_eq_true hm
     subst hn
     have e2 : a2Y 0 ps ps.length = (0,ps):=by unfold a2Y; rw [if_neg (by omega),if_neg (by omega),if_pos rfl]
     rw [if_pos (by decide),e2]
     exact d0k (x:=(0,ps)) A c ps.length ps.length w h0 (λ W p q hB hp _=>b8k (x:=(0,ps)) A c p 0 _ _ W hp (d0e A c ps W (Kd.C_below hr hB) (by omega) hps))
   by_cases e1 : k = 1
   · subst e1
     have hn : 1 < n /\ (ps.length : Int) = 1:=by unfold mayB at hm; rw [if_neg (by decide),if_pos rfl] at hm; exact of_decide_eq_true hm
     obtain ⟨N,rfl⟩ : ∃ N : Nat,n = N:=⟨n.toNat,by omega⟩
     have hl1 : ps.length = 1:=by omega
     have e2 : a2Y 1 ps N = (0,List.replicate N (ps.getD 0 0)):=by unfold a2Y; rw [if_neg (by omega),if_neg (by omega),if_neg (by decide)]; rfl
     obtain ⟨x,rfl⟩:=List.length_eq_one_iff.1 hl1
     rw [if_pos (by decide),e2]
     exact d0l (x:=(0,List.replicate N x)) A c 1 N w h0 (λ W p q hB _ hq=>b8k (x:=(0,List.replicate N x)) A c q 1 _ _ W hq (d0f A c x N W (Kd.C_below hr hB) (by omega) (by omega)))
   rw [if_neg (by omega)]
   by_cases e2 : k = 2
   · subst e2
     rw [if_pos rfl]
     exact d0m (x:=dec0M ps n) A c ps.length n w h0 (λ W p q hB _ _=>c7j A c ps n W (Kd.C_below hr hB) hps hl hc hnil rfl)
   · obtain rfl : k = 3:=by omega
     rw [if_neg (by decide)]
     exact d0n (x:=dec1M ps n) A c ps.length n w h0 (λ W p q hB _ _=>(b8j A c ps n W (Kd.C_below hr hB) hps hl hc).mono λ e w' hp=>hp.told)
 · have e : pickD k ps n = (a0C k n ps.length,[]):=by unfold pickD; rw [if_pos h0]
   rw [e]
   exact d0j A c ps.length k n w h0
theorem b8m {k n : Int} {ps : List Int} (h : Bytes ps) : Bytes (pickD k ps n).2:=by
 unfold pickD
 split
 · intro x hx; cases hx
 · split
   · unfold a2Y
     repeat' split
     · intro x hx; cases hx
     · intro x hx; cases hx
     · exact h
     · intro x hx; rw [(List.mem_replicate.1 hx).2]; exact h.get 0
   · split
     · exact c7t h
     · exact c7u h
def OpenPost (r : Int × List Int × Nat × Bool) (w : World) (e : Ending) (w' : World) : Prop:=
 ∃ A c,e = .returned (.tuple #[.slice A r.2.1.length c,.int .i64 (r.2.2.1 : Nat),.bool r.2.2.2,.int .i64 r.1]) /\ (Kd.int .u8).R 5 w' w.heap.size (λ _=>True) (.slice A r.2.1.length c) r.2.1 /\ Below w.heap.size w w'
theorem b1o {f : List Int} (hf : Bytes f) {log room : Int} {first : Bool} (h : (scanM f log first room).1 = 0) : 11 <= f.length /\ (scanM f log first room).2.1 <= 3 /\ (scanM f log first room).2.2.1 <= 131072 /\ (scanM f log first room).2.2.2.1 < 16777216 /\ (scanM f log first room).2.2.2.2.2 < 4294967296 /\ a0C ((scanM f log first room).2.1 : Nat) (scanM f log first room).2.2.1 (scanM f log first room).2.2.2.1 = 0 /\ ((scanM f log first room).2.2.1 : Int) <= room:=by
 unfold scanM at h ⊢
 by_cases a1 : log < 10 \/ 17 < log \/ room < 0
 · rw [if_pos a1] at h; cases h
 rw [if_neg a1] at h ⊢
 by_cases a2 : f.length < 1
 · rw [if_pos a2] at h; cases h
 rw [if_neg a2] at h ⊢
 by_cases a3 : 7 < (f.getD 0 0).toNat
 · rw [if_pos a3] at h; cases h
 rw [if_neg a3] at h ⊢
 by_cases a4 : f.length < 4
 · rw [if_pos a4] at h; cases h
 rw [if_neg a4] at h ⊢
 by_cases a5 : a1w log first ((f.getD 0 0).toNat % 4) (rdN (f.drop 1) 3) (decide (4 <= (f.getD 0 0).toNat)) = false
 · rw [if_pos a5] at h; cases h
 rw [if_neg a5] at h ⊢
 by_cases a6 : f.length < 7
 · rw [if_pos a6] at h; cases h
 rw [if_neg a6] at h ⊢
 by_cases a7 : a0C ((f.getD 0 0).toNat % 4 : Nat) (rdN (f.drop 1) 3) (rdN (f.drop 4) 3) ≠ 0
 · rw [if_pos a7] at h; exact absurd h a7
 rw [if_neg a7] at h ⊢
 by_cases a8 : room < rdN (f.drop 1) 3
 · rw [if_pos a8] at h; cases h
 rw [if_neg a8] at h ⊢
 by_cases a9 : f.length < 11
 · rw [if_pos a9] at h; cases h
 rw [if_neg a9]
 have b1:=a2J (λ x hx=>hf x (List.mem_of_mem_drop hx) : Bytes (f.drop 4)) 3
 have b2:=a2J (λ x hx=>hf x (List.mem_of_mem_drop hx) : Bytes (f.drop 7)) 4
 have b3:=b8l (Classical.not_not.1 a7)
 dsimp only
 refine ⟨by omega,by omega,by omega,by omega,by omega,Classical.not_not.1 a7,by omega⟩
theorem a6n {fn : Func} {a b c d : Tmp} (h : fn.results = #[.tmp a,.tmp b,.tmp c,.tmp d]) (tmps : Array Value) (w : World) :
    (results fn tmps).run Tryz.prog w = .ok (.tuple #[tmps.getD a undef,tmps.getD b undef,tmps.getD c undef,tmps.getD d undef]) w:=by
 simp [results,h]
theorem OpenPost.err (k : Int) {w w' : World} (hb : Below w.heap.size w w') : OpenPost (k,[],0,false) w (.returned (.tuple #[.slice none 0 0,.int .i64 0,.bool false,.int .i64 k])) w':=⟨none,0,rfl,Kd.R_nil _ _ _ _ _,hb⟩
set_option maxRecDepth 100000 in
set_option maxHeartbeats 2000000 in
theorem b1p (A : Option Addr) (c : Nat) (f : List Int) (log : Int) (first : Bool) (room : Int) (w : World) (hr : (Kd.int .u8).C w A f.length f) (hf : Bytes f) (hl : f.length <= 1000000) (hc : f.length <= c) :
    Calls Tryz.prog 36 #[.slice A f.length c,.int .i64 log,.bool first,.int .i64 room] w (OpenPost (openM f log first room) w):=by
 have HSc:=Lib.hid (b7P A c f log first room w hr hf hl hc)
 have hB:=λ h=>b1o hf (log:=log) (room:=room) (first:=first) h
 have HOp : Hid (openM f log first room = (let s:=scanM f log first room
  if s.1 ≠ 0 then (s.1,[],0,false) else
  if f.length < 11 + s.2.2.2.1 then (3,[],0,false) else
  if a0F 0 ((f.drop 11).take s.2.2.2.1) ≠ s.2.2.2.2.2 then (12,[],0,false) else
  if (pickD (s.2.1 : Nat) ((f.drop 11).take s.2.2.2.1) s.2.2.1).1 ≠ 0 then ((pickD (s.2.1 : Nat) ((f.drop 11).take s.2.2.2.1) s.2.2.1).1,[],0,false) else
  (0,(pickD (s.2.1 : Nat) ((f.drop 11).take s.2.2.2.1) s.2.2.1).2,11 + s.2.2.2.1,s.2.2.2.2.1))):=Lib.hid rfl
 obtain ⟨R,hR⟩ : ∃ R,R = openM f log first room:=⟨_,rfl⟩
 rw [<- hR] at HOp ⊢
 obtain ⟨k,kd,N,Len,lb,sm,hS⟩ : ∃ k kd N Len lb sm,scanM f log first room = (k,kd,N,Len,lb,sm):=⟨_,_,_,_,_,_,rfl⟩
 rw [hS] at HSc hB HOp
 dsimp only at hB HOp
 unfold b1g headC at HSc
 dsimp only at HSc
 have HRw:=Lib.hid (And.intro hr (And.intro hf (And.intro hl hc)))
 clear hR hS hr hf hl hc
 by_cases hk : k = 0
 · subst hk
   obtain ⟨b11,bkd,bN,bLen,bsm,bck,brm⟩:=hB rfl
   have HBd:=Lib.hid (And.intro b11 (And.intro bkd (And.intro bN (And.intro bLen (And.intro bsm (And.intro bck brm))))))
   rw [if_neg (λ h=>h rfl)] at HOp
   clear hB bkd bN bck brm
   by_cases hL : f.length < 11 + Len
   · rw [if_pos hL] at HOp
     have hLI : (f.length : Int) < 11 + (Len : Int):=by omega
     clear hL
     go_enter Tryz.func36,Tryz.ntmps36
     go_wp2_with fail
     refine HSc.out.mono ?_
     rintro e w1 ⟨rfl,hb1⟩
     have HB1:=Lib.hid hb1
     clear hb1
     go_wp2_with fail
     refine bodyPost_ret (a6n (fn:=Tryz.f36) (a:=8) (b:=9) (c:=10) (d:=11) rfl _ _) rfl ?_
     rw [HOp.out]
     exact OpenPost.err 3 (HB1.out.alloc HB1.out.size _)
   · rw [if_neg hL] at HOp
     have hLI : ¬ (f.length : Int) < 11 + (Len : Int):=by omega
     obtain ⟨bd,hbd⟩ : ∃ l,l = (f.drop 11).take Len:=⟨_,rfl⟩
     have hdl : (f.drop 11).length = f.length - 11:=List.length_drop
     have hbl : bd.length = Len:=by rw [hbd,List.length_take]; omega
     have HBy:=Lib.hid (show Bytes bd from by rw [hbd]; exact λ x hx=>HRw.out.2.1 x (List.mem_of_mem_drop (List.mem_of_mem_take hx)))
     have hsl : ∀ W : World,(Instr.slice 22 (.slice A f.length c) (some (.int .i64 11)) (some (.int .i64 (11 + (Len : Int)))) none).run Tryz.prog W = .ok (.slice (if c = 11 then A else A.map (·.add (11 * 1))) Len (c - 11)) W:=λ W=>by
      obtain ⟨i0,hi0,hz0,hz1,hz2⟩:=info_parts a0E
      have:=b2g (P:=Tryz.prog) 22 5 .i64 .i64 Tryz.underlying22 hi0 1 hz1 A f.length c (11 : Int) (11 + (Len : Int)) (by decide) (by omega) (by omega) HRw.out.2.2.2 W
      rw [show ((11 : Int) + (Len : Int)).toNat - (11 : Int).toNat = Len by omega,show (11 : Int).toNat = 11 from rfl] at this
      exact this
     obtain ⟨Ab,hAb⟩ : ∃ Ab,Ab = (if c = 11 then A else A.map (·.add (11 * 1))):=⟨_,rfl⟩
     have hnil : Ab ≠ none:=by
      obtain ⟨ad,hA,_⟩:=a0x HRw.out.1 0 (by omega)
      rw [hAb,hA]; split <;> simp
     have HBC : Hid ((Kd.int .u8).C w Ab Len bd):=Lib.hid (by
      have h1:=Kd.C_drop (c:=c) (m:=11) HRw.out.1 b11 HRw.out.2.2.2
      have h2:=Kd.C_take (m:=Len) h1 (by omega)
      rw [<- hbd,hbl] at h2
      rw [hAb]; exact h2)
     rw [<- hAb] at hsl
     rw [<- hbd] at HOp
     have HBl:=Lib.hid (And.intro hbl (show Len <= c - 11 from by have:=HRw.out.2.2.2; omega))
     have HNil:=Lib.hid hnil
     obtain ⟨cs,hcs⟩ : ∃ n,n = a0F 0 bd:=⟨_,rfl⟩
     have HCs:=Lib.hid hcs
     rw [<- hcs] at HOp
     have HLn:=Lib.hid (show bd.length <= 1000000 from by have:=HRw.out.2.2.1; omega)
     clear hL hbd hdl hbl hAb hnil hcs
     go_enter Tryz.func36,Tryz.ntmps36
     go_wp2_with fail
     refine HSc.out.mono ?_
     rintro e w1 ⟨rfl,hb1⟩
     obtain ⟨w2,hw2⟩ : ∃ w2,w2 = w1.alloc (.cells #[.int .i64 kd,.int .i64 N,.int .i64 Len,.bool lb,.int .u32 sm] 114):=⟨_,rfl⟩
     have hb2 : Below w.heap.size w w2:=by rw [hw2]; exact hb1.alloc hb1.size _
     have hk2 : w2.heap[w1.heap.size]? = some (.cells #[.int .i64 kd,.int .i64 N,.int .i64 Len,.bool lb,.int .u32 sm] 114 (0,0)):=by rw [hw2]; exact a0l _ _
     obtain ⟨hh,hhh⟩ : ∃ h,h = w1.heap.size:=⟨_,rfl⟩
     rw [<- hhh] at hk2
     have HB2:=Lib.hid hb2
     have HK2:=Lib.hid hk2
     obtain ⟨⟨c0,c1,c2,c3,c4⟩,-⟩:=cell5 hk2
     have s0 : SLater w2 w2:=Below.refl _ _
     clear hb1 hb2 hk2
     go_wp2_with fail
     rw [<- hw2,<- hhh]
     clear hw2 hhh
     go_wp2_with fail
     have HBC2:=Lib.hid (Kd.C_below HBC.out HB2.out)
     have HOf0 : Hid (∀ (W : World) (p : Nat),SLater w2 W -> TabAt p 256 W -> Calls Tryz.prog 86 #[.pointer (some ⟨p,0,none⟩),.slice Ab Len (c - 11)] W (λ e W'=>e = .returned (.int .u32 cs) /\ W = W')):=Lib.hid (λ W p hW hp=>by
      have h2:=a6g p Ab (c - 11) bd W hp (by rw [HBl.out.1]; exact Kd.C_below HBC2.out hW) (by have:=HLn.out; omega) HBy.out
      rw [HBl.out.1,<- HCs.out] at h2
      exact h2)
     have HPd : Hid (∀ W : World,SLater w2 W -> Calls Tryz.prog 28 #[.int .i64 kd,.slice Ab Len (c - 11),.int .i64 N] W (Told (pickD kd bd N).1 (pickD kd bd N).2 W)):=Lib.hid (λ W hW=>by
      have h:=d0o Ab (c - 11) kd N bd W (by rw [HBl.out.1]; exact Kd.C_below HBC2.out hW) HBy.out HLn.out (by rw [HBl.out.1]; exact HBl.out.2) (λ h=>absurd h HNil.out)
      rw [HBl.out.1] at h
      exact h)
     have HRb:=Lib.hid (b8m (k:=kd) (n:=N) HBy.out)
     obtain ⟨pk,py,hP⟩ : ∃ pk py,pickD kd bd N = (pk,py):=⟨_,_,rfl⟩
     rw [hP] at HPd HOp HRb
     dsimp only at HPd HOp HRb
     clear hP
     by_cases hcm : cs = sm
     · rw [if_neg (λ h=>h hcm)] at HOp
       have hneq : ((cs : Int) != (sm : Int)) = false:=by rw [hcm]; simp
       clear hcm
       go_region_law (first
        | (go_simp; go_at_call 85; refine (a3O _).mono ?_; rintro e w' ⟨p,rfl,hp,ht,hb⟩; have s1:=(by first | exact SLater.keep ‹_› hb | exact SLater.keep (SLater.drew ‹_›) hb : SLater w2 w'); obtain ⟨⟨g0,g1,g2,g3,g4⟩,-⟩:=cell5 (a0g HK2.out s1); clear hp hb)
        | (go_simp; go_at_call 86; refine (HOf0.out _ _ (by first | assumption | exact SLater.drew ‹_›) (by first | assumption)).mono ?_; rintro e w' ⟨rfl,rfl⟩))
       all_goals
        go_wp2_with fail
        refine (HPd.out _ (by first | assumption | exact SLater.drew ‹_›)).mono ?_
        rintro e w5 ⟨Ay,cy,rfl,hvy,hb5⟩
        have HV5 : Hid ((Kd.int .u8).R 5 w5 w.heap.size (λ _=>True) (.slice Ay py.length cy) py):=Lib.hid (Kd.R_lower hvy (Nat.le_trans HB2.out.size (Below.size (B:=w2.heap.size) (w:=w2) (by first | assumption | exact SLater.drew ‹_›))))
        have sX:=(by first | exact SLater.keep ‹_› hb5 | exact SLater.keep (SLater.drew ‹_›) hb5 : SLater w2 w5)
        obtain ⟨⟨g0,g1,g2,g3,g4⟩,-⟩:=cell5 (a0g HK2.out sX)
        have HSX:=Lib.hid sX
        clear hvy hb5
        by_cases hpk : pk = 0
        · subst hpk
          rw [if_neg (λ h=>h rfl)] at HOp
          go_wp2_with fail
          go_quiet (fail)
          all_goals
           go_wp2_with fail
           refine bodyPost_ret (a6n (fn:=Tryz.f36) (a:=8) (b:=9) (c:=10) (d:=11) rfl _ _) rfl ?_
           rw [HOp.out]
           exact ⟨Ay,cy,rfl,Kd.R_below HV5.out (a0b (Below.refl _ _) _),a0b (HB2.out.trans (Below.mono HSX.out HB2.out.size)) _⟩
        · rw [if_pos hpk] at HOp
          have hpk2 : (pk != 0) = true:=by simpa using hpk
          clear hpk
          go_wp2_with fail
          refine bodyPost_ret (a6n (fn:=Tryz.f36) (a:=8) (b:=9) (c:=10) (d:=11) rfl _ _) rfl ?_
          rw [HOp.out]
          exact OpenPost.err pk (HB2.out.trans (Below.mono HSX.out HB2.out.size))
     · rw [if_pos hcm] at HOp
       have hneq : ((cs : Int) != (sm : Int)) = true:=by simp; omega
       clear hcm
       go_region_law (first
        | (go_simp; go_at_call 85; refine (a3O _).mono ?_; rintro e w' ⟨p,rfl,hp,ht,hb⟩; have s1:=(by first | exact SLater.keep ‹_› hb | exact SLater.keep (SLater.drew ‹_›) hb : SLater w2 w'); obtain ⟨⟨g0,g1,g2,g3,g4⟩,-⟩:=cell5 (a0g HK2.out s1); clear hp hb)
        | (go_simp; go_at_call 86; refine (HOf0.out _ _ (by first | assumption | exact SLater.drew ‹_›) (by first | assumption)).mono ?_; rintro e w' ⟨rfl,rfl⟩))
       all_goals
        have sX:=(by first | assumption | exact SLater.drew ‹_› : SLater w2 _)
        go_wp2_with fail
        refine bodyPost_ret (a6n (fn:=Tryz.f36) (a:=8) (b:=9) (c:=10) (d:=11) rfl _ _) rfl ?_
        rw [HOp.out]
        exact OpenPost.err 12 (HB2.out.trans (Below.mono (by first | assumption | exact SLater.drew ‹_›) HB2.out.size))
 · have hk2 : (k != 0) = true:=by simpa using hk
   rw [if_pos hk] at HOp
   clear hB hk
   go_enter Tryz.func36,Tryz.ntmps36
   go_wp2_with fail
   refine HSc.out.mono ?_
   rintro e w1 ⟨rfl,hb1⟩
   have HB1:=Lib.hid hb1
   clear hb1
   go_wp2_with fail
   refine bodyPost_ret (a6n (fn:=Tryz.f36) (a:=8) (b:=9) (c:=10) (d:=11) rfl _ _) rfl ?_
   rw [HOp.out]
   exact OpenPost.err k (HB1.out.alloc HB1.out.size _)
theorem b8n {f x : List Int} (h : f.length < 4) : a0S f x = 3:=by unfold a0S; rw [if_pos h]
theorem b8o {f x : List Int} (h : ¬ f.length < 4) (h2 : f.take 4 ≠ tailL x) : a0S f x = 15:=by unfold a0S; rw [if_neg h,if_pos h2]
theorem b8p {f x : List Int} (h : ¬ f.length < 4) (h2 : f.take 4 = tailL x) : a0S f x = if 4 < f.length then 16 else 0:=by unfold a0S; rw [if_neg h,if_neg (λ h=>h h2)]
theorem d0p (x : List Int) : Bytes (tailL x):=a5h _ _
set_option maxRecDepth 100000 in
set_option maxHeartbeats 2000000 in
theorem d0q (A B : Option Addr) (ca cb : Nat) (f x : List Int) (w : World) (hf : BSl w A ca f) (hx : BSl w B cb x) (hl : x.length <= 1000000000000) (hfl : f.length <= 1000000) :
    Calls Tryz.prog 96 #[.slice A f.length ca,.slice B x.length cb] w (λ e w'=>e = .returned (.int .i64 (a0S f x)) /\ Below w.heap.size w w'):=by
 by_cases h4 : f.length < 4
 · have HM:=Lib.hid (b8n (x:=x) h4)
   have h4I : (f.length : Int) < 4:=by omega
   clear hf hx h4
   go_enter Tryz.func96,Tryz.ntmps96
   go_wp2_with fail
   go_ret
   rw [HM.out]
   exact ⟨rfl,Below.refl _ _⟩
 · have h4I : ¬ (f.length : Int) < 4:=by omega
   have hsl:=a3L A f.length ca 4 (by omega) hf.cap
   have htk : (f.take 4).length = 4:=by rw [List.length_take]; omega
   have htb : Bytes (f.take 4):=λ x hx=>hf.by' x (List.mem_of_mem_take hx)
   have hC:=(hf.cut (k:=4) (by omega)).row
   have hc4 : (4 : Int) <= (ca : Int):=by have:=hf.cap; omega
   rw [htk] at hC
   have hcv1 : ∀ W,SLater w W -> (convert 22 9 (.slice A 4 ca)).run Tryz.prog W = .ok (.string (strOfNums (f.take 4))) W:=λ W hW=>by
    have:=Kd.C_string (P:=Tryz.prog) (c:=ca) Tryz.underlying22 Tryz.underlying5 Tryz.underlying9 (Kd.C_below (n:=(f.take 4).length) (by rw [htk]; exact hC) hW)
    rw [htk] at this; exact this
   have HTl : Hid (∀ W,SLater w W -> Calls Tryz.prog 43 #[.slice B x.length cb] W (λ e w'=>∃ A c,e = .returned (.slice A 4 c) /\ (Kd.int .u8).R 5 w' W.heap.size (λ _=>True) (.slice A 4 c) (tailL x) /\ Below W.heap.size W w')):=Lib.hid (λ W hW=>b7V B cb x W (Kd.C_below hx.row hW) hl hx.by')
   have HCv : Hid (∀ (W : World) (T : Option Addr) (c B : Nat),(Kd.int .u8).R 5 W B (λ _=>True) (.slice T 4 c) (tailL x) -> ∀ W',SLater W W' -> (convert 22 9 (.slice T 4 c)).run Tryz.prog W' = .ok (.string (strOfNums (tailL x))) W'):=Lib.hid (λ W T c B h W' hW=>by
    have h2:=(Kd.R_reads' h).2.2
    have:=Kd.C_string (P:=Tryz.prog) (c:=c) Tryz.underlying22 Tryz.underlying5 Tryz.underlying9 (Kd.C_below h2 hW)
    rw [a1C] at this; exact this)
   have hq:=b6w htb (d0p x)
   have HB : Hid (f.take 4 ≠ tailL x -> a0S f x = 15):=Lib.hid (b8o h4)
   have HB2 : Hid (f.take 4 = tailL x -> a0S f x = if 4 < f.length then 16 else 0):=Lib.hid (b8p h4)
   obtain ⟨tk,hk⟩ : ∃ t,t = f.take 4:=⟨_,rfl⟩
   obtain ⟨tl,htl⟩ : ∃ t,t = tailL x:=⟨_,rfl⟩
   obtain ⟨x1,hx1⟩ : ∃ x,x = strOfNums tk:=⟨_,rfl⟩
   obtain ⟨y1,hy1⟩ : ∃ x,x = strOfNums tl:=⟨_,rfl⟩
   obtain ⟨r,hr⟩ : ∃ r,r = a0S f x:=⟨_,rfl⟩
   rw [<- hk,<- htl] at hq HB HB2
   rw [<- hk] at hcv1
   rw [<- htl] at HTl HCv
   rw [<- hx1,<- hy1] at hq
   rw [<- hx1] at hcv1
   rw [<- hy1] at HCv
   rw [<- hr] at HB HB2 ⊢
   have s0 : SLater w w:=Below.refl _ _
   have cv0:=hcv1 w.drew s0.drew
   have HCv1:=Lib.hid hcv1
   clear hcv1 hC htk htb hf hx hk htl hx1 hy1 hr h4
   by_cases hne : tk = tl
   · rw [decide_eq_true hne] at hq
     have hq2 : (x1.toList != y1.toList) = false:=by show (!(x1.toList == y1.toList)) = false; rw [hq]; rfl
     have HR:=Lib.hid (HB2.out hne)
     clear HB HB2 hne
     by_cases h5 : 4 < f.length
     · have h5I : (4 : Int) < (f.length : Int):=by omega
       rw [if_pos h5] at HR
       clear h5
       go_enter Tryz.func96,Tryz.ntmps96
       go_wp2_with fail
       go_region_law (go_simp; go_at_call 43; refine (HTl.out _ (by first | assumption | exact SLater.drew ‹_›)).mono ?_; rintro e w' ⟨T,ct,rfl,hvt,hb⟩; have sx:=(by first | exact SLater.keep ‹_› hb | exact SLater.keep (SLater.drew ‹_›) hb : SLater w w'); have cv1:=HCv1.out _ sx; have cv2:=HCv.out _ _ _ _ hvt _ (Below.refl _ _); clear hvt hb)
       all_goals
        go_wp2_with fail
        go_ret
        rw [HR.out]
        exact ⟨rfl,by first | assumption | exact SLater.drew ‹_›⟩
     · have h5I : ¬ (4 : Int) < (f.length : Int):=by omega
       rw [if_neg h5] at HR
       clear h5
       go_enter Tryz.func96,Tryz.ntmps96
       go_wp2_with fail
       go_region_law (go_simp; go_at_call 43; refine (HTl.out _ (by first | assumption | exact SLater.drew ‹_›)).mono ?_; rintro e w' ⟨T,ct,rfl,hvt,hb⟩; have sx:=(by first | exact SLater.keep ‹_› hb | exact SLater.keep (SLater.drew ‹_›) hb : SLater w w'); have cv1:=HCv1.out _ sx; have cv2:=HCv.out _ _ _ _ hvt _ (Below.refl _ _); clear hvt hb)
       all_goals
        go_wp2_with fail
        go_ret
        rw [HR.out]
        exact ⟨rfl,by first | assumption | exact SLater.drew ‹_›⟩
   · rw [decide_eq_false hne] at hq
     have hq2 : (x1.toList != y1.toList) = true:=by show (!(x1.toList == y1.toList)) = true; rw [hq]; rfl
     have HR:=Lib.hid (HB.out hne)
     clear HB HB2 hne
     go_enter Tryz.func96,Tryz.ntmps96
     go_wp2_with fail
     go_region_law (go_simp; go_at_call 43; refine (HTl.out _ (by first | assumption | exact SLater.drew ‹_›)).mono ?_; rintro e w' ⟨T,ct,rfl,hvt,hb⟩; have sx:=(by first | exact SLater.keep ‹_› hb | exact SLater.keep (SLater.drew ‹_›) hb : SLater w w'); have cv1:=HCv1.out _ sx; have cv2:=HCv.out _ _ _ _ hvt _ (Below.refl _ _); clear hvt hb)
     all_goals
      go_wp2_with fail
      go_ret
      rw [HR.out]
      exact ⟨rfl,by first | assumption | exact SLater.drew ‹_›⟩
theorem b8r {f : List Int} (h : headM f = 0) (hb : Bytes f) : a2g f = f.getD 5 0 /\ 0 <= a2g f /\ a2g f < 256:=by
 have : a2g f = f.getD 5 0:=by unfold a2g; rw [if_pos h]
 rw [this]; exact ⟨rfl,hb.get 5⟩
theorem b8s {f : List Int} (h : headM f = 0) : 8 <= f.length:=by
 have g : ∀ (d i : Nat),headG f d i = 0 -> i + d <= f.length \/ d = 0:=by
  intro d
  induction d with
  | zero=>intro i _; exact .inr rfl
  | succ d ih=>
   intro i h
   left
   unfold headG at h
   split at h
   · cases h
   · split at h
     · rename_i h1; exact absurd h h1
     · rcases ih (i + 1) h with h | h <;> omega
 have:=g 8 0 h
 omega
end Go.Proofs.YtflfjpkmjnnodaaGreat
namespace Go.Proofs.YtflfjpkmjnnodaaGreat
open Go.RowKit Go.IntWalk Go.Proofs.YtflfjpkmjnnodaaGreatW.PrintWords
attribute [local go_sem] Oper.semAt_some
def a3S : Code := ((Code.region 3 #[{ dst := some 7, op := Op.assign (Operand.tmp 12), type := 22, pos := "frame.go:133", after := #[], guard := none }] false).seq (Code.region 4 #[{ dst := some 8, op := Op.assign (Operand.tmp 13), type := 27, pos := "frame.go:133", after := #[], guard := none }] false))
def a3T : Code := (Code.block 1 ((Code.region 5 #[{ dst := some 14, op := Op.move (Operand.tmp 8), type := 27, pos := "frame.go:134", after := #[], guard := none }] false).seq (Code.block 2 ((Code.region 7 #[{ dst := some 18, op := Op.binOp BinOp.eql 27 (Operand.tmp 14) (Operand.const (Value.int IntKind.i64 0)) 27, type := 4, pos := "frame.go:135", after := #[], guard := none }, { dst := some 17, op := Op.assign (Operand.tmp 18), type := 4, pos := "frame.go:135", after := #[{ on := 0, ground := Ground.data }], guard := none }] false).seq (Code.cond (Operand.tmp 17) (Code.region 8 #[{ dst := some 19, op := Op.load 22 (Operand.tmp 6), type := 22, pos := "frame.go:136", after := #[], guard := none }, { dst := some 20, op := Op.move (Operand.tmp 7), type := 22, pos := "frame.go:136", after := #[], guard := none }, { dst := some 21, op := Op.call { callee := Callee.builtin Builtin.append, args := #[Operand.tmp 19, Operand.tmp 20], argTypes := #[22, 22] }, type := 22, pos := "frame.go:136", after := #[{ on := 0, ground := Ground.data }, { on := 1, ground := Ground.data }], guard := none }, { dst := none, op := Op.store 22 (Operand.tmp 6) (Operand.tmp 21), type := 0, pos := "frame.go:136", after := #[{ on := 2, ground := Ground.data }, { on := 2, ground := Ground.chain }, { on := 0, ground := Ground.phase }, { on := 1, ground := Ground.phase }, { on := 2, ground := Ground.phase }], guard := none }] false) ((Code.region 9 #[{ dst := some 23, op := Op.binOp BinOp.eql 27 (Operand.tmp 14) (Operand.const (Value.int IntKind.i64 16)) 27, type := 4, pos := "frame.go:137", after := #[], guard := none }, { dst := some 22, op := Op.assign (Operand.tmp 23), type := 4, pos := "frame.go:137", after := #[{ on := 0, ground := Ground.data }], guard := none }] false).seq (Code.cond (Operand.tmp 22) ((Code.region 10 #[{ dst := some 24, op := Op.load 22 (Operand.tmp 6), type := 22, pos := "frame.go:138", after := #[], guard := none }, { dst := some 25, op := Op.move (Operand.tmp 7), type := 22, pos := "frame.go:138", after := #[], guard := none }, { dst := some 26, op := Op.load 22 (Operand.tmp 6), type := 22, pos := "frame.go:138", after := #[], guard := none }, { dst := some 27, op := Op.call { callee := Callee.value (Operand.func 96), args := #[Operand.tmp 25, Operand.tmp 26], argTypes := #[22, 22] }, type := 27, pos := "frame.go:138", after := #[{ on := 1, ground := Ground.data }, { on := 2, ground := Ground.data }], guard := none }, { dst := none, op := Op.store 22 (Operand.tmp 4) (Operand.tmp 24), type := 0, pos := "frame.go:138", after := #[{ on := 0, ground := Ground.data }, { on := 3, ground := Ground.chain }, { on := 0, ground := Ground.phase }, { on := 1, ground := Ground.textOnly Departure.lateStores }, { on := 2, ground := Ground.textOnly Departure.inlinedCapture }, { on := 3, ground := Ground.textOnly Departure.lateStoresUnsure }], guard := none }, { dst := none, op := Op.store 27 (Operand.tmp 5) (Operand.tmp 27), type := 0, pos := "frame.go:138", after := #[{ on := 3, ground := Ground.data }, { on := 4, ground := Ground.chain }, { on := 0, ground := Ground.phase }, { on := 1, ground := Ground.phase }, { on := 2, ground := Ground.phase }, { on := 3, ground := Ground.phase }, { on := 4, ground := Ground.phase }], guard := none }] true).seq Code.ret) ((Code.region 6 #[{ dst := some 15, op := Op.load 22 (Operand.tmp 6), type := 22, pos := "frame.go:140", after := #[], guard := none }, { dst := some 16, op := Op.move (Operand.tmp 8), type := 27, pos := "frame.go:140", after := #[{ on := 2, ground := Ground.gcOnly Departure.lateStores }], guard := none }, { dst := none, op := Op.store 22 (Operand.tmp 4) (Operand.tmp 15), type := 0, pos := "frame.go:140", after := #[{ on := 0, ground := Ground.data }, { on := 0, ground := Ground.phase }, { on := 1, ground := Ground.textOnly Departure.lateStores }], guard := none }, { dst := none, op := Op.store 27 (Operand.tmp 5) (Operand.tmp 16), type := 0, pos := "frame.go:140", after := #[{ on := 1, ground := Ground.data }, { on := 2, ground := Ground.chain }, { on := 0, ground := Ground.phase }, { on := 1, ground := Ground.phase }, { on := 2, ground := Ground.phase }], guard := none }] false).seq Code.ret))))))))
set_option maxRecDepth 100000 in
theorem d0t {w0 W : World} {v : Value} {xs ys : List Int} {B : Nat} {A : Option Addr} {n c : Nat} (ty : TypeId) (HO : (Kd.int .u8).R 5 W B (λ _=>True) v xs) (HC : (Kd.int .u8).C W A n ys) (HB : Below B w0 W) (hB : B <= W.heap.size) (hl : xs.length + n <= 140737488355328) :
    ∃ A1 c1 w1,(Builtin.append_ #[22,22] ty #[v,.slice A n c]).run Tryz.prog W = .ok (.slice A1 (xs.length + n) c1) w1 /\ (Kd.int .u8).R 5 w1 B (λ _=>True) (.slice A1 (xs.length + n) c1) (xs ++ ys) /\ Below B w0 w1 /\ W.grownBy w1 v.ownBlock:=by
 have h := app8 (ops := #[{ dst := some 2, op := .call { callee := .builtin .append, args := #[.tmp 0, .tmp 1], argTypes := #[22, 22] }, type := ty, pos := "", after := #[], guard := none }])
  (o := { dst := some 2, op := .call { callee := .builtin .append, args := #[.tmp 0, .tmp 1], argTypes := #[22, 22] }, type := ty, pos := "", after := #[], guard := none }) (rest := [])
  (a:={ tmps:=#[v,.slice A n c,undef],defers:=[] }) (Q:=λ e a w1=>e = .normal /\ ∃ A1 c1,a.tmps[2]? = some (.slice A1 (xs.length + n) c1) /\ (Kd.int .u8).R 5 w1 B (λ _=>True) (.slice A1 (xs.length + n) c1) (xs ++ ys) /\ Below B w0 w1 /\ W.grownBy w1 v.ownBlock)
  (w0:=w0) (W:=W) (s:=.tmp 0) (x:=.tmp 1) (v:=v) rfl rfl rfl rfl (Lib.hid HO) (Lib.hid HC) (Lib.hid HB) hB (Lib.hid hl) (λ A1 c1 w1 h1 h2 h3=>wpList_nil ⟨rfl,A1,c1,rfl,h1,h2,h3⟩)
 simp only [wpList,Region.wanted,if_true] at h
 unfold Oper.wp execOp at h
 simp only [resolve,invoke,builtin,Sem.run_bind,Sem.run_pure,Result.andThen_ok,List.map_toArray,List.map_cons,List.map_nil] at h
 rcases h with h | ⟨_,a',w',h',_⟩
 · rw [show (Act.eval { tmps:=#[v,.slice A n c,undef],defers:=[] } (Operand.tmp 0)) = v from rfl,show (Act.eval { tmps:=#[v,.slice A n c,undef],defers:=[] } (Operand.tmp 1)) = .slice A n c from rfl] at h
   cases hr : (Builtin.append_ #[22,22] ty #[v,.slice A n c]).run Tryz.prog W with
   | ok v' w'=>
    rw [hr] at h
    simp only [Result.andThen_ok,Oper.upon_value] at h
    obtain ⟨_,A1,c1,e,h1,h2,h3⟩:=h
    have : v' = .slice A1 (xs.length + n) c1:=by simpa [Act.put] using e
    subst this
    exact ⟨A1,c1,w',rfl,h1,h2,h3⟩
   | halt s w'=>
    rw [hr] at h
    simp only [Result.andThen] at h
    cases s <;> first | exact h.elim | exact absurd h.1 (by intro e; cases e)
 · cases h'
set_option maxRecDepth 100000 in
theorem d0u {F : Fence} {nF : Nat} {ops : Array Oper} {o : Oper} {rest : List Oper} {a : Act} {Q : Exit -> Act -> World -> Prop} {w0 W : World} {s x : Operand} {v : Value} {xs ys : List Int} {B : Nat} {A : Option Addr} {n c : Nat} (hgd : o.guard = none) (ho : o.op = .call { callee:=.builtin .append,args:=#[s,x],argTypes:=#[22,22] })
    (hs : a.eval s = v) (hx : a.eval x = .slice A n c) (HO : Hid ((Kd.int .u8).R 5 W B (λ _=>True) v xs)) (HC : Hid ((Kd.int .u8).C W A n ys)) (HB : Hid (Below B w0 W)) (hB : B <= W.heap.size) (hl : Hid (xs.length + n <= 140737488355328))
    (h : ∀ A1 c1 w1,(Kd.int .u8).R 5 w1 B (λ _=>True) (.slice A1 (xs.length + n) c1) (xs ++ ys) -> Below B w0 w1 -> W.grownBy w1 v.ownBlock -> wpListIn F nF Tryz.prog ops Q rest (a.put o.dst (.slice A1 (xs.length + n) c1)) w1) :
    wpListIn F nF Tryz.prog ops Q (o :: rest) a W:=by
 refine wpListIn_plain hgd λ K hK=>?_
 obtain ⟨A1,c1,w1,hr,h1,h2,h3⟩:=d0t o.type HO.out HC.out HB.out hB hl.out
 unfold Oper.wpIn
 refine ⟨by simp [Oper.about,ho,resolve,Target.leads,Sem.run_pure],?_⟩
 rw [Oper.semAt_plain F _ _ (by rw [ho]; intro c hc'; cases hc')]
 simp only [execOp,ho,resolve,invoke,builtin,Sem.run_bind,Sem.run_pure,Result.andThen_ok,List.map_toArray,List.map_cons,List.map_nil,hs,hx]
 rw [hr]
 exact hK _ _ (h A1 c1 w1 h1 h2 h3)
def pfRec (fn : FuncId) (tm : Array Value) (D : Nat) (st : LoopState) (pend : Option Code) : Loop:={ state:=st,pending:=pend,fn,tmps:=tm,params:=#[12,13],assign:=a3S,body:=a3T,defers:=D }
def pfTm (A : Option Addr) (n c : Nat) (lim : Int) (rb eb ob : Nat) (v9 v10 f y e : Value) : Array Value:=#[.slice A n c,.int .i64 lim,undef,undef,.pointer (some ⟨rb,0,none⟩),.pointer (some ⟨eb,0,none⟩),.pointer (some ⟨ob,0,none⟩),undef,undef,v9,v10,f,y,e,undef,undef,undef,undef,undef,undef,undef,undef,undef,undef,undef,undef,undef,undef,undef]
structure Lay (s rb eb ob fb lb D l B1 : Nat) : Prop where
 h0 : s <= rb
 h1 : rb < eb
 h2 : eb < ob
 h3 : ob < fb
 h4 : fb < lb
 h5 : lb < D
 h6 : D < l
 h7 : l < B1
structure Pf (fn : FuncId) (tm : Array Value) (s rb eb ob fb lb D l B1 : Nat) (w : World) (r : List Int) (lim : Int) (out : List Int) (W : World) : Prop where
 fc : ∃ Ar cr,W.heap[fb]? = some (.cells #[.slice Ar r.length cr] 22 (0,0)) /\ BSl w Ar cr r
 lc : W.heap[lb]? = some (.cells #[.int .i64 lim] 3 (0,0))
 v : ∃ A c,W.heap[ob]? = some (.cells #[.slice A out.length c] 22 (0,0)) /\ (Kd.int .u8).R 5 W B1 (λ _=>True) (.slice A out.length c) out
 rc : W.heap[rb]? = some (.cells #[.slice none 0 0] 22 (0,0))
 ec : W.heap[eb]? = some (.cells #[.int .i64 0] 27 (0,0))
 lp : W.heap[l]? = some (.loop (pfRec fn tm D .ready none))
 dc : W.heap[D]? = some (.deferred (some []))
 on : Below s w W
 sz : B1 <= W.heap.size
structure PfX (fn : FuncId) (tm : Array Value) (s rb eb D l B1 : Nat) (w : World) (k : Int) (out : List Int) (W : World) : Prop where
 rc : ∃ A c,W.heap[rb]? = some (.cells #[.slice A out.length c] 22 (0,0)) /\ (Kd.int .u8).R 5 W B1 (λ _=>True) (.slice A out.length c) out
 ec : W.heap[eb]? = some (.cells #[.int .i64 k] 27 (0,0))
 lp : W.heap[l]? = some (.loop (pfRec fn tm D .done (some .ret)))
 dc : W.heap[D]? = some (.deferred (some []))
 on : Below s w W
theorem _root_.Go.RowKit.Below.putObj {B : Nat} {a b : World} (h : Below B a b) {l : Nat} (hl : B <= l) (o : Obj) : Below B a (b.putObj l o):=
 ⟨h.os,h.tape,h.output,by simpa using h.size,λ k hk=>(World.putObj_heap_other (by omega)).trans (h.block k hk)⟩
theorem R_put {W : World} {B : Nat} {v : Value} {xs : List Int} (h : (Kd.int .u8).R 5 W B (λ _=>True) v xs) {l : Nat} (hl : l < B) (o : Obj) : (Kd.int .u8).R 5 (W.putObj l o) B (λ _=>True) v xs:=
 a1B (S:=λ k=>k = l) h ⟨rfl,rfl,rfl,by simp,λ k _ hk=>World.putObj_heap_other hk⟩ (λ k hk e=>by omega)
theorem a6o {W : World} {B : Nat} {v : Value} {xs : List Int} (h : (Kd.int .u8).R 5 W B (λ _=>True) v xs) {l : Nat} (hl : l < B) (u : Value) : (Kd.int .u8).R 5 (W.setCell ⟨l,0,none⟩ u) B (λ _=>True) v xs:=
 a1B (S:=λ k=>k = l) h (Only.setCell (S:=λ k=>k = l) (p:=⟨l,0,none⟩) (Only.refl _ W) rfl u) (λ k hk e=>by omega)
theorem a1s {W : World} {l k : Nat} {u : Value} {o : Obj} (h : W.heap[k]? = some o) (hk : k ≠ l) : (W.setCell ⟨l,0,none⟩ u).heap[k]? = some o:=(Below.heap_setCell _ ⟨l,0,none⟩ _ k hk).trans h
theorem b8t {W : World} {A : Option Addr} {n l : Nat} {xs : List Int} {lo : Loop} (h : (Kd.int .u8).C W A n xs) (hl : W.heap[l]? = some (.loop lo)) (hn : 0 < n) {ad : Addr} (ha : A = some ad) : ad.block ≠ l:=by
 intro e
 obtain ⟨ad',ha',hc⟩:=h.2.2 hn
 rw [ha] at ha'; injection ha' with e2; subst e2
 obtain ⟨c,h1,h2,h3⟩:=hc 0 _ (List.getElem?_eq_getElem (by have:=h.1; omega))
 have hc1 : c[0]? = some (c[0]'(by rw [h1]; decide)):=List.getElem?_eq_getElem _
 have h4:=h3 0 _ hc1
 unfold World.cell? at h4
 rw [a1D,e,hl] at h4
 cases h4
section
variable {fn : FuncId} {A : Option Addr} {n c : Nat} {lim0 : Int} {s rb eb ob fb lb D l B1 : Nat} {v9 v10 f : Value} {w : World} {r : List Int} {lim : Int} {out : List Int} {W : World}
set_option maxRecDepth 100000 in
set_option maxHeartbeats 2000000 in
theorem d0v (m : Nat) (L : Lay s rb eb ob fb lb D l B1) (h : Pf fn (pfTm A n c lim0 rb eb ob v9 v10 f undef undef) s rb eb ob fb lb D l B1 w r lim out W) {y : List Int} {Ay : Option Addr} {cy : Nat} (hy : (Kd.int .u8).C W Ay y.length y) (hl : out.length + y.length <= 140737488355328) :
    RoundIn Fence.wide m Tryz.prog l fn (pfTm A n c lim0 rb eb ob v9 v10 f (.slice Ay y.length cy) (.int .i64 0)) a3S a3T W
     λ e W'=>e = .returned (.bool true) /\ Pf fn (pfTm A n c lim0 rb eb ob v9 v10 f undef undef) s rb eb ob fb lb D l B1 w r lim (out ++ y) W':=by
 obtain ⟨tm,htm⟩ : ∃ tm,tm = pfTm A n c lim0 rb eb ob v9 v10 f undef undef:=⟨_,rfl⟩
 rw [<- htm] at h ⊢
 refine roundIn_of_wpIn trivial ?_
 have hll : l < W.heap.size:=a0f h.lp
 have hbr:=run_beginRound (P:=Tryz.prog) h.lp rfl
 obtain ⟨lo,hlo⟩ : ∃ lo,lo = { pfRec fn tm D .ready none with state:=.busy }:=⟨_,rfl⟩
 obtain ⟨W2,hW2⟩ : ∃ W2,W.putObj l (.loop { pfRec fn tm D .ready none with state:=.busy }) = W2:=⟨_,rfl⟩
 have hbr2 : (Instr.beginRound l).run Tryz.prog W = .ok () W2:=by rw [<- hW2]; exact hbr
 obtain ⟨Ao,co,hv,hR⟩:=h.v
 have L0:=L.h0; have L1:=L.h1; have L2:=L.h2; have L3:=L.h3; have L4:=L.h4; have L5:=L.h5; have L6:=L.h6; have L7:=L.h7
 have hv2 : W2.heap[ob]? = some (.cells #[.slice Ao out.length co] 22 (0,0)):=by rw [<- hW2]; exact (World.putObj_heap_other (by omega)).trans hv
 have hR2 : Hid ((Kd.int .u8).R 5 W2 B1 (λ _=>True) (.slice Ao out.length co) out):=Lib.hid (by rw [<- hW2]; exact R_put hR L7 _)
 have hlp2 : W2.heap[l]? = some (.loop { pfRec fn tm D .ready none with state:=.busy }):=by rw [<- hW2]; exact World.putObj_heap_same hll
 have hon2 : Below s w W2:=by rw [<- hW2]; exact h.on.putObj (by omega) _
 have hC2 : Hid ((Kd.int .u8).C W2 Ay y.length y):=Lib.hid (a5l hy (λ hn ad ha=>by
  rw [<- hW2]; exact World.putObj_heap_other (b8t hy h.lp hn ha)))
 have hB2 : Hid (Below B1 W2 W2):=Lib.hid (Below.refl _ _)
 have hl2 : Hid (out.length + y.length <= 140737488355328):=Lib.hid hl
 have hc2 : W2.cell? ⟨ob,0,none⟩ = some (.slice Ao out.length co):=(a0a hv2 0).trans rfl
 have hf2 : W2.frozen? ⟨ob,0,none⟩ = false:=a0e hv2 0
 have hs2 : B1 <= W2.heap.size:=by rw [<- hW2]; simpa using h.sz
 have HF:=Lib.hid (And.intro hv2 (And.intro hlp2 hon2))
 have HP:=Lib.hid h
 have HL:=Lib.hid L
 clear hv2 hlp2 hon2 hR hv h L hy hl hbr hlo htm
 unfold a3S pfTm
 gi_wp2
 clear hbr2
 unfold a3T
 gi_wp2_with (gi_at_builtin; (refine d0u rfl rfl rfl rfl hR2 hC2 hB2 hs2 hl2 ?_; intro A4 c4 w4 hr4 hb4 hg4; have HR4:=Lib.hid (And.intro hr4 (And.intro hb4 hg4)); have hv4:=(hb4.block ob (by have:=HL.out.h7; have:=HL.out.h6; have:=HL.out.h5; have:=HL.out.h4; have:=HL.out.h3; omega)).trans HF.out.1; have hc4:=(a0a hv4 0).trans rfl; have hf4:=a0e hv4 0; clear hr4 hb4 hg4 hv4))
 have L:=HL.out
 have L0:=L.h0; have L1:=L.h1; have L2:=L.h2; have L3:=L.h3; have L4:=L.h4; have L5:=L.h5; have L6:=L.h6; have L7:=L.h7
 have hb4:=HR4.out.2.1
 have hl4 : w4.heap[l]? = some (.loop { pfRec fn tm D .ready none with state:=.busy }):=(hb4.block l L7).trans HF.out.2.1
 have hl5 : (w4.setCell ⟨ob,0,none⟩ (.slice A4 (out.length + y.length) c4)).heap[l]? = some (.loop { pfRec fn tm D .ready none with state:=.busy }):=a1s hl4 (by omega)
 have hW2k : ∀ k,k ≠ l -> W2.heap[k]? = W.heap[k]?:=λ k hk=>by rw [<- hW2]; exact World.putObj_heap_other hk
 have hB5 : Below s w (w4.setCell ⟨ob,0,none⟩ (.slice A4 (out.length + y.length) c4)):=(HF.out.2.2.trans (hb4.mono (Nat.le_trans (Nat.le_trans L0 (by omega)) (Nat.le_of_lt L7)))).setCell (p:=⟨ob,0,none⟩) (by show s <= ob; omega) _
 obtain ⟨W5,hW5⟩ : ∃ W5,W5 = w4.setCell ⟨ob,0,none⟩ (.slice A4 (out.length + y.length) c4):=⟨_,rfl⟩
 have h5k : ∀ k,k < B1 -> k ≠ l -> k ≠ ob -> W5.heap[k]? = W.heap[k]?:=λ k h1 h2 h3=>by
  rw [hW5]; exact (Below.heap_setCell _ ⟨ob,0,none⟩ _ k h3).trans ((hb4.block k h1).trans (hW2k k h2))
 have hv5 : W5.heap[ob]? = some (.cells #[.slice A4 (out.length + y.length) c4] 22 (0,0)):=by
  rw [hW5]; exact (a0i ((hb4.block ob (by omega)).trans HF.out.1) 0 _).trans rfl
 have hR5 : (Kd.int .u8).R 5 W5 B1 (λ _=>True) (.slice A4 (out.length + y.length) c4) (out ++ y):=by rw [hW5]; exact a6o HR4.out.1 (by omega) _
 have hs5 : B1 <= W5.heap.size:=by rw [hW5]; simpa [World.setCell] using Nat.le_trans hs2 hb4.size
 rw [<- hW5] at hl5 hB5 ⊢
 obtain ⟨⟨Ar,cr,hfc,hbs⟩,hlc,-,hrc,hec,-,hdc,-,-⟩:=HP.out
 clear hW5
 refine ⟨_,_,run_endRound none hl5,rfl,⟨⟨Ar,cr,(World.putObj_heap_other (by omega)).trans ((h5k fb (by omega) (by omega) (by omega)).trans hfc),hbs⟩,(World.putObj_heap_other (by omega)).trans ((h5k lb (by omega) (by omega) (by omega)).trans hlc),
  ⟨A4,c4,by rw [List.length_append]; exact (World.putObj_heap_other (by omega)).trans hv5,by rw [List.length_append]; exact R_put hR5 L7 _⟩,(World.putObj_heap_other (by omega)).trans ((h5k rb (by omega) (by omega) (by omega)).trans hrc),
  (World.putObj_heap_other (by omega)).trans ((h5k eb (by omega) (by omega) (by omega)).trans hec),World.putObj_heap_same (a0f hl5),(World.putObj_heap_other (by omega)).trans ((h5k D (by omega) (by omega) (by omega)).trans hdc),hB5.putObj (by omega) _,by simpa using hs5⟩⟩
theorem b8u {tm : Array Value} (L : Lay s rb eb ob fb lb D l B1) (h : Pf fn tm s rb eb ob fb lb D l B1 w r lim out W) {W2 W' : World} {Ao : Option Addr} {co : Nat} (hW2 : W.putObj l (.loop { pfRec fn tm D .ready none with state:=.busy }) = W2) (hR : (Kd.int .u8).R 5 W2 B1 (λ _=>True) (.slice Ao out.length co) out) (hW : SLater W2 W') (k : Int) :
    ∃ v w',(Instr.endRound l (some .ret)).run Tryz.prog ((W'.setCell ⟨rb,0,none⟩ (.slice Ao out.length co)).setCell ⟨eb,0,none⟩ (.int .i64 k)) = .ok v w' /\ (Ending.returned v = .returned (.bool false) /\ PfX fn tm s rb eb D l B1 w k out w'):=by
 have L0:=L.h0; have L1:=L.h1; have L2:=L.h2; have L3:=L.h3; have L4:=L.h4; have L5:=L.h5; have L6:=L.h6; have L7:=L.h7
 have hll : l < W.heap.size:=a0f h.lp
 have hs2 : B1 <= W2.heap.size:=by rw [<- hW2]; simpa using h.sz
 have hlp2 : W2.heap[l]? = some (.loop { pfRec fn tm D .ready none with state:=.busy }):=by rw [<- hW2]; exact World.putObj_heap_same hll
 have hW2k : ∀ k,k ≠ l -> W2.heap[k]? = W.heap[k]?:=λ k hk=>by rw [<- hW2]; exact World.putObj_heap_other hk
 have hon2 : Below s w W2:=by rw [<- hW2]; exact h.on.putObj (by omega) _
 have hk' : ∀ k,k < B1 -> W'.heap[k]? = W2.heap[k]?:=λ k hk=>hW.block k (by omega)
 have hR':=a6o (a6o (Kd.R_below hR hW) (show rb < B1 by omega) (.slice Ao out.length co)) (show eb < B1 by omega) (.int .i64 k)
 have hB5 : Below s w ((W'.setCell ⟨rb,0,none⟩ (.slice Ao out.length co)).setCell ⟨eb,0,none⟩ (.int .i64 k)):=
  ((hon2.trans (hW.mono (by omega))).setCell (p:=⟨rb,0,none⟩) (by show s <= rb; omega) _).setCell (p:=⟨eb,0,none⟩) (by show s <= eb; omega) _
 have hl5 : ((W'.setCell ⟨rb,0,none⟩ (.slice Ao out.length co)).setCell ⟨eb,0,none⟩ (.int .i64 k)).heap[l]? = some (.loop { pfRec fn tm D .ready none with state:=.busy }):=a1s (a1s ((hk' l L7).trans hlp2) (by omega)) (by omega)
 have hd5 : ((W'.setCell ⟨rb,0,none⟩ (.slice Ao out.length co)).setCell ⟨eb,0,none⟩ (.int .i64 k)).heap[D]? = some (.deferred (some [])):=a1s (a1s ((hk' D (by omega)).trans ((hW2k D (by omega)).trans h.dc)) (by omega)) (by omega)
 have hr5 : ((W'.setCell ⟨rb,0,none⟩ (.slice Ao out.length co)).setCell ⟨eb,0,none⟩ (.int .i64 k)).heap[rb]? = some (.cells #[.slice Ao out.length co] 22 (0,0)):=a1s ((a0i ((hk' rb (by omega)).trans ((hW2k rb (by omega)).trans h.rc)) 0 _).trans rfl) (by omega)
 have he5 : ((W'.setCell ⟨rb,0,none⟩ (.slice Ao out.length co)).setCell ⟨eb,0,none⟩ (.int .i64 k)).heap[eb]? = some (.cells #[.int .i64 k] 27 (0,0)):=(a0i (a1s ((hk' eb (by omega)).trans ((hW2k eb (by omega)).trans h.ec)) (by omega)) 0 _).trans rfl
 exact ⟨_,_,run_endRound (some .ret) hl5,rfl,⟨Ao,co,(World.putObj_heap_other (by omega)).trans hr5,R_put hR' L7 _⟩,(World.putObj_heap_other (by omega)).trans he5,World.putObj_heap_same (a0f hl5),(World.putObj_heap_other (by omega)).trans hd5,hB5.putObj (by omega) _⟩
set_option maxRecDepth 100000 in
set_option maxHeartbeats 2000000 in
theorem b1q (m : Nat) (L : Lay s rb eb ob fb lb D l B1) (h : Pf fn (pfTm A n c lim0 rb eb ob v9 v10 f undef undef) s rb eb ob fb lb D l B1 w r lim out W) (y : Value) (k : Int) (hk0 : k ≠ 0) (hk16 : k ≠ 16) :
    RoundIn Fence.wide m Tryz.prog l fn (pfTm A n c lim0 rb eb ob v9 v10 f y (.int .i64 k)) a3S a3T W
     λ e W'=>e = .returned (.bool false) /\ PfX fn (pfTm A n c lim0 rb eb ob v9 v10 f undef undef) s rb eb D l B1 w k out W':=by
 obtain ⟨tm,htm⟩ : ∃ tm,tm = pfTm A n c lim0 rb eb ob v9 v10 f undef undef:=⟨_,rfl⟩
 rw [<- htm] at h ⊢
 refine roundIn_of_wpIn trivial ?_
 have hbr:=run_beginRound (P:=Tryz.prog) h.lp rfl
 obtain ⟨W2,hW2⟩ : ∃ W2,W.putObj l (.loop { pfRec fn tm D .ready none with state:=.busy }) = W2:=⟨_,rfl⟩
 have hbr2 : (Instr.beginRound l).run Tryz.prog W = .ok () W2:=by rw [<- hW2]; exact hbr
 obtain ⟨Ao,co,hv,hR⟩:=h.v
 have hc2 : W2.cell? ⟨ob,0,none⟩ = some (.slice Ao out.length co):=by rw [<- hW2]; exact (a0a ((World.putObj_heap_other (by have:=L.h7; have:=L.h6; have:=L.h5; have:=L.h4; have:=L.h3; omega)).trans hv) 0).trans rfl
 have hR2 : Hid ((Kd.int .u8).R 5 W2 B1 (λ _=>True) (.slice Ao out.length co) out):=Lib.hid (by rw [<- hW2]; exact R_put hR L.h7 _)
 have hcr : W2.cell? ⟨rb,0,none⟩ = some (.slice none 0 0):=by rw [<- hW2]; exact (a0a ((World.putObj_heap_other (by have:=L.h7; have:=L.h6; have:=L.h5; have:=L.h4; have:=L.h3; have:=L.h2; have:=L.h1; omega)).trans h.rc) 0).trans rfl
 have hce : W2.cell? ⟨eb,0,none⟩ = some (.int .i64 0):=by rw [<- hW2]; exact (a0a ((World.putObj_heap_other (by have:=L.h7; have:=L.h6; have:=L.h5; have:=L.h4; have:=L.h3; have:=L.h2; have:=L.h1; omega)).trans h.ec) 0).trans rfl
 have hfr : W2.frozen? ⟨rb,0,none⟩ = false:=by rw [<- hW2]; exact a0e ((World.putObj_heap_other (by have:=L.h7; have:=L.h6; have:=L.h5; have:=L.h4; have:=L.h3; have:=L.h2; have:=L.h1; omega)).trans h.rc) 0
 have hfe : W2.frozen? ⟨eb,0,none⟩ = false:=by rw [<- hW2]; exact a0e ((World.putObj_heap_other (by have:=L.h7; have:=L.h6; have:=L.h5; have:=L.h4; have:=L.h3; have:=L.h2; have:=L.h1; omega)).trans h.ec) 0
 have hre : rb ≠ eb:=by have:=L.h1; omega
 have hk0' : (k == 0) = false:=by simpa using hk0
 have hk16' : (k == 16) = false:=by simpa using hk16
 have HE:=Lib.hid (b8u L h hW2 hR2.out (Below.refl _ _ : SLater W2 W2) k)
 clear hbr hv hR h hW2 htm hR2 hk0 hk16
 unfold a3S pfTm
 gi_wp2
 refine ⟨W2,hbr2,?_⟩
 clear hbr2
 unfold a3T
 gi_wp2
 exact HE.out
set_option maxRecDepth 100000 in
set_option maxHeartbeats 2000000 in
theorem d0w (m : Nat) (L : Lay s rb eb ob fb lb D l B1) (h : Pf fn (pfTm A n c lim0 rb eb ob v9 v10 f undef undef) s rb eb ob fb lb D l B1 w r lim out W) {q : List Int} {Ay : Option Addr} {cy : Nat} (hy : BSl W Ay cy q) (hob : Bytes out) (hl : out.length <= 1000000000000) (hql : q.length <= 1000000) :
    RoundIn Fence.wide m Tryz.prog l fn (pfTm A n c lim0 rb eb ob v9 v10 f (.slice Ay q.length cy) (.int .i64 16)) a3S a3T W
     λ e W'=>e = .returned (.bool false) /\ PfX fn (pfTm A n c lim0 rb eb ob v9 v10 f undef undef) s rb eb D l B1 w (a0S q out) out W':=by
 obtain ⟨tm,htm⟩ : ∃ tm,tm = pfTm A n c lim0 rb eb ob v9 v10 f undef undef:=⟨_,rfl⟩
 rw [<- htm] at h ⊢
 refine roundIn_of_wpIn trivial ?_
 have hbr:=run_beginRound (P:=Tryz.prog) h.lp rfl
 obtain ⟨W2,hW2⟩ : ∃ W2,W.putObj l (.loop { pfRec fn tm D .ready none with state:=.busy }) = W2:=⟨_,rfl⟩
 have hbr2 : (Instr.beginRound l).run Tryz.prog W = .ok () W2:=by rw [<- hW2]; exact hbr
 obtain ⟨Ao,co,hv,hR⟩:=h.v
 have hv2 : W2.heap[ob]? = some (.cells #[.slice Ao out.length co] 22 (0,0)):=by rw [<- hW2]; exact (World.putObj_heap_other (by have:=L.h7; have:=L.h6; have:=L.h5; have:=L.h4; have:=L.h3; omega)).trans hv
 have hR2 : Hid ((Kd.int .u8).R 5 W2 B1 (λ _=>True) (.slice Ao out.length co) out):=Lib.hid (by rw [<- hW2]; exact R_put hR L.h7 _)
 have hr2 : W2.heap[rb]? = some (.cells #[.slice none 0 0] 22 (0,0)):=by rw [<- hW2]; exact (World.putObj_heap_other (by have:=L.h7; have:=L.h6; have:=L.h5; have:=L.h4; have:=L.h3; have:=L.h2; have:=L.h1; omega)).trans h.rc
 have he2 : W2.heap[eb]? = some (.cells #[.int .i64 0] 27 (0,0)):=by rw [<- hW2]; exact (World.putObj_heap_other (by have:=L.h7; have:=L.h6; have:=L.h5; have:=L.h4; have:=L.h3; have:=L.h2; have:=L.h1; omega)).trans h.ec
 have hy2 : BSl W2 Ay cy q:=⟨a5l hy.row (λ hn ad ha=>by rw [<- hW2]; exact World.putObj_heap_other (b8t hy.row h.lp hn ha)),hy.cap,hy.nil,hy.by'⟩
 have HBe : Hid (∀ W',SLater W2 W' -> Calls Tryz.prog 96 #[.slice Ay q.length cy,.slice Ao out.length co] W' (λ e w'=>e = .returned (.int .i64 (a0S q out)) /\ Below W'.heap.size W' w')):=Lib.hid (λ W' hW'=>
  d0q Ay Ao cy co q out W' (hy2.below hW') ((BSl.of hR2.out hob).below hW') hl hql)
 obtain ⟨k,hk⟩ : ∃ k,k = a0S q out:=⟨_,rfl⟩
 rw [<- hk] at HBe
 have HC : Hid (∀ W',SLater W2 W' -> (W'.cell? ⟨ob,0,none⟩ = some (.slice Ao out.length co) /\ W'.cell? ⟨rb,0,none⟩ = some (.slice none 0 0) /\ W'.cell? ⟨eb,0,none⟩ = some (.int .i64 0)) /\ (W'.frozen? ⟨rb,0,none⟩ = false /\ W'.frozen? ⟨eb,0,none⟩ = false)):=Lib.hid (λ W' hW'=>
  ⟨⟨(a0a (a0g hv2 hW') 0).trans rfl,(a0a (a0g hr2 hW') 0).trans rfl,(a0a (a0g he2 hW') 0).trans rfl⟩,a0e (a0g hr2 hW') 0,a0e (a0g he2 hW') 0⟩)
 have hre : rb ≠ eb:=by have:=L.h1; omega
 have HE : Hid (∀ W',SLater W2 W' -> _):=Lib.hid (λ W' (hW' : SLater W2 W')=>b8u L h hW2 hR2.out hW' k)
 have s0 : SLater W2 W2:=Below.refl _ _
 obtain ⟨⟨g1,g2,g3⟩,g4,g5⟩:=HC.out W2 s0
 rw [<- hk]
 clear hbr hv hR h hW2 htm hR2 hv2 hr2 he2 hy2 hy hob hk
 unfold a3S pfTm
 gi_wp2
 refine ⟨W2,hbr2,?_⟩
 clear hbr2
 unfold a3T
 gi_wp2
 gi_region_with (refine ⟨trivial,λ h=>(by cases h),(CallsIn.inRound l (callsIn_wide.2 (HBe.out _ (by first | assumption | exact SLater.drew ‹_›)))).mono ?_⟩; rintro e w' ⟨rfl,hb⟩; have sx:=(by first | exact SLater.keep ‹_› hb | exact SLater.keep (SLater.drew ‹_›) hb : SLater W2 w'); obtain ⟨⟨x1,x2,x3⟩,x4,x5⟩:=HC.out w' sx; clear hb)
 all_goals
  gi_wp2
  exact HE.out _ (by first | assumption | exact SLater.drew ‹_›)
end
end Go.Proofs.YtflfjpkmjnnodaaGreat
namespace Go.Proofs.YtflfjpkmjnnodaaGreat
open Go.RowKit Go.IntWalk Go.Proofs.YtflfjpkmjnnodaaGreatW.PrintWords
attribute [local go_sem] Oper.semAt_some
theorem b8v {one : Bool} {qs : List (List Int)} {ps : List Int} : ∀ (n i : Nat) (la x0 x1 : Int) (left : Nat) (out : List Int),(decGo one qs ps n i la x0 x1 left out).1 = 0 -> (decGo one qs ps n i la x0 x1 left out).2.length = out.length + n
 | 0,i,la,x0,x1,left,out=>by
  unfold decGo
  split
  · intro _; rfl
  · intro h; cases h
 | n + 1,i,la,x0,x1,left,out=>by
  unfold decGo
  dsimp only
  split
  · intro h; cases h
  · split
    · intro h; cases h
    · intro h
      rw [b8v n _ _ _ _ _ _ h,List.length_append]
      simp; omega
theorem b8w {lg : Int} {one : Bool} {qs : List (List Int)} {ps : List Int} {n : Int} (h : (decM lg one qs ps n).1 = 0) : (decM lg one qs ps n).2.length = n.toNat:=by
 unfold decM at h ⊢
 split at h
 · cases h
 · rename_i a1
   rw [if_neg a1]
   split at h
   · cases h
   · rename_i a2
     rw [if_neg a2]
     split at h
     · cases h
     · rename_i a3
       rw [if_neg a3,b8v _ _ _ _ _ _ _ h]
       simp
theorem d0x {k n : Int} {b : List Int} (h : (pickD k b n).1 = 0) : (pickD k b n).2.length = n.toNat:=by
 unfold pickD at h ⊢
 split at h
 · rename_i a1; exact absurd h a1
 · rename_i a1
   rw [if_neg a1]
   split at h
   · rename_i a2
     rw [if_pos a2]
     unfold a2Y at h ⊢
     split at h
     · cases h
     · rename_i b1
       rw [if_neg b1]
       split at h
       · cases h
       · rename_i b2
         rw [if_neg b2]
         dsimp only
         split
         · omega
         · rw [List.length_replicate]
   · rename_i a2
     rw [if_neg a2]
     split at h
     · rename_i a3
       rw [if_pos a3]
       unfold dec0M at h ⊢
       split at h
       · rename_i c1; exact absurd h c1
       · rename_i c1; rw [if_neg c1]; exact b8w h
     · rename_i a3
       rw [if_neg a3]
       unfold dec1M at h ⊢
       split at h
       · rename_i c1; exact absurd h c1
       · rename_i c1; rw [if_neg c1]; exact b8w h
theorem b1r {f : List Int} (hf : Bytes f) {log room : Int} {first : Bool} (h : (openM f log first room).1 = 0) : (openM f log first room).2.1.length <= 131072 /\ ((openM f log first room).2.1.length : Int) <= room /\ Bytes (openM f log first room).2.1:=by
 unfold openM at h ⊢
 split at h
 · rename_i a1; exact absurd h a1
 · rename_i a1
   rw [if_neg a1]
   split at h
   · cases h
   · rename_i a2
     rw [if_neg a2]
     split at h
     · cases h
     · rename_i a3
       rw [if_neg a3]
       split at h
       · rename_i a4; exact absurd h a4
       · rename_i a4
         rw [if_neg a4]
         have hb:=b1o hf (Classical.not_not.1 a1)
         have hp:=d0x (Classical.not_not.1 a4)
         dsimp only
         exact ⟨by omega,by omega,b8m (λ x hx=>hf x (List.mem_of_mem_drop (List.mem_of_mem_take hx)))⟩
theorem d0y {n : Nat} {f : List Int} {log : Int} {first : Bool} {limit : Int} {out : List Int} {k : Int} {y : List Int} {u : Nat} {lt : Bool} (h : openM f log first limit = (k,y,u,lt)) (hk : k ≠ 0) : preG (n + 1) f log first limit out = (k,out):=by
 unfold preG; rw [h]; exact if_pos hk
theorem d0z {n : Nat} {f : List Int} {log : Int} {first : Bool} {limit : Int} {out y : List Int} {u : Nat} (h : openM f log first limit = (0,y,u,true)) : preG (n + 1) f log first limit out = (a0S (f.drop u) (out ++ y),out ++ y):=by
 unfold preG; rw [h]; dsimp only; rw [if_neg (λ h=>h rfl),if_pos rfl]
theorem d0A {n : Nat} {f : List Int} {log : Int} {first : Bool} {limit : Int} {out y : List Int} {u : Nat} (h : openM f log first limit = (0,y,u,false)) : preG (n + 1) f log first limit out = preG n (f.drop u) log false (limit - y.length) (out ++ y):=by
 conv=>lhs; unfold preG
 rw [h]; dsimp only; rw [if_neg (λ h=>h rfl),if_neg (by simp)]
section
variable {fn : FuncId} {A : Option Addr} {n c : Nat} {lim0 : Int} {s rb eb ob fb lb D l B1 : Nat} {v9 v10 fv : Value} {w : World} {r : List Int} {lim : Int} {out : List Int} {W W' : World} {tm : Array Value}
theorem Pf.later (L : Lay s rb eb ob fb lb D l B1) (h : Pf fn tm s rb eb ob fb lb D l B1 w r lim out W) (hb : Below W.heap.size W W') : Pf fn tm s rb eb ob fb lb D l B1 w r lim out W':=by
 obtain ⟨⟨Ar,cr,h1,h2⟩,h3,⟨Ao,co,h4,h5⟩,h6,h7,h8,h9,h10,h11⟩:=h
 have hs : s <= W.heap.size:=by have:=L.h0; have:=L.h1; have:=L.h2; have:=L.h3; have:=L.h4; have:=L.h5; have:=L.h6; have:=L.h7; omega
 exact ⟨⟨Ar,cr,a0g h1 hb,h2⟩,a0g h3 hb,⟨Ao,co,a0g h4 hb,Kd.R_below h5 hb⟩,a0g h6 hb,a0g h7 hb,a0g h8 hb,a0g h9 hb,h10.trans (hb.mono hs),Nat.le_trans h11 hb.size⟩
theorem Pf.setF (L : Lay s rb eb ob fb lb D l B1) (h : Pf fn tm s rb eb ob fb lb D l B1 w r lim out W) {r' : List Int} {Ad : Option Addr} {cd : Nat} (hb : BSl w Ad cd r') : Pf fn tm s rb eb ob fb lb D l B1 w r' lim out (W.setCell ⟨fb,0,none⟩ (.slice Ad r'.length cd)):=by
 obtain ⟨⟨Ar,cr,h1,h2⟩,h3,⟨Ao,co,h4,h5⟩,h6,h7,h8,h9,h10,h11⟩:=h
 have L0:=L.h0; have L1:=L.h1; have L2:=L.h2; have L3:=L.h3; have L4:=L.h4; have L5:=L.h5; have L6:=L.h6; have L7:=L.h7
 exact ⟨⟨Ad,cd,(a0i h1 0 _).trans rfl,hb⟩,a1s h3 (by omega),⟨Ao,co,a1s h4 (by omega),a6o h5 (by omega) _⟩,a1s h6 (by omega),a1s h7 (by omega),a1s h8 (by omega),a1s h9 (by omega),h10.setCell (p:=⟨fb,0,none⟩) (by show s <= fb; omega) _,by simpa [World.setCell] using h11⟩
theorem Pf.setL (L : Lay s rb eb ob fb lb D l B1) (h : Pf fn tm s rb eb ob fb lb D l B1 w r lim out W) (lim' : Int) : Pf fn tm s rb eb ob fb lb D l B1 w r lim' out (W.setCell ⟨lb,0,none⟩ (.int .i64 lim')):=by
 obtain ⟨⟨Ar,cr,h1,h2⟩,h3,⟨Ao,co,h4,h5⟩,h6,h7,h8,h9,h10,h11⟩:=h
 have L0:=L.h0; have L1:=L.h1; have L2:=L.h2; have L3:=L.h3; have L4:=L.h4; have L5:=L.h5; have L6:=L.h6; have L7:=L.h7
 exact ⟨⟨Ar,cr,a1s h1 (by omega),h2⟩,(a0i h3 0 _).trans rfl,⟨Ao,co,a1s h4 (by omega),a6o h5 (by omega) _⟩,a1s h6 (by omega),a1s h7 (by omega),a1s h8 (by omega),a1s h9 (by omega),h10.setCell (p:=⟨lb,0,none⟩) (by show s <= lb; omega) _,by simpa [World.setCell] using h11⟩
def d0B (fn : FuncId) (tm : Array Value) (s rb eb D l B1 : Nat) (w : World) (R : Int × List Int) (e : Ending) (W' : World) : Prop:=(∃ v,e = .returned v) /\ PfX fn tm s rb eb D l B1 w R.1 R.2 W'
set_option maxRecDepth 100000 in
theorem a6p (W : World) (y e : Value) (h : W.heap[l]? = some (.loop (pfRec fn (pfTm A n c lim0 rb eb ob v9 v10 fv undef undef) D .ready none))) :
    (Instr.yield l #[y,e]).run Tryz.prog W = .ok (.round l fn (pfTm A n c lim0 rb eb ob v9 v10 fv y e) a3S a3T) W:=by
 simpa [pfRec,pfTm] using run_yield (P:=Tryz.prog) (args:=#[y,e]) h rfl
set_option maxRecDepth 100000 in
set_option maxHeartbeats 4000000 in
theorem d0C (m : Nat) (L : Lay s rb eb ob fb lb D l B1) (hs : s = w.heap.size) {f : List Int} {limit : Int} (h : Pf fn (pfTm A n c lim0 rb eb ob v9 v10 fv undef undef) s rb eb ob fb lb D l B1 w f limit [] W) (hl : f.length <= 1000000) (hL : limit < 4611686018427387904) :
    CallsIn Fence.wide m Tryz.prog 139 #[.func (.yield l) #[] #[],.pointer (some ⟨fb,0,none⟩),.pointer (some ⟨lb,0,none⟩)] W (d0B fn (pfTm A n c lim0 rb eb ob v9 v10 fv undef undef) s rb eb D l B1 w (a0u f limit)):=by
 obtain ⟨Af,cf,hfc,hbs⟩:=h.fc
 have hbsW:=hbs.below (by rw [<- hs]; exact h.on)
 have HHd:=Lib.hid (b8i Af cf f W hbsW hl)
 have hcf : W.cell? ⟨fb,0,none⟩ = some (.slice Af f.length cf):=(a0a hfc 0).trans rfl
 have HP:=Lib.hid h
 have HL:=Lib.hid L
 obtain ⟨tm,htm⟩ : ∃ tm,tm = pfTm A n c lim0 rb eb ob v9 v10 fv undef undef:=⟨_,rfl⟩
 have hbf:=hbs.by'
 by_cases hn : limit < 0
 · have HR : Hid (a0u f limit = (1,[])):=Lib.hid (by unfold a0u; rw [if_pos hn])
   obtain ⟨lg,hlg⟩ : ∃ k,k = a2g f:=⟨_,rfl⟩
   obtain ⟨hm,hhm⟩ : ∃ k,k = headM f:=⟨_,rfl⟩
   rw [<- hlg,<- hhm] at HHd
   clear h L hfc hbs hbsW htm hlg hhm
   refine callsIn_of_wp Tryz.func139 rfl trivial ?_ rfl
   simp only [Tryz.ntmps139,List.size_toArray,List.length_cons,List.length_nil,Nat.reduceAdd,Nat.reduceSub,Array.replicate_succ,Array.replicate_zero,List.push_toArray,List.append_toArray,List.nil_append,List.cons_append]
   gi_wp2
   refine ⟨trivial,λ h=>(by cases h),(callsIn_wide.2 HHd.out).mono ?_⟩
   rintro e w1 ⟨rfl,hb1⟩
   have HP1:=Lib.hid (HP.out.later HL.out hb1)
   have hcl : w1.cell? ⟨lb,0,none⟩ = some (.int .i64 limit):=(a0a HP1.out.lc 0).trans rfl
   have hy:=a6p w1 (.slice none 0 0) (.int .i64 1) HP1.out.lp
   clear hb1
   gi_wp2
   refine ⟨λ h=>(by cases h),(b1q (m - 1) HL.out HP1.out (.slice none 0 0) 1 (by decide) (by decide)).mono ?_⟩
   rintro e w2 ⟨rfl,hX⟩
   have HX:=Lib.hid hX
   clear hX hy
   gi_wp2
   go_end0
   rw [HR.out]
   exact ⟨⟨_,rfl⟩,HX.out⟩
 · by_cases hh : headM f = 0
   · have h8:=b8s hh
     obtain ⟨hlg,-,-⟩:=b8r hh hbf
     obtain ⟨lg,hlg0⟩ : ∃ l,l = a2g f:=⟨_,rfl⟩
     have HR : Hid (a0u f limit = preG (f.length + 1) (f.drop 8) lg true limit []):=Lib.hid (by
      unfold a0u
      rw [if_neg hn,if_neg (λ h=>h hh),hlg0,hlg])
     rw [hh,<- hlg0] at HHd
     have hnI : ¬ limit < 0:=hn
     have hsf:=a2f Af f.length cf 8 h8
     have HDr:=Lib.hid (hbs.from_ (k:=8) h8)
     obtain ⟨Ad,hAd⟩ : ∃ Ad,Ad = (if cf = 8 then Af else Af.map (·.add (8 * 1))):=⟨_,rfl⟩
     rw [<- hAd] at HDr hsf
     obtain ⟨r0,hr0⟩ : ∃ r,r = f.drop 8:=⟨_,rfl⟩
     have hr0l : f.length - 8 = r0.length:=by rw [hr0,List.length_drop]
     rw [<- hr0] at HDr HR
     rw [hr0l] at hsf
     have hsf : ∀ W : World,(Instr.slice 22 (.slice Af f.length cf) (some (.int .i64 8)) none none).run Tryz.prog W = .ok (.slice Ad r0.length (cf - 8)) W:=hsf
     have hc8 : (8 : Int) <= (cf : Int):=by have:=hbs.cap; omega
     have h8I : (8 : Int) <= (f.length : Int):=by omega
     obtain ⟨PR,hPR⟩ : ∃ S,S = a0u f limit:=⟨_,rfl⟩
     rw [<- hPR] at HR ⊢
     have HN:=Lib.hid (show r0.length < f.length + 1 /\ r0.length <= 1000000 by omega)
     have hne1 : fb ≠ lb:=by have:=L.h4; omega
     have hne2 : lb ≠ fb:=by have:=L.h4; omega
     clear h L hfc hbs hbsW htm hh hlg hlg0 hAd hr0 hPR hr0l hn h8 hbf
     refine callsIn_of_wp Tryz.func139 rfl trivial ?_ rfl
     simp only [Tryz.ntmps139,List.size_toArray,List.length_cons,List.length_nil,Nat.reduceAdd,Nat.reduceSub,Array.replicate_succ,Array.replicate_zero,List.push_toArray,List.append_toArray,List.nil_append,List.cons_append]
     gi_wp2
     refine ⟨trivial,λ h=>(by cases h),(callsIn_wide.2 HHd.out).mono ?_⟩
     rintro e w1 ⟨rfl,hb1⟩
     have HP1:=Lib.hid (HP.out.later HL.out hb1)
     have hcl : w1.cell? ⟨lb,0,none⟩ = some (.int .i64 limit):=(a0a HP1.out.lc 0).trans rfl
     have hcf1 : w1.cell? ⟨fb,0,none⟩ = some (.slice Af f.length cf):=a0q hb1 hcf
     have hff1 : w1.frozen? ⟨fb,0,none⟩ = false:=by obtain ⟨_,_,h,_⟩:=HP1.out.fc; exact a0e h 0
     have HP2:=Lib.hid (HP1.out.setF HL.out HDr.out)
     clear hb1
     gi_wp2
     gi_loopw [6,7,8,9,10] (λ bv _ _ _ _ wr=>∃ (n' : Nat) (r : List Int) (lim : Int) (out : List Int) (fb' : Bool),bv = .bool fb' /\ Hid (preG n' r lg fb' lim out = PR /\ r.length < n' /\ Pf fn (pfTm A n c lim0 rb eb ob v9 v10 fv undef undef) s rb eb ob fb lb D l B1 w r lim out wr /\ Bytes out /\ out.length + 131072 * r.length <= 131072000000 /\ 0 <= lim /\ lim <= limit /\ r.length <= 1000000)) (λ _ _ _ _ _ wr=>slN ((wr.cell? ⟨fb,0,none⟩).getD undef))
     case atStart=>exact ⟨f.length + 1,r0,limit,[],true,rfl,Lib.hid ⟨HR.out.symm,HN.out.1,HP2.out,(λ x h=>by cases h),by have:=HN.out.2; simp; omega,by omega,Int.le_refl _,HN.out.2⟩⟩
     case round=>
      obtain ⟨n',r,lim,out,fb',rfl,H⟩:=hrel
      obtain ⟨n',rfl⟩ : ∃ m,n' = m + 1:=⟨n' - 1,by have:=H.out.2.1; omega⟩
      obtain ⟨Ar,cr,hrc,hbr⟩:=H.out.2.2.1.fc
      have hcr : wr.cell? ⟨fb,0,none⟩ = some (.slice Ar r.length cr):=(a0a hrc 0).trans rfl
      have hcl2 : wr.cell? ⟨lb,0,none⟩ = some (.int .i64 lim):=(a0a H.out.2.2.1.lc 0).trans rfl
      have hbw:=hbr.below (by rw [<- hs]; exact H.out.2.2.1.on)
      have HOp:=Lib.hid (b1p Ar cr r lg fb' lim wr hbw.row hbw.by' H.out.2.2.2.2.2.2.2 hbw.cap)
      have HUse:=Lib.hid (λ h=>a3M (f:=r) (log:=lg) (room:=lim) (first:=fb') h)
      have HLen:=Lib.hid (λ h=>b1r hbw.by' (log:=lg) (room:=lim) (first:=fb') h)
      have h16:=d0b (f:=r) (log:=lg) (room:=lim) (first:=fb')
      obtain ⟨k,y,u,lt,hO⟩ : ∃ k y u lt,openM r lg fb' lim = (k,y,u,lt):=⟨_,_,_,_,rfl⟩
      have HO:=Lib.hid hO
      rw [hO] at HOp HUse HLen h16
      dsimp only at HUse HLen h16
      unfold OpenPost at HOp
      dsimp only at HOp
      have HBr:=Lib.hid hbr
      clear hO hbw hbr hrc
      gi_wp2
      refine ⟨trivial,λ h=>(by cases h),(callsIn_wide.2 HOp.out).mono ?_⟩
      rintro e w2 ⟨Ay,cy,rfl,hRy,hb2⟩
      have HPw:=Lib.hid (H.out.2.2.1.later HL.out hb2)
      by_cases hk : k = 0
      · subst hk
        have hU:=HUse.out rfl
        have hLe:=HLen.out rfl
        have hy:=a6p w2 (.slice Ay y.length cy) (.int .i64 0) HPw.out.lp
        have HRd:=Lib.hid (d0v (cy:=cy) (m - 1) HL.out HPw.out (Kd.R_reads' hRy).2.2 (by have:=H.out.2.2.2.2.1; have:=hLe.1; omega))
        have HUL:=Lib.hid (And.intro hU hLe)
        have hcr2 : w2.cell? ⟨fb,0,none⟩ = some (.slice Ar r.length cr):=a0q hb2 hcr
        clear hRy hb2 h16
        gi_wp2
        refine ⟨λ h=>(by cases h),HRd.out.mono ?_⟩
        rintro e w3 ⟨rfl,hP3⟩
        obtain ⟨A3,c3,hf3,hb3⟩:=hP3.fc
        have hc3 : w3.cell? ⟨fb,0,none⟩ = some (.slice A3 r.length c3):=(a0a hf3 0).trans rfl
        have hfz3 : w3.frozen? ⟨fb,0,none⟩ = false:=a0e hf3 0
        have hcl3 : w3.cell? ⟨lb,0,none⟩ = some (.int .i64 lim):=(a0a hP3.lc 0).trans rfl
        have hfl3 : w3.frozen? ⟨lb,0,none⟩ = false:=a0e hP3.lc 0
        have hsf3:=a2f A3 r.length c3 u HUL.out.1.2
        have HDr3:=Lib.hid (hb3.from_ (k:=u) HUL.out.1.2)
        obtain ⟨Ad3,hAd3⟩ : ∃ Ad,Ad = (if c3 = u then A3 else A3.map (·.add (u * 1))):=⟨_,rfl⟩
        rw [<- hAd3] at HDr3 hsf3
        obtain ⟨r3,hr3⟩ : ∃ r3,r3 = r.drop u:=⟨_,rfl⟩
        have hr3l : r.length - u = r3.length:=by rw [hr3,List.length_drop]
        have HR3:=Lib.hid hr3
        rw [<- hr3] at HDr3
        rw [hr3l] at hsf3
        have hcu : (u : Int) <= (c3 : Int):=by have:=hb3.cap; have:=HUL.out.1.2; omega
        have hru : (u : Int) <= (r.length : Int):=by have:=HUL.out.1.2; omega
        have hu0 : (0 : Int) <= (u : Int):=by omega
        have hwl : IntKind.i64.wrap (lim - (y.length : Int)) = lim - (y.length : Int):=i64_in _ (by have:=HUL.out.2; have:=H.out.2.2.2.2.2; omega)
        have HP3:=Lib.hid hP3
        have HP4:=Lib.hid ((hP3.setF HL.out HDr3.out).setL HL.out (lim - (y.length : Int)))
        have HLt:=Lib.hid (show r3.length + 11 <= r.length by have:=HUL.out.1; omega)
        have hf4 : ((w3.setCell ⟨fb,0,none⟩ (.slice Ad3 r3.length (c3 - u))).setCell ⟨lb,0,none⟩ (.int .i64 (lim - (y.length : Int)))).heap[fb]? = some (.cells #[.slice Ad3 r3.length (c3 - u)] 22 (0,0)):=a1s ((a0i hf3 0 _).trans rfl) hne1
        have hc4 : ((w3.setCell ⟨fb,0,none⟩ (.slice Ad3 r3.length (c3 - u))).setCell ⟨lb,0,none⟩ (.int .i64 (lim - (y.length : Int)))).cell? ⟨fb,0,none⟩ = some (.slice Ad3 r3.length (c3 - u)):=(a0a hf4 0).trans rfl
        clear hP3 hf3 hf4 hb3 hAd3 hr3 hr3l
        cases lt with
        | true=>
         have hy4:=a6p _ (.slice Ad3 r3.length (c3 - u)) (.int .i64 16) HP4.out.lp
         have HSt:=Lib.hid (d0w (m - 1) HL.out HP4.out (q:=r3) (Ay:=Ad3) (cy:=c3 - u) (HDr3.out.below (by rw [<- hs]; exact HP4.out.on)) (λ x hx=>(List.mem_append.1 hx).elim (H.out.2.2.2.1 x) (HUL.out.2.2.2 x)) (by rw [List.length_append]; have:=HUL.out.2.1; have:=H.out.2.2.2.2.1; omega) (by have:=HLt.out; have:=H.out.2.2.2.2.2.2.2; omega))
         gi_wp2
         refine ⟨λ h=>(by cases h),HSt.out.mono ?_⟩
         rintro e w5 ⟨rfl,hX⟩
         have HX:=Lib.hid hX
         clear hX hy4
         gi_wp2
         go_end0
         have h1:=H.out.1
         rw [d0z HO.out,<- HR3.out] at h1
         rw [<- h1]
         exact ⟨⟨_,rfl⟩,HX.out⟩
        | false=>
         gi_wp2
         go_roundw
         case rel=>exact ⟨n',r3,lim - (y.length : Int),out ++ y,false,rfl,Lib.hid ⟨by have h1:=H.out.1; rw [d0A HO.out,<- HR3.out] at h1; exact h1,by have:=H.out.2.1; have:=HLt.out; omega,HP4.out,(λ x hx=>(List.mem_append.1 hx).elim (H.out.2.2.2.1 x) (HUL.out.2.2.2 x)),by rw [List.length_append]; have:=HUL.out.2.1; have:=H.out.2.2.2.2.1; have:=HLt.out; omega,by have:=HUL.out.2; omega,by have:=H.out.2.2.2.2.2; omega,by have:=HLt.out; have:=H.out.2.2.2.2.2.2.2; omega⟩⟩
         case measure=>rw [hc4,hcr]; have:=HLt.out; simp [slN]; omega
      · have hk2 : (k != 0) = true:=by simpa using hk
        have hy:=a6p w2 (.slice Ay y.length cy) (.int .i64 k) HPw.out.lp
        have HSt:=Lib.hid (b1q (m - 1) HL.out HPw.out (.slice Ay y.length cy) k hk h16)
        have HE:=Lib.hid (d0y (n:=n') (out:=out) HO.out hk)
        clear hRy hb2 h16 hk
        gi_wp2
        refine ⟨λ h=>(by cases h),HSt.out.mono ?_⟩
        rintro e w3 ⟨rfl,hX⟩
        have HX:=Lib.hid hX
        clear hX hy
        gi_wp2
        go_end0
        have h1:=H.out.1
        rw [HE.out] at h1
        rw [<- h1]
        exact ⟨⟨_,rfl⟩,HX.out⟩
   · have HR : Hid (a0u f limit = (headM f,[])):=Lib.hid (by unfold a0u; rw [if_neg hn,if_pos hh])
     obtain ⟨lg,hlg⟩ : ∃ k,k = a2g f:=⟨_,rfl⟩
     have hm16:=d0d (f:=f)
     obtain ⟨k,hk⟩ : ∃ k,k = headM f:=⟨_,rfl⟩
     rw [<- hlg,<- hk] at HHd
     rw [<- hk] at hh hm16 HR
     have hk2 : (k != 0) = true:=by simpa using hh
     clear h L hfc hbs hbsW htm hlg hk
     refine callsIn_of_wp Tryz.func139 rfl trivial ?_ rfl
     simp only [Tryz.ntmps139,List.size_toArray,List.length_cons,List.length_nil,Nat.reduceAdd,Nat.reduceSub,Array.replicate_succ,Array.replicate_zero,List.push_toArray,List.append_toArray,List.nil_append,List.cons_append]
     gi_wp2
     refine ⟨trivial,λ h=>(by cases h),(callsIn_wide.2 HHd.out).mono ?_⟩
     rintro e w1 ⟨rfl,hb1⟩
     have HP1:=Lib.hid (HP.out.later HL.out hb1)
     have hcl : w1.cell? ⟨lb,0,none⟩ = some (.int .i64 limit):=(a0a HP1.out.lc 0).trans rfl
     have hy:=a6p w1 (.slice none 0 0) (.int .i64 k) HP1.out.lp
     have HSt:=Lib.hid (b1q (m - 1) HL.out HP1.out (.slice none 0 0) k hh hm16)
     clear hb1 hh hm16
     gi_wp2
     refine ⟨λ h=>(by cases h),HSt.out.mono ?_⟩
     rintro e w2 ⟨rfl,hX⟩
     have HX:=Lib.hid hX
     clear hX hy
     gi_wp2
     go_end0
     rw [HR.out]
     exact ⟨⟨_,rfl⟩,HX.out⟩
end
end Go.Proofs.YtflfjpkmjnnodaaGreat
namespace Go.Proofs.YtflfjpkmjnnodaaGreat
open Go.RowKit
theorem b1s {limit : Int} {s : PSt} (h : ¬ (stepP limit s).1 = true) : (stepP limit s).2.2 = s:=by
 unfold stepP at h ⊢
 by_cases a0 : s.ph = 0
 · rw [if_pos a0] at h ⊢
   by_cases a1 : headM (s.rest.take 8) ≠ 0
   · rw [if_pos a1]
   · rw [if_neg a1] at h; exact absurd rfl h
 rw [if_neg a0] at h ⊢
 by_cases a1 : s.ph = 1
 · rw [if_pos a1] at h ⊢
   by_cases a2 : (openM s.rest s.log s.first (limit - s.x.length)).1 ≠ 0
   · rw [if_pos a2]
   · rw [if_neg a2] at h; exact absurd rfl h
 · rw [if_neg a1]
theorem b1t {limit : Int} {s : PSt} (n : Nat) (h : (stepP limit s).1 = true) : runP limit (n + 1) s = runP limit n (stepP limit s).2.2:=by rw [runP,if_pos h]
theorem a8g {limit : Int} {s : PSt} (n : Nat) (h : ¬ (stepP limit s).1 = true) : runP limit (n + 1) s = ((stepP limit s).2.1,s):=by rw [runP,if_neg h,b1s h]
theorem b8x (limit : Int) : ∀ (n : Nat) (s : PSt),leftP s < n -> ¬ (stepP limit (runP limit n s).2).1 = true /\ (stepP limit (runP limit n s).2).2.1 = (runP limit n s).1
 | 0,_,h=>by omega
 | n + 1,s,h=>by
  by_cases a : (stepP limit s).1 = true
  · rw [b1t n a]
    exact b8x limit n _ (by have:=a4t a; omega)
  · rw [a8g n a]
    exact ⟨a,rfl⟩
def pullR (limit : Int) (f : List Int) : Int × PSt:=runP limit (f.length + 3) (addP start0 f)
theorem a8h (f : List Int) : leftP (addP start0 f) = f.length + 2:=by
 show ([] ++ f).length + 2 = _
 rw [List.nil_append]
theorem a3U {limit : Int} (hL : 0 <= limit) (f : List Int) : a0u f limit = ((pullR limit f).1,(pullR limit f).2.x):=c8e hL f (by omega)
theorem b8y (f b : List Int) : addP (addP start0 f) b = addP start0 (f ++ b):=by
 show ({ ph:=0,rest:=([] ++ f) ++ b,log:=0,first:=true,x:=[] } : PSt) = { ph:=0,rest:=[] ++ (f ++ b),log:=0,first:=true,x:=[] }
 rw [List.append_assoc]
theorem b1u (limit : Int) (f b : List Int) {m : Nat} (hm : leftP (addP (pullR limit f).2 b) < m) : pullR limit (f ++ b) = runP limit m (addP (pullR limit f).2 b):=by
 have h:=b7i limit b (f.length + 3) ((f ++ b).length + 3) m (addP start0 f) (by rw [a8h]; omega) (by rw [b8y,a8h]; omega) hm
 rw [b8y] at h
 exact h
theorem b8z {limit : Int} {f : List Int} (b : List Int) (h3 : (pullR limit f).1 ≠ 3) (h0 : (pullR limit f).1 ≠ 0) : (pullR limit (f ++ b)).1 = (pullR limit f).1 /\ (pullR limit (f ++ b)).2.x = (pullR limit f).2.x:=by
 rw [b1u limit f b (m:=leftP (addP (pullR limit f).2 b) + 1) (by omega)]
 obtain ⟨h1,h2⟩:=b8x limit (f.length + 3) (addP start0 f) (by rw [a8h]; omega)
 have hs:=c8f (limit:=limit) (s:=(pullR limit f).2) b (by simpa [pullR] using h1) (by rw [show (stepP limit (pullR limit f).2).2.1 = (pullR limit f).1 from h2]; exact h3) (by rw [show (stepP limit (pullR limit f).2).2.1 = (pullR limit f).1 from h2]; exact h0)
 obtain ⟨g1,g2,g3⟩:=hs
 rw [a8g _ (by rw [g1]; decide),g2]
 exact ⟨h2,rfl⟩
theorem d0D (limit : Int) : pullR limit [] = (3,start0):=rfl
theorem b8A (limit : Int) (s : PSt) (hb : Bytes s.rest) : ∃ y,(stepP limit s).2.2.x = s.x ++ y /\ Bytes y /\ Bytes (stepP limit s).2.2.rest /\ y.length + 131072 * (stepP limit s).2.2.rest.length <= 131072 * s.rest.length /\ (stepP limit s).2.2.rest.length <= s.rest.length /\ y.length <= 131072 /\ ((s.x.length : Int) <= limit -> ((stepP limit s).2.2.x.length : Int) <= limit):=by
 unfold stepP
 by_cases a0 : s.ph = 0
 · rw [if_pos a0]
   by_cases a1 : headM (s.rest.take 8) ≠ 0
   · rw [if_pos a1]
     exact ⟨[],(List.append_nil _).symm,λ x h=>(by cases h),hb,by simp,Nat.le_refl _,by simp,λ h=>h⟩
   · rw [if_neg a1]
     refine ⟨[],(List.append_nil _).symm,λ x h=>(by cases h),λ x h=>hb x (List.mem_of_mem_drop h),?_,?_,by simp,λ h=>h⟩
     · dsimp only; rw [List.length_drop,List.length_nil]; omega
     · dsimp only; rw [List.length_drop]; omega
 rw [if_neg a0]
 by_cases a1 : s.ph = 1
 · rw [if_pos a1]
   by_cases a2 : (openM s.rest s.log s.first (limit - s.x.length)).1 ≠ 0
   · rw [if_pos a2]
     exact ⟨[],(List.append_nil _).symm,λ x h=>(by cases h),hb,by simp,Nat.le_refl _,by simp,λ h=>h⟩
   · rw [if_neg a2]
     have hu:=a3M (Classical.not_not.1 a2)
     obtain ⟨h1,h2,h3⟩:=b1r hb (Classical.not_not.1 a2)
     refine ⟨_,rfl,h3,λ x h=>hb x (List.mem_of_mem_drop h),?_,?_,h1,λ h=>?_⟩
     · dsimp only; rw [List.length_drop]; omega
     · dsimp only; rw [List.length_drop]; omega
     · dsimp only; rw [List.length_append]; omega
 · rw [if_neg a1]
   exact ⟨[],(List.append_nil _).symm,λ x h=>(by cases h),hb,by simp,Nat.le_refl _,by simp,λ h=>h⟩
theorem b1v (limit : Int) : ∀ (n : Nat) (s : PSt),Bytes s.rest -> leftP s < n -> ∃ y,(runP limit n s).2.x = s.x ++ y /\ Bytes y /\ Bytes (runP limit n s).2.rest /\ y.length + 131072 * (runP limit n s).2.rest.length <= 131072 * s.rest.length /\ (runP limit n s).2.rest.length <= s.rest.length /\ ((s.x.length : Int) <= limit -> ((runP limit n s).2.x.length : Int) <= limit)
 | 0,_,_,h=>by omega
 | n + 1,s,hb,h=>by
  by_cases a : (stepP limit s).1 = true
  · rw [b1t n a]
    obtain ⟨y,e1,e2,e3,e4,e5,-,e6⟩:=b8A limit s hb
    obtain ⟨z,g1,g2,g3,g4,g5,g6⟩:=b1v limit n _ e3 (by have:=a4t a; omega)
    exact ⟨y ++ z,by rw [g1,e1,List.append_assoc],λ x h=>(List.mem_append.1 h).elim (e2 x) (g2 x),g3,by rw [List.length_append]; omega,by omega,λ h=>g6 (e6 h)⟩
  · rw [a8g n a]
    exact ⟨[],(List.append_nil _).symm,λ x h=>(by cases h),hb,by simp,Nat.le_refl _,λ h=>h⟩
theorem a8i (limit : Int) {f : List Int} (hf : Bytes f) : Bytes (pullR limit f).2.x /\ Bytes (pullR limit f).2.rest /\ (pullR limit f).2.x.length + 131072 * (pullR limit f).2.rest.length <= 131072 * f.length /\ (0 <= limit -> ((pullR limit f).2.x.length : Int) <= limit):=by
 have e1 : (addP start0 f).rest = f:=List.nil_append f
 obtain ⟨y,h1,h2,h3,h4,-,h6⟩:=b1v limit (f.length + 3) (addP start0 f) (by rw [e1]; exact hf) (by rw [a8h]; omega)
 rw [e1] at h4
 have h1 : (pullR limit f).2.x = y:=h1
 refine ⟨by rw [h1]; exact h2,h3,by rw [h1]; exact h4,λ h=>h6 h⟩
theorem d0E {limit : Int} (hL : 0 <= limit) (r : List Int) : (a0u (r.take 8) limit).1 = (if headM (r.take 8) ≠ 0 then headM (r.take 8) else 3):=by
 unfold a0u
 rw [if_neg (by omega)]
 by_cases a : headM (r.take 8) ≠ 0
 · rw [if_pos a,if_pos a]
 · rw [if_neg a,if_neg a]
   have e : (r.take 8).drop 8 = []:=List.drop_of_length_le (by rw [List.length_take]; omega)
   rw [e]
   have ho : (openM [] ((r.take 8).getD 5 0) true limit).1 ≠ 0:=λ h=>by have:=a3M h; simp at this; omega
   have hs : (openM [] ((r.take 8).getD 5 0) true limit).1 = 3:=by
    have hl:=b0P (Classical.not_not.1 a)
    obtain ⟨k,hk⟩ : ∃ k,k = (r.take 8).getD 5 0:=⟨_,rfl⟩
    have hlog : 10 <= k /\ k <= 17:=by
     have h0:=Classical.not_not.1 a
     unfold headM at h0
     have h5 : headE 5 ((r.take 8).getD 5 0) = 0:=by
      have g : ∀ (d i : Nat),headG (r.take 8) d i = 0 -> ∀ j,i <= j -> j < i + d -> headE j ((r.take 8).getD j 0) = 0:=by
       intro d
       induction d with
       | zero=>intro i _ j _ _; omega
       | succ d ih=>
        intro i h j h1 h2
        unfold headG at h
        split at h
        · cases h
        · split at h
          · rename_i hh; exact absurd h hh
          · rename_i hh
            by_cases e : j = i
            · rw [e]; exact Classical.not_not.1 hh
            · exact ih (i + 1) h j (by omega) (by omega)
      exact g 8 0 h0 5 (by omega) (by omega)
     rw [<- hk] at h5
     unfold headE at h5
     rw [if_neg (by omega),if_neg (by omega)] at h5
     by_cases b : 10 <= k /\ k <= 17
     · exact b
     · rw [if_pos ⟨rfl,b⟩] at h5; cases h5
    rw [<- hk]
    have hsc : scanM [] k true limit = (3,headZ):=by
     unfold scanM
     rw [if_neg (by omega),if_pos (by decide)]
    unfold openM
    rw [hsc]
    rfl
   unfold preG
   rw [if_pos ho,hs]
def errF (k : Int) : Int:=if k = 3 then 0 else k
end Go.Proofs.YtflfjpkmjnnodaaGreat
namespace Go.Proofs.YtflfjpkmjnnodaaGreat
open Go.RowKit Go.IntWalk Go.Proofs.YtflfjpkmjnnodaaGreatW.PrintWords
attribute [local go_sem] Oper.semAt_some
set_option maxRecDepth 100000 in
theorem d0F (A : Option Addr) (n c : Nat) (lim : Int) (w : World) :
    Calls Tryz.prog 95 #[.slice A n c,.int .i64 lim] w λ e w'=>e = .returned (.func (.func 139) #[] #[.pointer (some ⟨w.heap.size,0,none⟩),.pointer (some ⟨w.heap.size + 1,0,none⟩)]) /\ w' = (w.alloc (.cells #[.slice A n c] 22)).alloc (.cells #[.int .i64 lim] 3):=by
 have hmf : ∀ (fn : Fn) (first cap : Array Value) (w : World),(Instr.makeFunc fn first cap).run Tryz.prog w = .ok (.func fn first cap) w:=λ _ _ _ _=>rfl
 go_enter Tryz.func95,Tryz.ntmps95
 go_wp2_with fail
 go_ret
 exact ⟨by simp,rfl⟩
theorem d0G {w : World} {g : Nat} {v : Value} (h : w.heap[g]? = some (.cells #[v] 22 (0,0))) : (loadVar 22 ⟨g,0,none⟩).run Tryz.prog w = .ok v w:=by
 have hc : w.cell? ⟨g,0,none⟩ = some v:=(a0a h 0).trans rfl
 simp [go_sem,hc]
theorem pfEnd {w W : World} {L : List Int} {A : Option Addr} {c : Nat} {x : Int} {D B1 : Nat} {tmps : Array Value} (hD : w.heap.size + 1 < D) (hB : Below w.heap.size w W) (kr : W.heap[w.heap.size]? = some (.cells #[.slice A L.length c] 22 (0,0))) (ke : W.heap[w.heap.size + 1]? = some (.cells #[.int .i64 x] 27 (0,0)))
    (kd : W.heap[D]? = some (.deferred (some []))) (hR : (Kd.int .u8).R 5 W B1 (λ _=>True) (.slice A L.length c) L) (hDB : D < B1)
    (h2 : tmps.getD 4 undef = .pointer (some ⟨w.heap.size,0,none⟩)) (h3 : tmps.getD 5 undef = .pointer (some ⟨w.heap.size + 1,0,none⟩)) :
    LeavesInM Fence.wide 3 Tryz.prog Tryz.f45 tmps (Told x L w) [{ target:=.collected D,args:=#[] }] .returning W:=by
 refine ⟨by simp,.inl ⟨_,_,rfl,run_takeDeferred kd,?_⟩⟩
 refine ⟨_,b0T (fn:=Tryz.f45) (p:=4) (q:=5) (t:=22) (u:=27) rfl _ _ _ _ _ _ h2 h3 (d0G ((World.putObj_heap_other (by omega)).trans kr)) (b0U ((World.putObj_heap_other (by omega)).trans ke)),?_⟩
 exact ⟨A,c,rfl,Kd.R_lower (R_put hR hDB _) (by omega),hB.putObj (by omega) _⟩
set_option maxRecDepth 100000 in
set_option maxHeartbeats 2000000 in
theorem b8B (A : Option Addr) (c : Nat) (f : List Int) (limit : Int) (w : World) (hf : BSl w A c f) (hl : f.length <= 1000000) (hL : limit < 4611686018427387904) :
    Calls Tryz.prog 45 #[.slice A f.length c,.int .i64 limit] w (Told (a0u f limit).1 (a0u f limit).2 w):=by
 refine (callsIn_wide (n:=3)).1 ?_
 refine callsIn_of_wp_marks Tryz.func45 rfl trivial ?_ rfl
 simp only [Tryz.ntmps45,List.size_toArray,List.length_cons,List.length_nil,Nat.reduceAdd,Nat.reduceSub,Array.replicate_succ,Array.replicate_zero,List.push_toArray,List.append_toArray,List.nil_append,List.cons_append]
 obtain ⟨W0,hW0⟩ : ∃ W0,W0 = ((w.alloc (.cells #[.slice none 0 0] 22)).alloc (.cells #[.int .i64 0] 27)).alloc (.cells #[.slice none 0 0] 22):=⟨_,rfl⟩
 have HX:=Lib.hid (And.intro hf hl)
 clear hf hl
 gi_wp2
 rw [<- hW0]
 have hs0 : W0.heap.size = w.heap.size + 1 + 1 + 1:=by rw [hW0]; simp
 have hB0 : Below w.heap.size w W0:=by rw [hW0]; exact (((Below.refl w.heap.size w).alloc (Nat.le_refl _) _).alloc (by simp) _).alloc (by simp; omega) _
 have kr0 : W0.heap[w.heap.size]? = some (.cells #[.slice none 0 0] 22 (0,0)):=by rw [hW0]; exact a0h (a0h (a0l _ _) _) _
 have ke0 : W0.heap[w.heap.size + 1]? = some (.cells #[.int .i64 0] 27 (0,0)):=by rw [hW0]; exact a0h (a2i _ _ _) _
 have ko0 : W0.heap[w.heap.size + 1 + 1]? = some (.cells #[.slice none 0 0] 22 (0,0)):=by
  have:=a0l ((w.alloc (.cells #[.slice none 0 0] 22)).alloc (.cells #[.int .i64 0] 27)) (.cells #[.slice none 0 0] 22)
  simp only [World.size_alloc] at this
  rw [hW0]; exact this
 have H0:=Lib.hid (And.intro hs0 (And.intro hB0 (And.intro kr0 (And.intro ke0 ko0))))
 clear hW0 hs0 hB0 kr0 ke0 ko0
 refine ⟨trivial,(callsIn_wide.2 (d0F A f.length c limit W0)).mono ?_⟩
 rintro e w1 ⟨rfl,rfl⟩
 obtain ⟨Wb,hWb⟩ : ∃ Wb,Wb = (W0.alloc (.cells #[.slice A f.length c] 22)).alloc (.cells #[.int .i64 limit] 3):=⟨_,rfl⟩
 obtain ⟨pb,hpb⟩ : ∃ pb,pb = W0.heap.size:=⟨_,rfl⟩
 rw [<- hWb,<- hpb]
 have hsb : Wb.heap.size = pb + 1 + 1:=by rw [hWb,hpb]; simp
 have hps : pb = w.heap.size + 1 + 1 + 1:=by rw [hpb]; exact H0.out.1
 have hBb : Below w.heap.size w Wb:=by rw [hWb]; exact (H0.out.2.1.alloc (by have:=H0.out.1; omega) _).alloc (by have:=H0.out.1; simp; omega) _
 have kr : Wb.heap[w.heap.size]? = some (.cells #[.slice none 0 0] 22 (0,0)):=by rw [hWb]; exact a0h (a0h H0.out.2.2.1 _) _
 have ke : Wb.heap[w.heap.size + 1]? = some (.cells #[.int .i64 0] 27 (0,0)):=by rw [hWb]; exact a0h (a0h H0.out.2.2.2.1 _) _
 have ko : Wb.heap[w.heap.size + 1 + 1]? = some (.cells #[.slice none 0 0] 22 (0,0)):=by rw [hWb]; exact a0h (a0h H0.out.2.2.2.2 _) _
 have kf : Wb.heap[pb]? = some (.cells #[.slice A f.length c] 22 (0,0)):=by rw [hWb,hpb]; exact a0h (a0l W0 _) _
 have kl : Wb.heap[pb + 1]? = some (.cells #[.int .i64 limit] 3 (0,0)):=by rw [hWb,hpb]; exact a2i _ _ _
 have HWb:=Lib.hid (And.intro hsb (And.intro hps (And.intro hBb (And.intro kr (And.intro ke (And.intro ko (And.intro kf kl)))))))
 clear hWb hpb hsb hps hBb kr ke ko kf kl
 gi_wp2
 refine wpIn_rangeFunc ?_
 intro fn hfn
 obtain ⟨hsb,hps,hBb,kr,ke,ko,kf,kl⟩:=HWb.out
 obtain ⟨fv,hfv⟩ : ∃ fv,fv = Value.func (.func 139) #[] #[.pointer (some ⟨pb,0,none⟩),.pointer (some ⟨pb + 1,0,none⟩)]:=⟨_,rfl⟩
 obtain ⟨tm,htm⟩ : ∃ tm,tm = pfTm A f.length c limit w.heap.size (w.heap.size + 1) (w.heap.size + 1 + 1) (.slice A f.length c) (.int .i64 limit) fv undef undef:=⟨_,rfl⟩
 obtain ⟨W1,hW1⟩ : ∃ W1,(Wb.alloc (.deferred (some []))).alloc (.loop (pfRec fn tm Wb.heap.size .ready none)) = W1:=⟨_,rfl⟩
 have hs1 : W1.heap.size = Wb.heap.size + 1 + 1:=by rw [<- hW1]; simp
 have hold : ∀ k,k < Wb.heap.size -> W1.heap[k]? = Wb.heap[k]?:=λ k hk=>by
  rw [<- hW1]; exact (Below.heap_alloc _ _ k (by simp; omega)).trans (Below.heap_alloc _ _ k hk)
 have klp : W1.heap[Wb.heap.size + 1]? = some (.loop (pfRec fn tm Wb.heap.size .ready none)):=by
  rw [<- hW1]; have:=World.alloc_heap_new (Wb.alloc (.deferred (some []))) (.loop (pfRec fn tm Wb.heap.size .ready none)); rwa [World.size_alloc] at this
 have kd : W1.heap[Wb.heap.size]? = some (.deferred (some [])):=by
  rw [<- hW1]; exact (Below.heap_alloc _ _ _ (by simp)).trans (World.alloc_heap_new Wb _)
 have hB1 : Below w.heap.size w W1:=by rw [<- hW1]; exact (hBb.alloc (by omega) _).alloc (by simp; omega) _
 have hLay : Lay w.heap.size w.heap.size (w.heap.size + 1) (w.heap.size + 1 + 1) pb (pb + 1) Wb.heap.size (Wb.heap.size + 1) W1.heap.size:=⟨by omega,by omega,by omega,by omega,by omega,by omega,by omega,by omega⟩
 have hPf : Pf fn tm w.heap.size w.heap.size (w.heap.size + 1) (w.heap.size + 1 + 1) pb (pb + 1) Wb.heap.size (Wb.heap.size + 1) W1.heap.size w f limit [] W1:=
  ⟨⟨A,c,(hold _ (by omega)).trans kf,HX.out.1⟩,(hold _ (by omega)).trans kl,⟨none,0,(hold _ (by omega)).trans ko,Kd.R_nil _ _ _ _ _⟩,(hold _ (by omega)).trans kr,(hold _ (by omega)).trans ke,klp,kd,hB1,Nat.le_refl _⟩
 rw [htm] at hPf
 have hIt:=d0C 2 hLay rfl hPf HX.out.2 hL
 rw [<- htm] at hIt
 have HIt:=Lib.hid hIt
 have HK:=Lib.hid (And.intro hs1 (And.intro hsb hps))
 clear hIt hPf hLay kr ke ko kf kl klp kd hBb hold
 refine ⟨Wb.heap.size + 1,[{ target:=.collected Wb.heap.size,args:=#[] }],W1,{ target:=.fn (.func 139) #[.pointer (some ⟨pb,0,none⟩),.pointer (some ⟨pb + 1,0,none⟩)],args:=#[.func (.yield (Wb.heap.size + 1)) #[] #[]] },W1,139,
  #[.func (.yield (Wb.heap.size + 1)) #[] #[],.pointer (some ⟨pb,0,none⟩),.pointer (some ⟨pb + 1,0,none⟩)],W1,?_,?_,?_,?_,λ h=>(by cases h),?_⟩
 · rw [<- hW1,htm,hfv]; exact run_enterLoop_outer _ _ _ _ _
 · simp [resolve,go_sem]
 · intro f' hf'; exact trivial
 · simp [invoke,go_sem]
 · clear hW1 htm hfv
   refine HIt.out.mono ?_
   rintro e W2 ⟨⟨v,rfl⟩,hX⟩
   obtain ⟨hs1,hsb,hps⟩:=HK.out
   have hend:=run_endLoop (P:=Tryz.prog) hX.lp (by simp [pfRec])
   have hend2 : (Instr.endLoop (Wb.heap.size + 1)).run Tryz.prog W2 = .ok (some .ret) (W2.putObj (Wb.heap.size + 1) (.loop { pfRec fn tm Wb.heap.size .done (some .ret) with state:=.exhausted })):=hend
   obtain ⟨W3,hW3⟩ : ∃ W3,W2.putObj (Wb.heap.size + 1) (.loop { pfRec fn tm Wb.heap.size .done (some .ret) with state:=.exhausted }) = W3:=⟨_,rfl⟩
   rw [hW3] at hend2
   obtain ⟨⟨Ao,co,krr,hRR⟩,kee,-,kdd,hBB⟩:=hX
   have hB3 : Below w.heap.size w W3:=by rw [<- hW3]; exact hBB.putObj (by omega) _
   have kd3 : W3.heap[Wb.heap.size]? = some (.deferred (some [])):=by rw [<- hW3]; exact (World.putObj_heap_other (by omega)).trans kdd
   have kr3 : W3.heap[w.heap.size]? = some (.cells #[.slice Ao (a0u f limit).2.length co] 22 (0,0)):=by rw [<- hW3]; exact (World.putObj_heap_other (by omega)).trans krr
   have ke3 : W3.heap[w.heap.size + 1]? = some (.cells #[.int .i64 (a0u f limit).1] 27 (0,0)):=by rw [<- hW3]; exact (World.putObj_heap_other (by omega)).trans kee
   have hR3 : (Kd.int .u8).R 5 W3 W1.heap.size (λ _=>True) (.slice Ao (a0u f limit).2.length co) (a0u f limit).2:=by rw [<- hW3]; exact R_put hRR (by omega) _
   have hWbs : Wb.heap.size = w.heap.size + 1 + 1 + 1 + 1 + 1:=by omega
   rw [hWbs] at kd3
   have HZ:=Lib.hid (And.intro hB3 (And.intro kd3 (And.intro kr3 (And.intro ke3 hR3))))
   have HD:=Lib.hid (show w.heap.size + 1 < w.heap.size + 1 + 1 + 1 + 1 + 1 /\ w.heap.size + 1 + 1 + 1 + 1 + 1 < W1.heap.size by omega)
   refine ⟨some .ret,W3,hend2,?_⟩
   clear hW3 hend hend2 hBB krr hRR kee kdd hB3 kd3 kr3 ke3 hR3 hs1 hsb hps hWbs HIt HK
   gi_wp2
   exact pfEnd HD.out.1 HZ.out.1 HZ.out.2.2.1 HZ.out.2.2.2.1 HZ.out.2.1 HZ.out.2.2.2.2 HD.out.2 rfl rfl
end Go.Proofs.YtflfjpkmjnnodaaGreat
namespace Go.Proofs.YtflfjpkmjnnodaaGreat
open Go.RowKit Go.IntWalk Go.Proofs.YtflfjpkmjnnodaaGreatW.PrintWords
theorem Only.behind {S : Nat -> Prop} {a b c : World} {B : Nat} (h : Only S a b) (k : Below B b c) (hB : a.heap.size <= B) : Only S a c:=
 ⟨k.os.trans h.os,k.tape.trans h.tape,k.output.trans h.output,Nat.le_trans h.size k.size,λ i hi hs=>(k.block i (Nat.lt_of_lt_of_le hi hB)).trans (h.block i hi hs)⟩
theorem BSl.only {w w' : World} {A : Option Addr} {c : Nat} {p : List Int} {S : Nat -> Prop} (h : BSl w A c p) (ho : Only S w w') (hs : 0 < p.length -> ∀ ad,A = some ad -> ¬ S ad.block) : BSl w' A c p:=
 ⟨a5l h.row (λ hn ad ha=>ho.block _ (a5m h.row hn ha) (hs hn ad ha)),h.cap,h.nil,h.by'⟩
def Apart (p : Nat) (A : Option Addr) (x : List Int) : Prop:=0 < x.length -> ∀ ad,A = some ad -> ad.block ≠ p
end Go.Proofs.YtflfjpkmjnnodaaGreat
namespace Go.Proofs.YtflfjpkmjnnodaaGreat
open Go.RowKit Go.IntWalk Go.Proofs.YtflfjpkmjnnodaaGreatW.PrintWords Go.Proofs.YtflfjpkmjnnodaaGreatW.PrintMore
attribute [local go_sem] a1M
theorem cell9 {w : World} {g : Nat} {a b c d e f n o q : Value} {t : Nat} (h : w.heap[g]? = some (.cells #[a,b,c,d,e,f,n,o,q] t (0,0))) :
    (w.cell? ⟨g,0,none⟩ = some a /\ w.cell? ⟨g,1,none⟩ = some b /\ w.cell? ⟨g,2,none⟩ = some c /\ w.cell? ⟨g,3,none⟩ = some d /\ w.cell? ⟨g,4,none⟩ = some e /\ w.cell? ⟨g,5,none⟩ = some f /\ w.cell? ⟨g,6,none⟩ = some n /\ w.cell? ⟨g,7,none⟩ = some o /\ w.cell? ⟨g,8,none⟩ = some q) /\
    (w.frozen? ⟨g,0,none⟩ = false /\ w.frozen? ⟨g,1,none⟩ = false /\ w.frozen? ⟨g,2,none⟩ = false /\ w.frozen? ⟨g,3,none⟩ = false /\ w.frozen? ⟨g,4,none⟩ = false /\ w.frozen? ⟨g,5,none⟩ = false /\ w.frozen? ⟨g,6,none⟩ = false /\ w.frozen? ⟨g,7,none⟩ = false /\ w.frozen? ⟨g,8,none⟩ = false):=
 ⟨⟨(a0a h 0).trans rfl,(a0a h 1).trans rfl,(a0a h 2).trans rfl,(a0a h 3).trans rfl,(a0a h 4).trans rfl,(a0a h 5).trans rfl,(a0a h 6).trans rfl,(a0a h 7).trans rfl,(a0a h 8).trans rfl⟩,a0e h 0,a0e h 1,a0e h 2,a0e h 3,a0e h 4,a0e h 5,a0e h 6,a0e h 7,a0e h 8⟩
def PullC (p : Nat) (lim lg : Int) (fs : Bool) (sm told k : Int) (tb rest nx : Value) (W : World) : Prop:=W.heap[p]? = some (.cells #[.int .i64 lim,rest,.int .i64 lg,.bool fs,tb,.int .u32 sm,.int .i64 told,.int .i64 k,nx] 128 (0,0))
def pullV (p ph : Nat) : Value:=if ph = 0 then .func (.func 99) #[.pointer (some ⟨p,0,none⟩)] #[] else if ph = 1 then .func (.func 141) #[.pointer (some ⟨p,0,none⟩)] #[] else .func (.func 189) #[.pointer (some ⟨p,0,none⟩)] #[]
def InP (P : Nat -> Prop) (A : Option Addr) (x : List Int) : Prop:=0 < x.length -> ∀ ad,A = some ad -> P ad.block
theorem InP.from_ {P : Nat -> Prop} {A : Option Addr} {c k : Nat} {x : List Int} (h : InP P A x) (hk : k <= x.length) : InP P (if c = k then A else A.map (·.add (k * 1))) (x.drop k):=by
 intro hn ad ha
 rw [List.length_drop] at hn
 split at ha
 · exact h (by omega) ad ha
 · obtain ⟨ad',h1,h2⟩:=Option.map_eq_some_iff.1 ha
   have:=h (by omega) ad' h1
   rw [<- h2]
   show P (ad'.add (k * 1)).block
   rw [a1D]; exact this
theorem InP.apart {P : Nat -> Prop} {p : Nat} {A : Option Addr} {x : List Int} (h : InP P A x) (hp : ¬ P p) : Apart p A x:=λ hn ad ha e=>hp (e ▸ h hn ad ha)
def PullAt (p : Nat) (P : Nat -> Prop) (lim : Int) (s : PSt) (k : Int) (W : World) : Prop:=
 ∃ (t : Nat) (Ar : Option Addr) (cr : Nat),PullC p lim s.log s.first (a0F 0 s.x : Nat) s.x.length k (.pointer (some ⟨t,0,none⟩)) (.slice Ar s.rest.length cr) (pullV p s.ph) W /\ TabAt t 256 W /\ t < p /\ BSl W Ar cr s.rest /\ InP P Ar s.rest /\ ¬ P p
def a5u (p : Nat) (P : Nat -> Prop) (lim : Int) (s : PSt) (k : Int) (r : Bool × Int × PSt) (w : World) (e : Ending) (w' : World) : Prop:=
 ∃ (A : Option Addr) (c : Nat) (y : List Int),e = .returned (.tuple #[.slice A y.length c,.bool r.1,.int .i64 r.2.1]) /\ r.2.2.x = s.x ++ y /\ (Kd.int .u8).R 5 w' w.heap.size (λ _=>True) (.slice A y.length c) y /\ PullAt p P lim r.2.2 k w' /\ Only (λ k=>k = p) w w'
theorem PullAt.keep {p : Nat} {P : Nat -> Prop} {lim k : Int} {s : PSt} {W W' : World} {S : Nat -> Prop} (h : PullAt p P lim s k W) (ho : Only S W W') (hS : ∀ k,S k -> p < k /\ ¬ P k) : PullAt p P lim s k W':=by
 obtain ⟨t,Ar,cr,hk,ht,htp,hr,ha,hpb⟩:=h
 exact ⟨t,Ar,cr,(ho.block p (a0f hk) (λ h=>by have:=(hS p h).1; omega)).trans hk,(ho.block t (a0f ht) (λ h=>by have:=(hS t h).1; omega)).trans ht,htp,hr.only ho (λ hn ad h0 h=>(hS _ h).2 (ha hn ad h0)),ha,hpb⟩
theorem PullAt.below {p : Nat} {P : Nat -> Prop} {lim k : Int} {s : PSt} {W W' : World} (h : PullAt p P lim s k W) (hb : Below W.heap.size W W') : PullAt p P lim s k W':=by
 obtain ⟨t,Ar,cr,hk,ht,htp,hr,ha,hpb⟩:=h
 exact ⟨t,Ar,cr,a0g hk hb,a0g ht hb,htp,hr.below hb,ha,hpb⟩
theorem PullAt.mono {p : Nat} {P Q : Nat -> Prop} {lim k : Int} {s : PSt} {W : World} (h : PullAt p P lim s k W) (hb : ∀ k,P k -> Q k) (hp : ¬ Q p) : PullAt p Q lim s k W:=by
 obtain ⟨t,Ar,cr,hk,ht,htp,hr,ha,hpb⟩:=h
 exact ⟨t,Ar,cr,hk,ht,htp,hr,λ hn ad h0=>hb _ (ha hn ad h0),hp⟩
theorem PullAt.lt {p : Nat} {P : Nat -> Prop} {lim k : Int} {s : PSt} {W : World} (h : PullAt p P lim s k W) : p < W.heap.size:=by
 obtain ⟨t,Ar,cr,hk,-⟩:=h
 exact a0f hk
theorem BSl.below' {w w' : World} {A : Option Addr} {c p : Nat} {x : List Int} (h : BSl w A c x) (ho : Only (λ k=>k = p) w w') (ha : Apart p A x) : BSl w' A c x:=h.only ho ha
theorem d0N {limit : Int} {s : PSt} (h0 : s.ph = 0) {k : Int} (hk : headM (s.rest.take 8) = k) (hne : k ≠ 0) : stepP limit s = (false,k,s):=by
 unfold stepP; rw [if_pos h0,hk,if_pos hne]
theorem d0O {limit : Int} {s : PSt} (h0 : s.ph = 0) (hk : headM (s.rest.take 8) = 0) : stepP limit s = (true,0,{ ph:=1,rest:=s.rest.drop 8,log:=s.rest.getD 5 0,first:=s.first,x:=s.x }):=by
 unfold stepP; rw [if_pos h0,hk,if_neg (λ h=>h rfl)]
set_option maxRecDepth 100000 in
set_option maxHeartbeats 2000000 in
theorem d0P (p : Nat) (P : Nat -> Prop) (lim : Int) (s : PSt) (k : Int) (w : World) (h : PullAt p P lim s k w) (h0 : s.ph = 0) (hL : 0 <= lim) (hL2 : lim < 4611686018427387904) (hrl : s.rest.length <= 1000000) :
    Calls Tryz.prog 99 #[.pointer (some ⟨p,0,none⟩)] w (a5u p P lim s k (stepP lim s) w):=by
 have hAt:=Lib.hid h
 obtain ⟨t,Ar,cr,hk,ht,htp,hr,ha,hpb⟩:=h
 obtain ⟨ph,r,lg,fs,x⟩:=s
 dsimp only at h0 hrl hk hr ha
 subst h0
 obtain ⟨n,hn⟩ : ∃ n,n = min r.length 8:=⟨_,rfl⟩
 have hnr : n <= r.length:=by omega
 have hmin : Builtin.min2 (.int .i64 (r.length : Int)) (.int .i64 8) = pure (.int .i64 (n : Int)):=by
  rw [a1L]
  congr 2
  rw [hn]; split <;> omega
 have htk : r.take n = r.take 8:=by
  by_cases h8 : r.length <= 8
  · rw [List.take_of_length_le h8,show n = r.length by omega,List.take_length]
  · rw [show n = 8 by omega]
 have htl : (r.take 8).length = n:=by rw [<- htk,List.length_take]; omega
 have hs1:=a3L Ar r.length cr n hnr hr.cap
 have s0 : SLater w w:=Below.refl _ _
 have hPx:=d0E hL r
 have HPf : Hid (∀ W : World,SLater w W -> Calls Tryz.prog 45 #[.slice Ar n cr,.int .i64 lim] W (λ e w'=>∃ A m c,e = .returned (.tuple #[.slice A m c,.int .i64 (if headM (r.take 8) ≠ 0 then headM (r.take 8) else 3)]) /\ Below W.heap.size W w')):=Lib.hid (λ W hW=>by
  have h:=b8B Ar cr (r.take 8) lim W ((by rw [<- htk]; exact (hr.below hW).cut hnr)) (by rw [htl]; omega) hL2
  rw [htl,hPx] at h
  refine h.mono ?_
  rintro e w' ⟨A,c,rfl,-,hb⟩
  exact ⟨A,_,c,rfl,hb⟩)
 obtain ⟨⟨c0,c1,c2,c3,c4,c5,c6,c7,c8⟩,f0,f1,f2,f3,f4,f5,f6,f7,f8⟩:=cell9 hk
 have HK:=Lib.hid hk
 by_cases hh : headM (r.take 8) = 0
 · rw [hh,if_neg (λ h=>h rfl)] at HPf
   have h8:=b0P hh
   obtain rfl : n = 8:=by omega
   have hS:=d0O (limit:=lim) (s:={ ph:=0,rest:=r,log:=lg,first:=fs,x:=x }) rfl hh
   have HS:=Lib.hid hS
   have hr8 : 8 <= r.length:=by omega
   obtain ⟨ad,hA,hx5⟩:=a0x hr.row 5 (by omega)
   subst hA
   have hb5:=hr.by'.get 5
   have hI5 : (5 : Int) < (r.length : Int):=by omega
   have hsf:=a2f (some ad) r.length cr 8 hr8
   obtain ⟨Ad,hAd⟩ : ∃ Ad,Ad = (if cr = 8 then some ad else (some ad).map (·.add (8 * 1))):=⟨_,rfl⟩
   have HDr:=Lib.hid (And.intro (hr.from_ (k:=8) hr8) (ha.from_ (c:=cr) (k:=8) hr8))
   rw [<- hAd] at hsf HDr
   obtain ⟨v5,hv5⟩ : ∃ v,v = r.getD 5 0:=⟨_,rfl⟩
   rw [<- hv5] at hx5 hb5 HS
   have hw5 : IntKind.i64.wrap v5 = v5:=i64_in _ (by omega)
   have hdl : (r.drop 8).length = r.length - 8:=List.length_drop
   obtain ⟨rd,hrd⟩ : ∃ rd,rd = r.drop 8:=⟨_,rfl⟩
   rw [<- hrd] at HDr HS hdl
   rw [<- hdl] at hsf
   have hcr8 : (8 : Int) <= (cr : Int):=by have:=hr.cap; omega
   have h8I : (8 : Int) <= (r.length : Int):=by omega
   have hmf : ∀ (fn : Fn) (first cap : Array Value) (w : World),(Instr.makeFunc fn first cap).run Tryz.prog w = .ok (.func fn first cap) w:=λ _ _ _ _=>rfl
   have hsf : ∀ W : World,(Instr.slice 22 (.slice (some ad) r.length cr) (some (.int .i64 8)) none none).run Tryz.prog W = .ok (.slice Ad rd.length (cr - 8)) W:=hsf
   have hs1 : ∀ W : World,(Instr.slice 22 (.slice (some ad) r.length cr) none (some (.int .i64 8)) none).run Tryz.prog W = .ok (.slice (some ad) 8 cr) W:=hs1
   have HT:=Lib.hid (And.intro ht (And.intro htp (And.intro hpb (And.intro hr ha))))
   clear hdl
   have hne5 : ad.add 5 ≠ ⟨p,2,none⟩:=λ e=>by
    have h1:=ha (by omega) ad rfl
    have h2 : (ad.add 5).block = p:=by rw [e]
    rw [a1D] at h2
    rw [h2] at h1
    exact hpb h1
   clear hk ht htp hpb hr ha hh hS hb5 hAd hv5 hrd hPx htk htl hn hAt c0 c1 c2 c3 c4 c5 c6 c7 c8 f0 f1 f2 f3 f4 f5 f6 f7 f8
   obtain ⟨⟨c0,c1,c2,c3,c4,c5,c6,c7,c8⟩,-⟩:=cell9 HK.out
   go_enter Tryz.func99,Tryz.ntmps99
   go_wp2_with fail
   go_cut [7] (λ s7 wx=>s7 = .int .i64 3 /\ Hid (SLater w wx))
   case first=>
    go_region_law (go_simp; go_at_call 45; refine (HPf.out _ (by first | assumption | exact SLater.drew ‹_›)).mono ?_; rintro e w' ⟨A1,m1,c1',rfl,hb⟩; have s1:=(by first | exact SLater.keep ‹_› hb | exact SLater.keep (SLater.drew ‹_›) hb : SLater w w'); clear hb)
    all_goals
     go_wp2_with fail
     go_meet
     exact ⟨rfl,Lib.hid (by first | assumption | exact SLater.drew ‹_›)⟩
   case rest=>
    obtain ⟨rfl,hX⟩:=hcut
    have hk2:=a0g HK.out hX.out
    have e5 : ad.add 5 = ⟨ad.block,ad.off + 5,none⟩:=rfl
    have hx2:=a0q hX.out hx5
    rw [e5] at hx2 hne5
    have HK2:=Lib.hid hk2
    clear c0 c1 c2 c3 c4 c5 c6 c7 c8 hx5
    obtain ⟨⟨c0,c1,c2,c3,c4,c5,c6,c7,c8⟩,f0,f1,f2,f3,f4,f5,f6,f7,f8⟩:=cell9 hk2
    clear hk2
    go_wp2_with fail
    go_ret3
    have ho : Only (λ k=>k = p) w (((wc.setCell ⟨p,2,none⟩ (.int .i64 v5)).setCell ⟨p,1,none⟩ (.slice Ad rd.length (cr - 8))).setCell ⟨p,8,none⟩ (pullV p 1)):=(((Only.of_below (S:=λ k=>k = p) hX.out).setCell (p:=⟨p,2,none⟩) rfl _).setCell (p:=⟨p,1,none⟩) rfl _).setCell (p:=⟨p,8,none⟩) rfl _
    rw [HS.out]
    refine ⟨none,0,[],rfl,(List.append_nil _).symm,Kd.R_nil _ _ _ _ _,⟨t,Ad,cr - 8,?_,?_,HT.out.2.1,HDr.out.1.below' ho (HDr.out.2.apart HT.out.2.2.1),HDr.out.2,HT.out.2.2.1⟩,ho⟩
    · exact (a0i (a0i (a0i HK2.out 2 _) 1 _) 8 _).trans rfl
    · exact (ho.block t (a0f HT.out.1) (by have:=HT.out.2.1; omega)).trans HT.out.1
 · obtain ⟨k',hk'⟩ : ∃ k',k' = headM (r.take 8):=⟨_,rfl⟩
   rw [if_pos hh,<- hk'] at HPf
   have hS:=d0N (limit:=lim) (s:={ ph:=0,rest:=r,log:=lg,first:=fs,x:=x }) rfl hk'.symm (by rw [hk']; exact hh)
   have HS:=Lib.hid hS
   have h38 : k' = 3 -> n < 8:=λ h=>by
    rw [hk'] at h
    refine Classical.byContradiction λ h2=>?_
    have hl : (r.take 8).length = 8:=by omega
    have g : ∀ (d i : Nat),i + d <= 8 -> headG (r.take 8) d i ≠ 3:=by
     intro d
     induction d with
     | zero=>intro i _; unfold headG; decide
     | succ d ih=>
      intro i hi
      unfold headG
      rw [if_neg (by omega)]
      split
      · exact b7f _ _
      · exact ih (i + 1) (by omega)
    exact g 8 0 (by omega) h
   have hd : (k' != 3) = true \/ ((k' != 3) = false /\ decide ((n : Int) < 8) = true):=by
    by_cases h3 : k' = 3
    · have:=h38 h3
      exact .inr ⟨by rw [h3]; rfl,decide_eq_true (by omega)⟩
    · exact .inl (by simpa using h3)
   clear hk ht htp hpb hr ha hh hS hPx htk htl hn hk' h38 c0 c1 c2 c3 c4 c5 c6 c7 c8 f0 f1 f2 f3 f4 f5 f6 f7 f8
   obtain ⟨⟨c0,c1,c2,c3,c4,c5,c6,c7,c8⟩,-⟩:=cell9 HK.out
   rcases hd with q1 | ⟨q1,q2⟩
   all_goals
    go_enter Tryz.func99,Tryz.ntmps99
    go_wp2_with fail
    go_cut [7] (λ s7 wx=>s7 = .int .i64 k' /\ Hid (SLater w wx))
    case first=>
     go_region_law (go_simp; go_at_call 45; refine (HPf.out _ (by first | assumption | exact SLater.drew ‹_›)).mono ?_; rintro e w' ⟨A1,m1,c1',rfl,hb⟩; have s1:=(by first | exact SLater.keep ‹_› hb | exact SLater.keep (SLater.drew ‹_›) hb : SLater w w'); clear hb)
     all_goals
      go_wp2_with fail
      go_meet
      exact ⟨rfl,Lib.hid (by first | assumption | exact SLater.drew ‹_›)⟩
    case rest=>
     obtain ⟨rfl,hX⟩:=hcut
     go_wp2_with fail
     go_ret3
     rw [HS.out]
     exact ⟨none,0,[],rfl,(List.append_nil _).symm,Kd.R_nil _ _ _ _ _,hAt.out.below hX.out,Only.of_below hX.out⟩
theorem d0Q {r x : List Int} (h4 : 4 <= r.length) (h : ∀ j,j < 4 -> r.getD j 0 = (tailL x).getD j 0) : r.take 4 = tailL x:=by
 refine List.ext_getElem (by rw [List.length_take,a1C]; omega) (λ j h1 h2=>?_)
 rw [List.length_take] at h1
 have hj:=h j (by omega)
 rw [List.getD_eq_getElem?_getD,List.getElem?_eq_getElem (by omega),List.getD_eq_getElem?_getD,List.getElem?_eq_getElem h2] at hj
 rw [List.getElem_take]
 exact hj
theorem d0R {r x : List Int} {j : Nat} (hj : j < 4) (h : r.getD j 0 ≠ (tailL x).getD j 0) : r.take 4 ≠ tailL x:=λ e=>h (by rw [<- e,b6V _ hj])
theorem d0S (x : List Int) {j : Nat} (hj : j < 4) : (tailL x).getD j 0 = ((a0F 0 x / 256 ^ j % 256 : Nat) : Int):=by
 have:=b6P (n:=a0F 0 x) hj []
 rw [List.append_nil] at this
 exact this
theorem step2 {limit : Int} {s : PSt} (h0 : s.ph ≠ 0) (h1 : s.ph ≠ 1) {k : Int} (hk : a0S s.rest s.x = k) : stepP limit s = (false,k,s):=by
 unfold stepP; rw [if_neg h0,if_neg h1,hk]
set_option maxRecDepth 100000 in
set_option maxHeartbeats 2000000 in
theorem d0T (p : Nat) (P : Nat -> Prop) (lim : Int) (s : PSt) (k : Int) (w : World) (h : PullAt p P lim s k w) (h0 : s.ph ≠ 0) (h1 : s.ph ≠ 1) :
    Calls Tryz.prog 189 #[.pointer (some ⟨p,0,none⟩)] w (a5u p P lim s k (stepP lim s) w):=by
 have hAt:=Lib.hid h
 obtain ⟨t,Ar,cr,hk,ht,htp,hr,ha,hpb⟩:=h
 obtain ⟨k',hk'⟩ : ∃ k',a0S s.rest s.x = k':=⟨_,rfl⟩
 have HS:=Lib.hid (step2 (limit:=lim) h0 h1 hk')
 rw [HS.out]
 have HK':=Lib.hid hk'
 obtain ⟨ph,r,lg,fs,x⟩:=s
 dsimp only at hk hr ha HK'
 obtain ⟨⟨c0,c1,c2,c3,c4,c5,c6,c7,c8⟩,-⟩:=cell9 hk
 have hDone : a5u p P lim ⟨ph,r,lg,fs,x⟩ k (false,k',⟨ph,r,lg,fs,x⟩) w (.returned (.tuple #[.slice none 0 0,.bool false,.int .i64 k'])) w:=⟨none,0,[],rfl,(List.append_nil _).symm,Kd.R_nil _ _ _ _ _,hAt.out,Only.refl _ _⟩
 have HD:=Lib.hid hDone
 have HR:=Lib.hid hr
 by_cases h4 : r.length < 4
 · have hI : (r.length : Int) < 4:=by omega
   obtain rfl : k' = 3:=by rw [<- HK'.out]; exact b8n h4
   clear hk ht htp hr ha hpb hk' h0 h1 hDone h4
   go_enter Tryz.func189,Tryz.ntmps189
   go_wp2_with fail
   go_ret3
   exact HD.out
 · have hI : ¬ (r.length : Int) < 4:=by omega
   have hs1:=a3L Ar r.length cr 4 (by omega) hr.cap
   have hs1 : ∀ W : World,(Instr.slice 22 (.slice Ar r.length cr) none (some (.int .i64 4)) none).run Tryz.prog W = .ok (.slice Ar 4 cr) W:=hs1
   obtain ⟨sm,hsm⟩ : ∃ sm,sm = a0F 0 x:=⟨_,rfl⟩
   have hsml : sm < 4294967296:=by rw [hsm]; have:=a4s 0 x; omega
   rw [<- hsm] at c5
   have HSm:=Lib.hid hsm
   have HL:=Lib.hid h4
   have h4c : (4 : Int) <= (cr : Int):=by have:=hr.cap; omega
   have h4r : (4 : Int) <= (r.length : Int):=by omega
   clear hk ht htp hr ha hpb hk' h0 h1 hDone h4 hsm
   go_enter Tryz.func189,Tryz.ntmps189
   go_wp2_with fail
   go_loopw [5,6,19] (λ _ _ iv wr=>∃ i : Nat,i <= 4 /\ iv = .int .i64 i /\ wr = w /\ Hid (∀ j,j < i -> r.getD j 0 = (tailL x).getD j 0)) (λ _ _ iv _=>4 - (intOf iv).toNat)
   case atStart=>exact ⟨0,by omega,rfl,by first | rfl | trivial,Lib.hid (λ j hj=>by omega)⟩
   case round=>
    obtain ⟨i,hi,rfl,rfl,H⟩:=hrel
    by_cases hlt : i < 4
    · obtain ⟨ad,hA,hcx⟩:=a0x HR.out.row i (by have:=HL.out; omega)
      subst hA
      have hbx:=HR.out.by'.get i
      obtain ⟨z,hz⟩ : ∃ z,z = r.getD i 0:=⟨_,rfl⟩
      rw [<- hz] at hcx hbx
      have HG:=Lib.hid (d0S x hlt)
      rw [<- HSm.out] at HG
      have HN : Hid (z = ((sm / 256 ^ i % 256 : Nat) : Int) -> ∀ j,j < i + 1 -> r.getD j 0 = (tailL x).getD j 0):=Lib.hid (λ h j hj=>by
       by_cases e : j = i
       · rw [e,<- hz,HG.out,h]
       · exact H.out j (by omega))
      have HE : Hid (¬ z = ((sm / 256 ^ i % 256 : Nat) : Int) -> k' = 15):=Lib.hid (λ h=>by
       rw [<- HK'.out]
       exact b8o HL.out (d0R hlt (by rw [<- hz,HG.out]; exact h)))
      have hI4 : (i : Int) < 4:=by omega
      have hi4 : i = 0 \/ i = 1 \/ i = 2 \/ i = 3:=by omega
      clear hz hlt hi
      rcases hi4 with rfl | rfl | rfl | rfl
      · have e1 : ad.add 0 = ad:=by simp [Addr.add]
        rw [e1] at hcx
        by_cases hq : z = (sm : Int) % 256
        · have q : (z != (sm : Int) % 256) = false:=by simp [hq]
          have HN2:=Lib.hid (HN.out (by rw [hq]; simp))
          clear hq
          go_wp2_with fail
          go_roundw
          case rel=>exact ⟨0 + 1,by omega,by go_num,by first | rfl | trivial,HN2⟩
          case measure=>first | (simp [intOf]; done) | (simp [intOf]; omega)
        · have q : (z != (sm : Int) % 256) = true:=by simpa using hq
          obtain rfl:=HE.out (by intro h; apply hq; rw [h]; simp)
          clear hq
          go_wp2_with fail
          go_ret3
          exact HD.out
      · have e1 : ad.add 1 = ⟨ad.block,ad.off + 1,none⟩:=rfl
        rw [e1] at hcx
        by_cases hq : z = (sm : Int) / 256 % 256
        · have q : (z != (sm : Int) / 256 % 256) = false:=by simp [hq]
          have HN2:=Lib.hid (HN.out (by rw [hq]; simp))
          clear hq
          go_wp2_with fail
          go_roundw
          case rel=>exact ⟨1 + 1,by omega,by go_num,by first | rfl | trivial,HN2⟩
          case measure=>first | (simp [intOf]; done) | (simp [intOf]; omega)
        · have q : (z != (sm : Int) / 256 % 256) = true:=by simpa using hq
          obtain rfl:=HE.out (by intro h; apply hq; rw [h]; simp)
          clear hq
          go_wp2_with fail
          go_ret3
          exact HD.out
      · have e1 : ad.add 2 = ⟨ad.block,ad.off + 2,none⟩:=rfl
        rw [e1] at hcx
        by_cases hq : z = (sm : Int) / 65536 % 256
        · have q : (z != (sm : Int) / 65536 % 256) = false:=by simp [hq]
          have HN2:=Lib.hid (HN.out (by rw [hq]; simp))
          clear hq
          go_wp2_with fail
          go_roundw
          case rel=>exact ⟨2 + 1,by omega,by go_num,by first | rfl | trivial,HN2⟩
          case measure=>first | (simp [intOf]; done) | (simp [intOf]; omega)
        · have q : (z != (sm : Int) / 65536 % 256) = true:=by simpa using hq
          obtain rfl:=HE.out (by intro h; apply hq; rw [h]; simp)
          clear hq
          go_wp2_with fail
          go_ret3
          exact HD.out
      · have e1 : ad.add 3 = ⟨ad.block,ad.off + 3,none⟩:=rfl
        rw [e1] at hcx
        by_cases hq : z = (sm : Int) / 16777216
        · have q : (z != (sm : Int) / 16777216) = false:=by simp [hq]
          have HN2:=Lib.hid (HN.out (by rw [hq]; simp; omega))
          clear hq
          go_wp2_with fail
          go_roundw
          case rel=>exact ⟨3 + 1,by omega,by go_num,by first | rfl | trivial,HN2⟩
          case measure=>first | (simp [intOf]; done) | (simp [intOf]; omega)
        · have q : (z != (sm : Int) / 16777216) = true:=by simpa using hq
          obtain rfl:=HE.out (by intro h; apply hq; rw [h]; simp; omega)
          clear hq
          go_wp2_with fail
          go_ret3
          exact HD.out
    · obtain rfl : i = 4:=by omega
      have hT:=d0Q (by have:=HL.out; omega) H.out
      have hB:=b8p HL.out hT
      rw [HK'.out] at hB
      by_cases h5 : 4 < r.length
      · rw [if_pos h5] at hB
        subst hB
        have hI5 : (4 : Int) < (r.length : Int):=by omega
        clear h5 hT
        go_wp2_with fail
        go_ret3
        exact HD.out
      · rw [if_neg h5] at hB
        subst hB
        have hI5 : ¬ (4 : Int) < (r.length : Int):=by omega
        clear h5 hT
        go_wp2_with fail
        go_ret3
        exact HD.out
end Go.Proofs.YtflfjpkmjnnodaaGreat
namespace Go.Proofs.YtflfjpkmjnnodaaGreat
open Go.RowKit Go.IntWalk Go.Proofs.YtflfjpkmjnnodaaGreatW.PrintWords
def d0U (r : Int × List Int × Nat × Bool) (w : World) (s5 s6 s7 s8 : Value) (wx : World) : Prop:=
 ∃ A c,s5 = .slice A r.2.1.length c /\ s6 = .int .i64 (r.2.2.1 : Nat) /\ s7 = .bool r.2.2.2 /\ s8 = .int .i64 r.1 /\ Hid ((Kd.int .u8).R 5 wx w.heap.size (λ _=>True) (.slice A r.2.1.length c) r.2.1 /\ SLater w wx)
theorem d0V {limit : Int} {s : PSt} (h1 : s.ph = 1) {k : Int} (hk : (openM s.rest s.log s.first (limit - s.x.length)).1 = k) (hne : k ≠ 0) : stepP limit s = (false,k,s):=by
 unfold stepP; rw [if_neg (by omega),if_pos h1,hk,if_pos hne]
theorem d0W {limit : Int} {s : PSt} (h1 : s.ph = 1) {y : List Int} {u : Nat} {l : Bool} (hk : openM s.rest s.log s.first (limit - s.x.length) = (0,y,u,l)) : stepP limit s = (true,0,{ ph:=if l = true then 2 else 1,rest:=s.rest.drop u,log:=s.log,first:=false,x:=s.x ++ y }):=by
 unfold stepP; rw [if_neg (by omega),if_pos h1,hk]
 exact if_neg (λ h=>h rfl)
set_option maxRecDepth 100000 in
set_option maxHeartbeats 4000000 in
theorem d0X (p : Nat) (P : Nat -> Prop) (lim : Int) (s : PSt) (k : Int) (w : World) (h : PullAt p P lim s k w) (h0 : s.ph = 1) (hL : (s.x.length : Int) <= lim) (hL2 : lim < 4611686018427387904) (hrl : s.rest.length <= 1000000) (hxb : Bytes s.x) :
    Calls Tryz.prog 141 #[.pointer (some ⟨p,0,none⟩)] w (a5u p P lim s k (stepP lim s) w):=by
 have hAt:=Lib.hid h
 obtain ⟨t,Ar,cr,hk,ht,htp,hr,ha,hpb⟩:=h
 obtain ⟨ph,r,lg,fs,x⟩:=s
 dsimp only at h0 hrl hk hr ha hL hxb
 subst h0
 have hw1 : IntKind.i64.wrap (lim - (x.length : Int)) = lim - (x.length : Int):=i64_in _ (by omega)
 have hOp : ∀ W : World,SLater w W -> Calls Tryz.prog 36 #[.slice Ar r.length cr,.int .i64 lg,.bool fs,.int .i64 (lim - (x.length : Int))] W (OpenPost (openM r lg fs (lim - (x.length : Int))) W):=λ W hW=>
  b1p Ar cr r lg fs (lim - (x.length : Int)) W (hr.below hW).row hr.by' hrl hr.cap
 have hOl:=λ h=>b1r hr.by' (log:=lg) (room:=lim - (x.length : Int)) (first:=fs) h
 have hOu:=λ h=>a3M (f:=r) (log:=lg) (room:=lim - (x.length : Int)) (first:=fs) h
 obtain ⟨⟨c0,c1,c2,c3,c4,c5,c6,c7,c8⟩,-⟩:=cell9 hk
 have HK:=Lib.hid hk
 have s0 : SLater w w:=Below.refl _ _
 obtain ⟨k',y,u,l,hO⟩ : ∃ k' y u l,openM r lg fs (lim - (x.length : Int)) = (k',y,u,l):=⟨_,_,_,_,rfl⟩
 rw [hO] at hOp hOl hOu
 dsimp only at hOl hOu
 have HOp:=Lib.hid hOp
 by_cases hz : k' = 0
 · subst hz
   have HS:=Lib.hid (d0W (limit:=lim) (s:={ ph:=1,rest:=r,log:=lg,first:=fs,x:=x }) rfl hO)
   obtain ⟨o1,o2,o3⟩:=hOl rfl
   obtain ⟨u1,u2⟩:=hOu rfl
   have hsf:=a2f Ar r.length cr u u2
   obtain ⟨Ad,hAd⟩ : ∃ Ad,Ad = (if cr = u then Ar else Ar.map (·.add (u * 1))):=⟨_,rfl⟩
   have HDr:=Lib.hid (And.intro (hr.from_ (k:=u) u2) (ha.from_ (c:=cr) (k:=u) u2))
   rw [<- hAd] at hsf HDr
   have hdl : (r.drop u).length = r.length - u:=List.length_drop
   obtain ⟨rd,hrd⟩ : ∃ rd,rd = r.drop u:=⟨_,rfl⟩
   dsimp only at HS
   rw [<- hrd] at HDr HS hdl
   rw [<- hdl] at hsf
   have huc : (u : Int) <= (cr : Int):=by have:=hr.cap; omega
   have hur : (u : Int) <= (r.length : Int):=by omega
   have hw2 : IntKind.i64.wrap ((x.length : Int) + (y.length : Int)) = (x.length : Int) + (y.length : Int):=i64_in _ (by omega)
   obtain ⟨sm0,hs0⟩ : ∃ s0,s0 = a0F 0 x:=⟨_,rfl⟩
   obtain ⟨sm1,hs1⟩ : ∃ s1,s1 = a0F sm0 y:=⟨_,rfl⟩
   have hs0l : sm0 <= 4294967295:=by rw [hs0]; exact a4s _ _
   have HCrc:=Lib.hid (show a0F 0 (x ++ y) = sm1 by rw [hs1,hs0]; exact b6L (by decide) hxb)
   rw [<- hs0] at c5
   have hmf : ∀ (fn : Fn) (first cap : Array Value) (w : World),(Instr.makeFunc fn first cap).run Tryz.prog w = .ok (.func fn first cap) w:=λ _ _ _ _=>rfl
   have HT:=Lib.hid (And.intro ht (And.intro htp (And.intro hpb (And.intro o1 (And.intro o3 (And.intro hs1 (And.intro hs0 hs0l)))))))
   clear hdl
   clear hk ht htp hpb hr ha hO hOp hOl hOu hAd hrd hAt o1 o2 o3 u1 u2 hxb hL hs0 hs1 hs0l
   go_enter Tryz.func141,Tryz.ntmps141
   go_wp2_with fail
   go_cut [5,6,7,8] (λ s5 s6 s7 s8 wx=>d0U (0,y,u,l) w s5 s6 s7 s8 wx)
   case first=>
    go_region_held3 (λ w'=>Below w.heap.size w w' /\ w'.cell? ⟨p,0,none⟩ = some (.int .i64 lim) /\ w'.cell? ⟨p,1,none⟩ = some (.slice Ar r.length cr) /\ w'.cell? ⟨p,2,none⟩ = some (.int .i64 lg) /\ w'.cell? ⟨p,3,none⟩ = some (.bool fs) /\ w'.cell? ⟨p,6,none⟩ = some (.int .i64 (x.length : Int))) ((repeat' apply And.intro) <;> first | exact Below.refl _ _ | exact (Below.refl _ _).drew | assumption | exact a0q hb ‹_› | (refine a4B ?_ ?_ hb <;> first | assumption | exact Below.size (by assumption)) | exact ⟨hb.os,hb.tape,hb.output,hb.size,hb.block⟩)
     (first | (go_at_call 36; refine (HOp.out _ (by first | exact (Below.refl _ _).drew | exact And.left (by assumption))).mono ?_; rintro e w' ⟨A1,c1',rfl,hv,hb⟩))
    all_goals
     go_wp2_with fail
     go_meet
     exact ⟨_,_,rfl,rfl,rfl,rfl,Lib.hid ⟨hv,a0k (Below.refl w.heap.size w).drew hb⟩⟩
   case rest=>
    obtain ⟨A5,c5',rfl,rfl,rfl,rfl,hX⟩:=hcut
    dsimp only at hX ⊢
    have hk2:=a0g HK.out hX.out.2
    have HK2:=Lib.hid hk2
    clear c0 c1 c2 c3 c4 c5 c6 c7 c8
    obtain ⟨⟨c0,c1,c2,c3,c4,c5,c6,c7,c8⟩,f0,f1,f2,f3,f4,f5,f6,f7,f8⟩:=cell9 hk2
    clear hk2
    go_wp2_with fail
    obtain ⟨w3,hw3⟩ : ∃ w3,w3 = ((wc.setCell ⟨p,1,none⟩ (.slice Ad rd.length (cr - u))).setCell ⟨p,3,none⟩ (.bool false)).setCell ⟨p,6,none⟩ (.int .i64 ((x.length : Int) + (y.length : Int))):=⟨_,rfl⟩
    rw [<- hw3]
    have hk3 : PullC p lim lg false sm0 ((x.length : Int) + (y.length : Int)) k (.pointer (some ⟨t,0,none⟩)) (.slice Ad rd.length (cr - u)) (pullV p 1) w3:=by rw [hw3,HT.out.2.2.2.2.2.2.1]; exact (a0i (a0i (a0i HK2.out 1 _) 3 _) 6 _).trans rfl
    have hoc : Only (λ k=>k = p) wc w3:=by rw [hw3]; exact (((Only.refl (λ k=>k = p) wc).setCell (p:=⟨p,1,none⟩) rfl _).setCell (p:=⟨p,3,none⟩) rfl _).setCell (p:=⟨p,6,none⟩) rfl _
    have ho3 : Only (λ k=>k = p) w w3:=(Only.of_below hX.out.2).trans hoc
    have ht3 : TabAt t 256 w3:=(ho3.block t (a0f HT.out.1) (by have:=HT.out.2.1; omega)).trans HT.out.1
    have hy3 : (Kd.int .u8).R 5 w3 w.heap.size (λ _=>True) (.slice A5 y.length c5') y:=a1B hX.out.1 hoc (λ k hk h=>by have:=a0f HK.out; omega)
    have hy3r:=(Kd.R_reads' hy3).2.2
    have HAd : Hid (∀ W : World,SLater w3 W -> Calls Tryz.prog 134 #[.pointer (some ⟨t,0,none⟩),.int .u32 sm0,.slice A5 y.length c5'] W (λ e W'=>e = .returned (.int .u32 sm1) /\ W = W')):=Lib.hid (λ W hW=>by
     have h2:=b0R t sm0 A5 c5' y W (ht3.later hW) HT.out.2.2.2.2.2.2.2 (Kd.C_below hy3r hW) (by have:=HT.out.2.2.2.1; omega) HT.out.2.2.2.2.1
     rw [<- HT.out.2.2.2.2.2.1] at h2
     exact h2)
    clear c0 c1 c2 c3 c4 c5 c6 c7 c8 f0 f1 f2 f3 f4 f5 f6 f7 f8
    obtain ⟨⟨c0,c1,c2,c3,c4,c5,c6,c7,c8⟩,f0,f1,f2,f3,f4,f5,f6,f7,f8⟩:=cell9 hk3
    have s3 : SLater w3 w3:=Below.refl _ _
    have H3:=Lib.hid (And.intro hk3 (And.intro ho3 (And.intro ht3 hy3)))
    clear hw3 hk3 hoc ho3 ht3 hy3 hy3r s0
    go_cut [] (λ wx=>Hid (∃ W,SLater w3 W /\ SLater (W.setCell ⟨p,5,none⟩ (.int .u32 sm1)) wx))
    case first=>
     go_region_law (go_simp; go_at_call 134; refine (HAd.out _ (by first | assumption | exact SLater.drew ‹_›)).mono ?_; rintro e w' ⟨rfl,rfl⟩)
     all_goals
      go_wp2_with fail
      go_meet
      first | exact Lib.hid ⟨w3,Below.refl _ _,Below.refl _ _⟩ | exact Lib.hid ⟨w3,Below.refl _ _,(Below.refl _ _).drew⟩ | exact Lib.hid ⟨w3,Below.refl _ _,(Below.refl _ _).drew.drew⟩
    case rest=>
     obtain ⟨W,hW,hB⟩:=hcut.out
     have hoW : Only (λ k=>k = p) w W:=H3.out.2.1.trans (Only.of_below hW)
     have ho4 : Only (λ k=>k = p) w wc:=(hoW.setCell (p:=⟨p,5,none⟩) rfl (.int .u32 sm1)).trans (Only.of_below hB)
     have hk4 : PullC p lim lg false sm1 ((x.length : Int) + (y.length : Int)) k (.pointer (some ⟨t,0,none⟩)) (.slice Ad rd.length (cr - u)) (pullV p 1) wc:=a0g ((a0i (a0g H3.out.1 hW) 5 _).trans rfl) hB
     have hy4 : (Kd.int .u8).R 5 wc w.heap.size (λ _=>True) (.slice A5 y.length c5') y:=Kd.R_below (a1B (Kd.R_below H3.out.2.2.2 hW) ((Only.refl (λ k=>k = p) W).setCell (p:=⟨p,5,none⟩) rfl (.int .u32 sm1)) (λ k hk h=>by have:=a0f HK.out; omega)) hB
     clear c0 c1 c2 c3 c4 c5 c6 c7 c8 f0 f1 f2 f3 f4 f5 f6 f7 f8
     obtain ⟨⟨c0,c1,c2,c3,c4,c5,c6,c7,c8⟩,f0,f1,f2,f3,f4,f5,f6,f7,f8⟩:=cell9 hk4
     have H4:=Lib.hid (And.intro hk4 (And.intro hy4 ho4))
     clear hoW hk4 hy4 ho4 hB hW hcut
     cases l with
     | true=>
      go_wp2_with fail
      go_ret3
      have ho : Only (λ k=>k = p) w (wc.setCell ⟨p,8,none⟩ (pullV p 2)):=H4.out.2.2.setCell (p:=⟨p,8,none⟩) rfl _
      rw [HS.out]
      refine ⟨A5,c5',y,rfl,rfl,a1B H4.out.2.1 ((Only.refl (λ k=>k = p) wc).setCell (p:=⟨p,8,none⟩) rfl _) (λ k hk h=>by have:=a0f HK.out; omega),⟨t,Ad,cr - u,?_,(ho.block t (a0f HT.out.1) (by have:=HT.out.2.1; omega)).trans HT.out.1,HT.out.2.1,HDr.out.1.below' ho (HDr.out.2.apart HT.out.2.2.1),HDr.out.2,HT.out.2.2.1⟩,ho⟩
      have h8:=(a0i H4.out.1 8 (pullV p 2)).trans rfl
      unfold PullC
      dsimp only
      rw [HCrc.out,List.length_append]
      exact h8
     | false=>
      go_wp2_with fail
      go_ret3
      have ho:=H4.out.2.2
      rw [HS.out]
      refine ⟨A5,c5',y,rfl,rfl,H4.out.2.1,⟨t,Ad,cr - u,?_,(ho.block t (a0f HT.out.1) (by have:=HT.out.2.1; omega)).trans HT.out.1,HT.out.2.1,HDr.out.1.below' ho (HDr.out.2.apart HT.out.2.2.1),HDr.out.2,HT.out.2.2.1⟩,ho⟩
      have h8:=H4.out.1
      unfold PullC at h8 ⊢
      dsimp only
      rw [HCrc.out,List.length_append]
      exact h8
 · have HS:=Lib.hid (d0V (limit:=lim) (s:={ ph:=1,rest:=r,log:=lg,first:=fs,x:=x }) rfl (show (openM r lg fs (lim - (x.length : Int))).1 = k' by rw [hO]) hz)
   have hz2 : (k' != 0) = true:=by simpa using hz
   clear hk ht htp hpb hr ha hO hOp hOl hOu hL hxb hz
   go_enter Tryz.func141,Tryz.ntmps141
   go_wp2_with fail
   go_cut [5,6,7,8] (λ s5 s6 s7 s8 wx=>s8 = .int .i64 k' /\ Hid (SLater w wx))
   case first=>
    go_region_held3 (λ w'=>Below w.heap.size w w' /\ w'.cell? ⟨p,0,none⟩ = some (.int .i64 lim) /\ w'.cell? ⟨p,1,none⟩ = some (.slice Ar r.length cr) /\ w'.cell? ⟨p,2,none⟩ = some (.int .i64 lg) /\ w'.cell? ⟨p,3,none⟩ = some (.bool fs) /\ w'.cell? ⟨p,6,none⟩ = some (.int .i64 (x.length : Int))) ((repeat' apply And.intro) <;> first | exact Below.refl _ _ | exact (Below.refl _ _).drew | assumption | exact a0q hb ‹_› | (refine a4B ?_ ?_ hb <;> first | assumption | exact Below.size (by assumption)) | exact ⟨hb.os,hb.tape,hb.output,hb.size,hb.block⟩)
     (first | (go_at_call 36; refine (HOp.out _ (by first | exact (Below.refl _ _).drew | exact And.left (by assumption))).mono ?_; rintro e w' ⟨A1,c1',rfl,hv,hb⟩))
    all_goals
     go_wp2_with fail
     go_meet
     exact ⟨rfl,Lib.hid (a0k (Below.refl w.heap.size w).drew hb)⟩
   case rest=>
    obtain ⟨rfl,hX⟩:=hcut
    go_wp2_with fail
    go_ret3
    rw [HS.out]
    exact ⟨none,0,[],rfl,(List.append_nil _).symm,Kd.R_nil _ _ _ _ _,hAt.out.below hX.out,Only.of_below hX.out⟩
set_option maxRecDepth 100000 in
theorem b8C (p : Nat) (k : Int) (w : World) (h : w.cell? ⟨p,7,none⟩ = some (.int .i64 k)) :
    Calls Tryz.prog 100 #[.pointer (some ⟨p,0,none⟩)] w (λ e w'=>e = .returned (.bool (decide (k ≠ 0 /\ k ≠ 3))) /\ w = w'):=by
 by_cases h0 : k = 0
 · subst h0
   go_enter Tryz.func100,Tryz.ntmps100
   go_wp2_with fail
   go_ret
   exact ⟨rfl,rfl⟩
 · have q0 : (k != 0) = true:=by simpa using h0
   by_cases h3 : k = 3
   · subst h3
     go_enter Tryz.func100,Tryz.ntmps100
     go_wp2_with fail
     go_ret
     exact ⟨rfl,rfl⟩
   · have q3 : (k != 3) = true:=by simpa using h3
     have hd:=Lib.hid (show decide (k ≠ 0 /\ k ≠ 3) = true from decide_eq_true ⟨h0,h3⟩)
     clear h0 h3
     go_enter Tryz.func100,Tryz.ntmps100
     go_wp2_with fail
     go_ret
     rw [hd.out]
     exact ⟨rfl,rfl⟩
def PullSt (p b0 : Nat) (lim : Int) (f : List Int) (W : World) : Prop:=
 (∃ lg fs sm tb rest nx,PullC p lim lg fs sm (pullR lim f).2.x.length (pullR lim f).1 tb rest nx W) /\ (((pullR lim f).1 = 0 \/ (pullR lim f).1 = 3) -> PullAt p (λ k=>b0 <= k) lim (pullR lim f).2 (pullR lim f).1 W) /\ p < b0
def d0Y (p : Nat) (lim : Int) (f b : List Int) (w : World) (e : Ending) (w' : World) : Prop:=
 ∃ A c y,e = .returned (.tuple #[.slice A y.length c,.int .i64 (errF (pullR lim (f ++ b)).1)]) /\ (pullR lim (f ++ b)).2.x = (pullR lim f).2.x ++ y /\ (Kd.int .u8).R 5 w' w.heap.size (λ _=>True) (.slice A y.length c) y /\ PullSt p w.heap.size lim (f ++ b) w' /\ Only (λ k=>k = p) w w'
theorem PullAt.cells {p : Nat} {P : Nat -> Prop} {lim : Int} {s : PSt} {k : Int} {W : World} (h : PullAt p P lim s k W) : ∃ lg fs sm tb rest nx,PullC p lim lg fs sm s.x.length k tb rest nx W:=by
 obtain ⟨t,Ar,cr,hk,-⟩:=h
 exact ⟨_,_,_,_,_,_,hk⟩
theorem PullAt.err {p : Nat} {P : Nat -> Prop} {lim : Int} {s : PSt} {k : Int} {W : World} (h : PullAt p P lim s k W) (k' : Int) : PullAt p P lim s k' (W.setCell ⟨p,7,none⟩ (.int .i64 k')):=by
 obtain ⟨t,Ar,cr,hk,ht,htp,hr,ha,hpb⟩:=h
 have ho : Only (λ k=>k = p) W (W.setCell ⟨p,7,none⟩ (.int .i64 k')):=(Only.refl (λ k=>k = p) W).setCell (p:=⟨p,7,none⟩) rfl _
 exact ⟨t,Ar,cr,(a0i hk 7 _).trans rfl,(ho.block t (a0f ht) (by omega)).trans ht,htp,hr.below' ho (ha.apart hpb),ha,hpb⟩
theorem b8D {p ph : Nat} (h : ph = 0) : pullV p ph = .func (.func 99) #[.pointer (some ⟨p,0,none⟩)] #[]:=by subst h; rfl
theorem b8E {p ph : Nat} (h : ph = 1) : pullV p ph = .func (.func 141) #[.pointer (some ⟨p,0,none⟩)] #[]:=by subst h; rfl
theorem b8F {p ph : Nat} (h0 : ph ≠ 0) (h1 : ph ≠ 1) : pullV p ph = .func (.func 189) #[.pointer (some ⟨p,0,none⟩)] #[]:=by unfold pullV; rw [if_neg h0,if_neg h1]
def phM (v : Value) : Nat:=match v with
 | .func (.func f) _ _=>if f = 99 then 2 else if f = 141 then 1 else 0
 | _=>0
def onN (v : Value) : Nat:=match v with
 | .bool true=>1
 | _=>0
theorem phM_v (p ph : Nat) : phM (pullV p ph) = if ph = 0 then 2 else if ph = 1 then 1 else 0:=by
 by_cases h0 : ph = 0
 · rw [b8D h0,if_pos h0]; rfl
 · by_cases h1 : ph = 1
   · rw [b8E h1,if_neg h0,if_pos h1]; rfl
   · rw [b8F h0 h1,if_neg h0,if_neg h1]; rfl
structure PLoop (p : Nat) (lim : Int) (x0 : List Int) (Rr : Int × PSt) (w W1 : World) (on : Bool) (Lo : List Int) (Ao : Option Addr) (co : Nat) (W : World) : Prop where
 out : (Kd.int .u8).R 5 W W1.heap.size (λ _=>True) (.slice Ao Lo.length co) Lo
 st : ∃ s k n,PullAt p (λ j=>w.heap.size <= j /\ j < W1.heap.size) lim s k W /\ s.x = x0 ++ Lo /\ Bytes s.rest /\ Bytes s.x /\ s.x.length + 131072 * s.rest.length <= 131072000000 /\ (s.x.length : Int) <= lim /\ (on = true -> runP lim n s = Rr /\ leftP s < n) /\ (on = false -> Rr = (k,s))
 on : Only (λ k=>k = p) W1 W
set_option maxRecDepth 100000 in
set_option maxHeartbeats 4000000 in
theorem d0Z (p b0 : Nat) (lim : Int) (f b : List Int) (A : Option Addr) (c : Nat) (w : World) (h : PullSt p b0 lim f w) (hL : 0 <= lim) (hL2 : lim < 4611686018427387904) (hf : Bytes f) (hb : BSl w A c b) (hap : Apart p A b) (hl : f.length + b.length <= 1000000) :
    Calls Tryz.prog 58 #[.pointer (some ⟨p,0,none⟩),.slice A b.length c] w (d0Y p lim f b w):=by
 obtain ⟨⟨lg,fs,sm,tb,rest,nx,hk⟩,hst,hpb⟩:=h
 have hplt:=a0f hk
 obtain ⟨K,hK⟩ : ∃ K,K = pullR lim f:=⟨_,rfl⟩
 rw [<- hK] at hk hst
 obtain ⟨⟨c0,c1,c2,c3,c4,c5,c6,c7,c8⟩,-⟩:=cell9 hk
 have HStp:=Lib.hid (b8C p K.1 w c7)
 by_cases hs : K.1 ≠ 0 /\ K.1 ≠ 3
 · rw [decide_eq_true hs] at HStp
   obtain ⟨e1,e2⟩:=b8z (limit:=lim) (f:=f) b (by rw [<- hK]; exact hs.2) (by rw [<- hK]; exact hs.1)
   have HE:=Lib.hid (And.intro e1 (And.intro e2 (And.intro hK (And.intro hs (And.intro hk hplt)))))
   clear hst hs e1 e2 hK hk hplt hf hb hap c0 c1 c2 c3 c4 c5 c6 c8
   go_enter Tryz.func58,Tryz.ntmps58
   go_wp2_with fail
   refine HStp.out.mono ?_
   rintro e w1 ⟨rfl,rfl⟩
   go_wp2_with fail
   go_quiet (fail)
   go_wp2_with fail
   go_ret2
   have hb1 : Below w.heap.size w (w.drewN nq):=a0b (Below.refl _ _) _
   have hkk : (pullR lim (f ++ b)).1 = K.1:=by rw [HE.out.1,HE.out.2.2.1]
   refine ⟨none,0,[],?_,by rw [HE.out.2.1,List.append_nil],Kd.R_nil _ _ _ _ _,⟨⟨lg,fs,sm,tb,rest,nx,?_⟩,λ h=>?_,HE.out.2.2.2.2.2⟩,Only.of_below hb1⟩
   · rw [hkk]; unfold errF; rw [if_neg HE.out.2.2.2.1.2]; rfl
   · rw [hkk,HE.out.2.1,<- HE.out.2.2.1]; exact a0g HE.out.2.2.2.2.1 hb1
   · rw [hkk] at h; exact absurd h (by rintro (h | h); exact HE.out.2.2.2.1.1 h; exact HE.out.2.2.2.1.2 h)
 · rw [decide_eq_false hs] at HStp
   have hs' : K.1 = 0 \/ K.1 = 3:=by
    by_cases h0 : K.1 = 0
    · exact .inl h0
    · exact .inr (Classical.byContradiction λ h=>hs ⟨h0,h⟩)
   obtain ⟨g1,g2,g3,g4⟩:=a8i lim hf
   rw [<- hK] at g1 g2 g3 g4
   clear hk c0 c1 c2 c3 c4 c5 c6 c7 c8 hs
   obtain ⟨t,Ar,cr,hk,ht,htp,hr,ha,hpb2⟩:=hst hs'
   obtain ⟨⟨c0,c1,c2,c3,c4,c5,c6,c7,c8⟩,f0,f1,f2,f3,f4,f5,f6,f7,f8⟩:=cell9 (a0h hk (.cells #[] 5))
   have HE0 : Hid ((Kd.int .u8).R 5 (w.alloc (.cells #[] 5)) w.heap.size (λ _=>True) (.slice (some ⟨w.heap.size,0,none⟩) 0 0) []):=a2j .u8 5 w w.heap.size (λ _=>True) trivial (Nat.le_refl _) [] (by decide)
   have HB0 : Hid (Below w.heap.size w (w.alloc (.cells #[] 5))):=(Below.refl _ _).alloc (Nat.le_refl _) _
   have HRow0 : Hid ((Kd.int .u8).C (w.alloc (.cells #[] 5)) Ar K.2.rest.length K.2.rest):=Kd.C_alloc hr.row _
   have HL1 : Hid (([] : List Int).length + K.2.rest.length <= 140737488355328):=Lib.hid (by simp; omega)
   have HL2 : Hid (K.2.rest.length + b.length <= 140737488355328):=Lib.hid (by omega)
   have HM:=Lib.hid (λ m (hm : leftP (addP K.2 b) < m)=>by have:=b1u lim f b (m:=m) (by rw [<- hK]; exact hm); rw [<- hK] at this; exact this)
   have hgr:=a8i lim (f:=f ++ b) (λ z hz=>(List.mem_append.1 hz).elim (hf z) (hb.by' z))
   rw [List.length_append] at hgr
   obtain ⟨Rr,hRr⟩ : ∃ R,R = pullR lim (f ++ b):=⟨_,rfl⟩
   rw [<- hRr] at HM hgr
   have H0:=Lib.hid (And.intro hk (And.intro ht (And.intro htp (And.intro hr (And.intro hb (And.intro hap (And.intro hplt hpb)))))))
   have HG:=Lib.hid (And.intro g1 (And.intro g2 (And.intro g3 (And.intro (g4 hL) (And.intro hRr (And.intro hK hgr.2.2.1))))))
   obtain ⟨r0,hr0⟩ : ∃ r,r = K.2.rest:=⟨_,rfl⟩
   rw [<- hr0] at c1 HRow0 HL1 HL2
   have HR0:=Lib.hid hr0
   clear hst hs' g1 g2 g3 g4 hk ht htp hr ha hpb2 hK hRr hgr hf hb hap hplt hr0
   go_enter Tryz.func58,Tryz.ntmps58
   go_wp2_with fail
   refine HStp.out.mono ?_
   rintro e w1 ⟨rfl,rfl⟩
   go_wp2_with (at_builtin; first
    | (refine app8 rfl rfl rfl rfl HE0 HRow0 HB0 HB0.out.size HL1 ?_
       intro A3 c3' w3 hr3 hb3 _
       rw [List.nil_append] at hr3
       have e3 : ([] : List Int).length + r0.length = r0.length:=by simp
       rw [e3] at hr3 ⊢
       have HO3:=Lib.hid hr3
       have HB3:=Lib.hid hb3
       have HC3:=Lib.hid (Kd.C_below H0.out.2.2.2.2.1.row hb3)
       clear hr3 hb3 e3)
    | (refine app8 rfl rfl rfl rfl HO3 HC3 HB3 HB3.out.size HL2 ?_
       intro A4 c4' w4 hr4 hb4 _
       have H4:=Lib.hid (And.intro hr4 hb4)
       have k4:=a0g H0.out.1 hb4
       obtain ⟨⟨d0,d1,d2,d3,d4,d5,d6,d7,d8⟩,k0,k1,k2,k3,k4',k5,k6,k7,k8⟩:=cell9 k4
       clear hr4 hb4 k4 c0 c1 c2 c3 c4 c5 c6 c7 c8 f0 f1 f2 f3 f4 f5 f6 f7 f8))
   obtain ⟨nr,hnr⟩ : ∃ nr,nr = r0 ++ b:=⟨_,rfl⟩
   have hnl : r0.length + b.length = nr.length:=by rw [hnr,List.length_append]
   rw [hnl]
   obtain ⟨W1,hW1⟩ : ∃ W1,W1 = w4.setCell ⟨p,1,none⟩ (.slice A4 nr.length c4'):=⟨_,rfl⟩
   rw [<- hW1]
   have ho41 : Only (λ k=>k = p) w4 W1:=by rw [hW1]; exact (Only.refl (λ k=>k = p) w4).setCell (p:=⟨p,1,none⟩) rfl _
   have hr4:=H4.out.1
   rw [hnl,<- hnr] at hr4
   have hr1 : (Kd.int .u8).R 5 W1 w.heap.size (λ _=>True) (.slice A4 nr.length c4') nr:=a1B hr4 ho41 (λ k hk h=>by have:=H0.out.2.2.2.2.2.2.1; omega)
   have hnb : Bytes nr:=by rw [hnr]; exact λ z hz=>(List.mem_append.1 hz).elim (by rw [HR0.out]; exact HG.out.2.1 z) (H0.out.2.2.2.2.1.by' z)
   have ho1 : Only (λ k=>k = p) w W1:=(Only.of_below H4.out.2).trans ho41
   have hAt : PullAt p (λ j=>w.heap.size <= j /\ j < W1.heap.size) lim (addP K.2 b) K.1 W1:=by
    have er : (addP K.2 b).rest = nr:=by rw [hnr,HR0.out]; rfl
    refine ⟨t,A4,c4',?_,(ho1.block t (a0f H0.out.2.1) (by have:=H0.out.2.2.1; omega)).trans H0.out.2.1,H0.out.2.2.1,by rw [er]; exact BSl.of hr1 hnb,?_,λ h=>by have:=H0.out.2.2.2.2.2.2.1; omega⟩
    · rw [er,hW1]; exact (a0i (a0g H0.out.1 H4.out.2) 1 _).trans rfl
    · intro _ ad ha
      have h1:=(Kd.R_bound hr1).1 ad.block (by rw [ha]; rfl)
      exact ⟨h1.2.1,h1.2.2.1⟩
   have HI : Hid (PLoop p lim K.2.x Rr w W1 true [] none 0 W1):=Lib.hid ⟨Kd.R_nil _ _ _ _ _,⟨addP K.2 b,K.1,leftP (addP K.2 b) + 1,hAt,(List.append_nil _).symm,by
       have er : (addP K.2 b).rest = nr:=by rw [hnr,HR0.out]; rfl
       rw [er]; exact hnb,HG.out.1,by
       have er : (addP K.2 b).rest = nr:=by rw [hnr,HR0.out]; rfl
       rw [er,<- hnl,HR0.out]; have:=HG.out.2.2.1; show K.2.x.length + _ <= _; omega,HG.out.2.2.2.1,λ _=>⟨(HM.out _ (Nat.lt_succ_self _)).symm,Nat.lt_succ_self _⟩,(λ h=>by cases h)⟩,Only.refl _ _⟩
   have HW1:=Lib.hid (And.intro ho1 (Nat.le_trans H4.out.2.size ho41.size))
   clear hnr hnl hW1 ho41 hr4 hr1 hnb ho1 hAt d0 d1 d2 d3 d4 d5 d6 d7 d8 k0 k1 k2 k3 k4' k5 k6 k7 k8
   go_loopw [6,7,8] (λ ov onv _ wr=>∃ (Lo : List Int) (Ao : Option Addr) (co : Nat) (on : Bool),ov = .slice Ao Lo.length co /\ onv = .bool on /\ Hid (PLoop p lim K.2.x Rr w W1 on Lo Ao co wr)) (λ _ onv _ wr=>slN ((wr.cell? ⟨p,1,none⟩).getD undef) + phM ((wr.cell? ⟨p,8,none⟩).getD undef) + onN onv)
   case atStart=>exact ⟨[],none,0,true,rfl,rfl,HI⟩
   case round=>
    obtain ⟨Lo,Ao,co,on,rfl,rfl,H⟩:=hrel
    obtain ⟨s,k,n,hAt,hx,hrb,hxb,hrl,hxl,hon,hoff⟩:=H.out.st
    cases on with
    | true=>
     obtain ⟨hrun,hleft⟩:=hon rfl
     have hcell:=hAt
     obtain ⟨t',Ar',cr',hk',-⟩:=hcell
     have m1 : slN ((wr.cell? ⟨p,1,none⟩).getD undef) + phM ((wr.cell? ⟨p,8,none⟩).getD undef) + onN (.bool true) = leftP s + 1:=by
      rw [show wr.cell? ⟨p,1,none⟩ = some (.slice Ar' s.rest.length cr') from (a0a hk' 1).trans rfl,show wr.cell? ⟨p,8,none⟩ = some (pullV p s.ph) from (a0a hk' 8).trans rfl,Option.getD_some,Option.getD_some,phM_v]
      rfl
     obtain ⟨F,hF,hF8,hT⟩ : ∃ F,(F = 99 \/ F = 141 \/ F = 189) /\ wr.cell? ⟨p,8,none⟩ = some (.func (.func F) #[.pointer (some ⟨p,0,none⟩)] #[]) /\ Calls Tryz.prog F #[.pointer (some ⟨p,0,none⟩)] wr (a5u p (λ j=>w.heap.size <= j /\ j < W1.heap.size) lim s k (stepP lim s) wr):=by
      have h8 : wr.cell? ⟨p,8,none⟩ = some (pullV p s.ph):=(a0a hk' 8).trans rfl
      by_cases h0 : s.ph = 0
      · exact ⟨_,.inl rfl,by rw [h8,b8D h0],d0P p _ lim s k wr hAt h0 hL hL2 (by omega)⟩
      · by_cases h1 : s.ph = 1
        · exact ⟨_,.inr (.inl rfl),by rw [h8,b8E h1],d0X p _ lim s k wr hAt h1 hxl hL2 (by omega) hxb⟩
        · exact ⟨_,.inr (.inr rfl),by rw [h8,b8F h0 h1],d0T p _ lim s k wr hAt h0 h1⟩
     have HT:=Lib.hid hT
     have HS:=Lib.hid (And.intro hx (And.intro hrb (And.intro hxb (And.intro hrl (And.intro hxl (And.intro hrun (And.intro hleft m1)))))))
     obtain ⟨on',k',s',hst⟩ : ∃ on' k' s',stepP lim s = (on',k',s'):=⟨_,_,_,rfl⟩
     have HSt:=Lib.hid hst
     rw [hst] at HT
     unfold a5u at HT
     dsimp only at HT
     clear hAt hx hrb hxb hrl hxl hon hoff hrun hleft hk' hT hst
     rcases hF with rfl | rfl | rfl
     all_goals
      go_wp2_with fail
      refine HT.out.mono ?_
      rintro e w5 ⟨A5,c5',y,rfl,hx5,hy5,hat5,ho5⟩
      have hcell:=hat5
      obtain ⟨t5,Ar5,cr5,hk5,-⟩:=hcell
      obtain ⟨⟨-,-,-,-,-,-,-,c7,-⟩,-,-,-,-,-,-,-,f7,-⟩:=cell9 hk5
      have hpW : p < W1.heap.size:=by have:=H0.out.2.2.2.2.2.2.1; have:=HW1.out.2; omega
      obtain ⟨w6,hw6⟩ : ∃ w6,w6 = w5.setCell ⟨p,7,none⟩ (.int .i64 k'):=⟨_,rfl⟩
      have ho56 : Only (λ k=>k = p) w5 w6:=by rw [hw6]; exact (Only.refl (λ k=>k = p) w5).setCell (p:=⟨p,7,none⟩) rfl _
      have hat6 : PullAt p (λ j=>w.heap.size <= j /\ j < W1.heap.size) lim s' k' w6:=by rw [hw6]; exact hat5.err k'
      have ho6 : Only (λ k=>k = p) wr w6:=ho5.trans ho56
      have HO6 : Hid ((Kd.int .u8).R 5 w6 W1.heap.size (λ _=>True) (.slice Ao Lo.length co) Lo):=Lib.hid (a1B H.out.out ho6 (λ k hk h=>by omega))
      have hy6 : (Kd.int .u8).R 5 w6 wr.heap.size (λ _=>True) (.slice A5 y.length c5') y:=a1B hy5 ho56 (λ k hk h=>by have:=H.out.on.size; omega)
      have HC6 : Hid ((Kd.int .u8).C w6 A5 y.length y):=Lib.hid (Kd.R_reads' hy6).2.2
      have HB6 : Hid (Below W1.heap.size w6 w6):=Lib.hid (Below.refl _ _)
      have HS6 : Hid (W1.heap.size <= w6.heap.size):=Lib.hid (Nat.le_trans H.out.on.size ho6.size)
      obtain ⟨z,e1,e2,e3,e4,e5,e6,e7⟩:=b8A lim s HS.out.2.1
      rw [HSt.out] at e1 e3 e4 e5 e7
      dsimp only at e1 e3 e4 e5 e7
      have hzy : z = y:=List.append_cancel_left (e1.symm.trans hx5)
      subst hzy
      have HZ : Hid (Lo.length + z.length <= 140737488355328):=Lib.hid (by
       have h1 : s'.x.length = K.2.x.length + (Lo.length + z.length):=by rw [e1,HS.out.1,List.length_append,List.length_append]; omega
       have h2:=HS.out.2.2.2.1
       have h3 : s'.x.length = s.x.length + z.length:=by rw [e1,List.length_append]
       omega)
      have hsz : s'.x.length + 131072 * s'.rest.length <= 131072000000:=by
       have h2:=HS.out.2.2.2.1
       have h3 : s'.x.length = s.x.length + z.length:=by rw [e1,List.length_append]
       omega
      have H6:=Lib.hid (And.intro hat6 (And.intro ho6 (And.intro e1 (And.intro e2 (And.intro e3 (And.intro hsz (And.intro (e7 HS.out.2.2.2.2.1) hpW)))))))
      clear hat5 ho5 hx5 hy5 hk5 ho56 hat6 ho6 hy6 e1 e2 e3 e4 e5 e6 e7 hpW
      go_wp2_with (at_builtin; first
       | (rw [<- hw6]; refine app8 rfl rfl rfl rfl HO6 HC6 HB6 HS6.out HZ ?_; intro A7 c7' w7 hr7 hb7 hg7; have HR7:=Lib.hid (And.intro hr7 (And.intro hb7 hg7)); clear hr7 hb7 hg7))
      clear hw6
      have hown : ∀ j,(Value.slice Ao Lo.length co).ownBlock = some j -> W1.heap.size <= j:=λ j hj=>((Kd.R_bound HO6.out).1 j hj).2.1
      have hat7 : PullAt p (λ j=>w.heap.size <= j /\ j < W1.heap.size) lim s' k' w7:=by
       obtain ⟨t,Ar,cr,hk,ht,htp,hr,ha,hpb⟩:=H6.out.1
       have hne : ∀ j,j < W1.heap.size -> some j ≠ (Value.slice Ao Lo.length co).ownBlock:=λ j hj e=>by have:=hown j e.symm; omega
       exact ⟨t,Ar,cr,a0L hk HR7.out.2.2 (hne p H6.out.2.2.2.2.2.2.2),a0L ht HR7.out.2.2 (hne t (by have:=H6.out.2.2.2.2.2.2.2; omega)),htp,⟨a5l hr.row (λ hn ad h0=>HR7.out.2.2.block _ (a5m hr.row hn h0) (hne _ (ha hn ad h0).2)),hr.cap,hr.nil,hr.by'⟩,ha,hpb⟩
      have ho7 : Only (λ k=>k = p) W1 w7:=(H.out.on.trans H6.out.2.1).behind HR7.out.2.1 (Nat.le_refl _)
      have hcell:=hat7
      obtain ⟨t7,Ar7,cr7,hk7,-⟩:=hcell
      have m2 : slN ((w7.cell? ⟨p,1,none⟩).getD undef) + phM ((w7.cell? ⟨p,8,none⟩).getD undef) = leftP s':=by
       rw [show w7.cell? ⟨p,1,none⟩ = some (.slice Ar7 s'.rest.length cr7) from (a0a hk7 1).trans rfl,show w7.cell? ⟨p,8,none⟩ = some (pullV p s'.ph) from (a0a hk7 8).trans rfl,Option.getD_some,Option.getD_some,phM_v]
       rfl
      have hx7 : s'.x = K.2.x ++ (Lo ++ z):=by rw [H6.out.2.2.1,HS.out.1,List.append_assoc]
      have hxb7 : Bytes s'.x:=by rw [H6.out.2.2.1]; exact λ q hq=>(List.mem_append.1 hq).elim (HS.out.2.2.1 q) (H6.out.2.2.2.1 q)
      have HF7:=Lib.hid (And.intro hat7 (And.intro ho7 (And.intro m2 (And.intro hx7 hxb7))))
      clear hat7 ho7 hk7 m2 hx7 hxb7 hown
      obtain ⟨n,rfl⟩ : ∃ m,n = m + 1:=⟨n - 1,by have:=HS.out.2.2.2.2.2.2.1; omega⟩
      go_roundw
      case rel=>
       refine ⟨Lo ++ z,A7,c7',on',by rw [List.length_append],rfl,Lib.hid ⟨by rw [List.length_append]; exact HR7.out.1,⟨s',k',n,HF7.out.1,HF7.out.2.2.2.1,H6.out.2.2.2.2.1,HF7.out.2.2.2.2,H6.out.2.2.2.2.2.1,H6.out.2.2.2.2.2.2.1,λ h=>?_,λ h=>?_⟩,HF7.out.2.1⟩⟩
       · subst h
         have hg:=a4t (limit:=lim) (s:=s) (by rw [HSt.out])
         rw [HSt.out] at hg
         have hr:=HS.out.2.2.2.2.2.1
         rw [b1t n (by rw [HSt.out]),HSt.out] at hr
         exact ⟨hr,by have:=HS.out.2.2.2.2.2.2.1; dsimp only at hg; omega⟩
       · subst h
         have hr:=HS.out.2.2.2.2.2.1
         have hss:=b1s (limit:=lim) (s:=s) (by rw [HSt.out]; exact Bool.false_ne_true)
         rw [HSt.out] at hss
         dsimp only at hss
         rw [a8g n (by rw [HSt.out]; exact Bool.false_ne_true),HSt.out] at hr
         rw [<- hr,hss]
      case measure=>
       rw [HF7.out.2.2.1,HS.out.2.2.2.2.2.2.2]
       cases on' with
       | true=>
        have hg:=a4t (limit:=lim) (s:=s) (by rw [HSt.out])
        rw [HSt.out] at hg
        show leftP s' + 1 < leftP s + 1
        exact Nat.succ_lt_succ hg
       | false=>
        have hss:=b1s (limit:=lim) (s:=s) (by rw [HSt.out]; exact Bool.false_ne_true)
        rw [HSt.out] at hss
        dsimp only at hss
        rw [hss]
        exact Nat.lt_succ_self _
    | false=>
     have hR:=hoff rfl
     have hcell:=hAt
     obtain ⟨t',Ar',cr',hk',-⟩:=hcell
     obtain ⟨⟨-,-,-,-,-,-,-,c7,-⟩,-⟩:=cell9 hk'
     have HSp:=Lib.hid (b8C p k wr c7)
     have hfin : pullR lim (f ++ b) = (k,s):=by rw [<- HG.out.2.2.2.2.1,hR]
     have hon1 : Only (λ k=>k = p) w wr:=HW1.out.1.trans H.out.on
     have hOut : (Kd.int .u8).R 5 wr w.heap.size (λ _=>True) (.slice Ao Lo.length co) Lo:=Kd.R_lower H.out.out HW1.out.2
     have hSt : ∀ W,Below wr.heap.size wr W -> PullSt p w.heap.size lim (f ++ b) W:=λ W hW=>by
      unfold PullSt
      rw [hfin]
      exact ⟨(hAt.below hW).cells,λ _=>(hAt.below hW).mono (λ j hj=>hj.1) (by have:=H0.out.2.2.2.2.2.2.1; omega),H0.out.2.2.2.2.2.2.1⟩
     have HZ:=Lib.hid (And.intro hfin (And.intro hon1 (And.intro hOut (And.intro hSt hx))))
     clear hAt hx hrb hxb hrl hxl hon hoff hR hk' hfin hon1 hOut hSt
     go_wp2_with fail
     refine HSp.out.mono ?_
     rintro e w8 ⟨rfl,rfl⟩
     by_cases hk : k ≠ 0 /\ k ≠ 3
     · rw [decide_eq_true hk]
       have hkE:=Lib.hid (show errF k = k by unfold errF; exact if_neg hk.2)
       clear hk
       go_wp2_with fail
       go_quiet (fail)
       go_wp2_with fail
       go_ret2
       have hb8 : Below wr.heap.size wr (wr.drewN nq):=a0b (Below.refl _ _) _
       refine ⟨Ao,co,Lo,?_,by rw [HZ.out.1,<- HG.out.2.2.2.2.2.1]; exact HZ.out.2.2.2.2,Kd.R_below HZ.out.2.2.1 hb8,HZ.out.2.2.2.1 _ hb8,HZ.out.2.1.trans (Only.of_below hb8)⟩
       rw [HZ.out.1]
       show _ = Ending.returned (.tuple #[_,.int .i64 (errF k)])
       rw [hkE.out]
       rfl
     · rw [decide_eq_false hk]
       have hkE:=Lib.hid (show errF k = 0 by
        unfold errF
        split
        · rfl
        · rename_i h3
          exact Classical.byContradiction λ h=>hk ⟨h,h3⟩)
       clear hk
       go_wp2_with fail
       go_ret2
       refine ⟨Ao,co,Lo,?_,by rw [HZ.out.1,<- HG.out.2.2.2.2.2.1]; exact HZ.out.2.2.2.2,HZ.out.2.2.1,HZ.out.2.2.2.1 _ (Below.refl _ _),HZ.out.2.1⟩
       rw [HZ.out.1]
       show _ = Ending.returned (.tuple #[_,.int .i64 (errF k)])
       rw [hkE.out]
       rfl
end Go.Proofs.YtflfjpkmjnnodaaGreat
